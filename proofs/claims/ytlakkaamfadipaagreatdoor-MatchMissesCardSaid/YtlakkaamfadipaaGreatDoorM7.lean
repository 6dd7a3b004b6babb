/- A part of a proof; the claim's last text says of what. -/
import Derived.Lib.Strings
import Derived.Laws.BytesArg
import Derived.Test.YtlakkaamfadipaaGreatDoorM6
set_option linter.all false
open Option renaming some->N,none->Y
open List renaming length->F

namespace Go.Pm
open Go Go.RowKit
variable{q:Bool}{S:Mem}{b T:Nat}{U:aM}{X Q:aT}{R:ag}
def kV{T:TypeId}(h:fO U T=N q):(isAgg T).run U X=.ok q X:=by
 unfold fO at h;split at h<;>simp only[aa,reduceCtorEq]at h<;>subst h;.rename_i f a;simp[isAgg,run_underlying a]
 .rename_i n e a;simp[isAgg,run_underlying a]
 rename_i d c b a;simp only[isAgg,Sem.run_bind,run_underlying a,Result.andThen_ok];cases d<;>first|rfl|(exact absurd rfl (c _))|(exact absurd rfl (b _ _))
def A8{a:TypeId}{v:Value}(hT:fO U a=N false)(c:X.cell? ⟨b,T,Y⟩=N v): (Instr.loadAt a (.pointer (N ⟨b,T,Y⟩))).run U X=.ok v X:=by simp[Instr.loadAt,Instr.sureAddr,loadVar,kV hT,c]
def A9{P:aM}{a:TypeId}{t:TypeInfo}(f:Nat->Value)(hT:fO P a=N true)(e:P.info? a=N t)(g:∀j,j<t.size->X.cell? ⟨b,T+j,Y⟩=N (f j)):
  (Instr.loadAt a (.pointer (N ⟨b,T,Y⟩))).run P X=.ok (.agg ((List.range t.size).map f).toArray) X:=by have d:=run_loadCells (P:=P) X ⟨b,T,Y⟩ t.size f (λj c=>by rw[Addr.add_lit];exact g j c);simp[Instr.loadAt,Instr.sureAddr,loadVar,kV hT,sizeOf,typeInfo,e,d]
def mo{a:Array Value}{fr:Nat×Nat}(h:X.heap[b]?=N (.cells a T fr))(j:Nat):X.cell? ⟨b,j,Y⟩=a[j]?:=by simp[World.cell?,h]
def gU.rowAt(hS:gU U b X Q R S){id E e k g:Nat}{f:cD}(B:R[id]?=N (.row E e k g q f)): Ti U E e k/\(∀r∈f,F r=e)/\((S id=.slice Y 0 0/\f=[]) \/∃a c d,S id=.slice (N ⟨a,0,Y⟩) (F f) c/\Q.heap[a]?=N (.cells d E (0,0))/\F f<=c/\c<=maxLen/\d.size=c*e /\∀i j x,gp f i j=N x->x.pure=true/\∃v,Q.cell? ⟨a,i*e+j,Y⟩=N v/\VR Q R S x v):=by
 obtain⟨hT,o,⟨I,z⟩,C,p⟩:=hS.obj id _ B;refine⟨hT,C,?_⟩;rcases z with⟨m,n⟩|⟨a,c,d,m,n,s,u,w,D,y⟩;.exact .inl ⟨m,aL n⟩
 refine .inr ⟨a,c,d,m,s,u,w,D,λi j x t=>⟨(p i j x t).1,?_⟩⟩;obtain⟨v,l,G⟩:=(p i j x t).2;refine⟨v,?_,G⟩;rw[mo s];rw[<- y]at l;have H:i*e+j<F f*e:=by
  rcases gF (i*e+j) (F f*e)with h|h;.exact h
  rw[bK (by simp;omega)]at l;simp at l
 rw[bF H]at l;simpa using l
def gU.NI(hS:gU U b X Q R S){id T:Nat}{d:ao}(f:R[id]?=N (.box T d)): ∃a c,S id=.pointer (N ⟨a,0,Y⟩)/\b<=a/\Q.heap[a]?=N (.cells c T (0,0))/\c.size=F d/\∀j x,d[j]?=N x->∃u,Q.cell? ⟨a,j,Y⟩=N u/\VR Q R S x u:=by obtain⟨a,c,l,g,e,k,n⟩:=hS.obj id _ f;refine⟨a,c,l,g,e,k,λj x h=>?_⟩;obtain⟨u,i,m⟩:=n j x h;exact⟨u,by rw[mo e];exact i,m⟩
def IK{P:aM}{J:ag}{μ:Mem}{T:TypeId}{t:TypeInfo}{b off:Nat}{k:bP}{row:ao}(r:P.info? T=N t) (l:(k=Y/\fO P T=N false)\/(k=N t.size/\fO P T=N true)) (d:Nat) (q:∀j y,row[d+j]?=N y->∃u,X.cell? ⟨b,off+j,Y⟩=N u/\VR X J μ y u) : (k=Y->∀y,row[d]?=N y->∃v,(Instr.loadAt T (.pointer (N ⟨b,off,Y⟩))).run P X=.ok v X/\VR X J μ y v) /\(∀n,k=N n->d+n<=F row->∃v,(Instr.loadAt T (.pointer (N ⟨b,off,Y⟩))).run P X=.ok v X/\VR X J μ (.agg ((row.drop d).take n)) v):=by
 constructor;.rintro rfl y a;obtain⟨u,c,e⟩:=q 0 y a;have hT:=l.resolve_right (by simp);exact⟨u,A8 hT.2 (by simpa using c),e⟩
 rintro n rfl B;have hT:=l.resolve_left (by simp);simp only[aa]at hT;obtain⟨rfl,hT⟩:=hT;have m:∀j,j<t.size->∃u,X.cell? ⟨b,off+j,Y⟩=N u/\∃y,row[d+j]?=N y/\VR X J μ y u:=by
  intro j p;have o:d+j<F row:=by omega
  obtain⟨u,c,e⟩:=q j row[d+j] (an o);exact⟨u,c,row[d+j],an o,e⟩
 let f:Nat->Value:=λj=>(X.cell? ⟨b,off+j,Y⟩).getD undef;have s:∀j,j<t.size->X.cell? ⟨b,off+j,Y⟩=N (f j):=by intro j p;obtain⟨u,c,_⟩:=m j p;simp[f,c]
 refine⟨.agg ((List.range t.size).map f).toArray,A9 f hT r s,.agg _ _ (by simp;omega) ?_⟩;intro i y a;have g:i<t.size:=by
  rcases gF i t.size with h|h;.exact h
  rw[bK (by simp;omega)]at a;simp at a
 rw[bF g,dV]at a;obtain⟨u,c,z,e,x⟩:=m i g;rw[e]at a;simp only[aa]at a;subst a;have:(((List.range t.size).map f).toArray.getD i undef)=u:=by
  have w:f i=u:=by simp[f,c]
  simp[g,w]
 rw[this];exact x
def yg{P:aM}{o:Oper}{a:Act}{J:ag}{μ:Mem}{c:TypeId}{x:Operand}{t:TypeInfo}{k:bP}{row:ao} (h:o.op=.load c x) (i:a.eval x=.pointer (N ⟨b,T,Y⟩)) (p:P.info? c=N t) (e:(k=Y/\fO P c=N false)\/(k=N t.size/\fO P c=N true)) (d:Nat) (s:∀j y,row[d+j]?=N y->∃u,X.cell? ⟨b,T+j,Y⟩=N u/\VR X J μ y u) : (k=Y->∀y,row[d]?=N y->Yields P o a X J μ y)/\(∀n,k=N n->d+n<=F row->Yields P o a X J μ (.agg ((row.drop d).take n))):=by
 obtain⟨r,l⟩:=IK (P:=P) (row:=row) p e d s;constructor;.intro e y m;obtain⟨v,f,g⟩:=r e y m;exact .pure (v:=v) (by simp[execOp,h,i,f]) g
 intro n e q;obtain⟨v,f,g⟩:=l n e q;exact .pure (v:=v) (by simp[execOp,h,i,f]) g
section de
variable {P:aM} {o:Oper} {a:Act} {B:Nat} {w0 w:aT} {J:ag} {μ:Mem} {fr:ao} (hF:FR w J μ fr a) (hS:gU P B w0 w J μ)
include hF hS
theorem QJ{T:TypeId}{x:Operand}{S:O}{t:TypeInfo}{k:bP}(H:o.op=.load T x)(hx:cO x=N S)(G:P.info? T=N t) (K:(k=Y/\fO P T=N false)\/(k=N t.size/\fO P T=N true)) {Q:Prop} {y:V} (h:ba fr J (.load k S)=N (Q,y)) (q:Q):Yields P o a w J μ y:=by
 have p:=dp hF hx;simp only[ba]at h;split at h
 .rename_i id c B;rw[B]at p;obtain⟨b,M,r,_⟩:=p.pK;split at h
  .rename_i T' X D;obtain⟨b',vs,m,hB,hh,gv,U⟩:=hS.NI D;rw[M]at m;simp only[Value.pointer.injEq,aa,Addr.mk.injEq,lq]at m;subst m;have l:=yg (P:=P) (J:=J) (μ:=μ) (row:=X) (k:=k) H r G K c (λj z d=>U _ z d);split at h
   .split at h;.rename_i z d;simp only[aa,aB]at h;obtain⟨_,rfl⟩:=h;exact l.1 rfl _ d
    simp at h
   simp only[aa,aB]at h;obtain⟨rfl,rfl⟩:=h;exact l.2 _ rfl q
  simp at h
 .rename_i R e i c B;rw[B]at p;obtain⟨b,o',f,r,n,cH,hc,V8⟩:=p.Gz;have s:e[i]?=N e[i]:=an n;have l:=yg (P:=P) (J:=J) (μ:=μ) (row:=e[i]) (k:=k) H r G K c (λj z d=>by
   have C:gp e i (c+j)=N z:=by rw[o7 s];exact d
   exact⟨f (c+j),by rw[gB];exact(hc _ z C).1,V8 _ z C⟩);split at h
  .split at h;.rename_i z d;simp only[aa,aB]at h;obtain⟨_,rfl⟩:=h;rw[o7 s]at d;exact l.1 rfl _ d
   simp at h
  simp only[aa,aB]at h;obtain⟨rfl,rfl⟩:=h;have v:e.getD i []=e[i]:=by simp[n]
  rw[v]at q |-;exact l.2 _ rfl q
 .rename_i id g i c B;rw[B]at p;split at h
  .rename_i E R af g' sh e D;split at h
   .rename_i v;subst v;obtain⟨n,r⟩:=p.Gy D;obtain⟨_,cH,L⟩:=hS.rowAt D;have s:e[i]?=N e[i]:=an n;rcases L with⟨_,hn⟩|⟨b,ad,ac,M,hh,_,_,_,L⟩;.subst hn;simp at n
    have I:a.eval x=.pointer (N ⟨b,i*R+c,Y⟩):=by rw[r,M];rfl
    have l:=yg (P:=P) (J:=J) (μ:=μ) (row:=e[i]) (k:=k) H I G K c (λj z d=>by
     have C:gp e i (c+j)=N z:=by rw[o7 s];exact d
     obtain⟨_,u,h3,W⟩:=L _ _ z C;exact⟨u,by rw[gB];exact h3,W⟩);split at h
    .split at h;.rename_i z d;simp only[aa,aB]at h;obtain⟨_,rfl⟩:=h;rw[o7 s]at d;exact l.1 rfl _ d
     simp at h
    simp only[aa,aB]at h;obtain⟨rfl,rfl⟩:=h;have v:e.getD i []=e[i]:=by simp[n]
    rw[v]at q |-;exact l.2 _ rfl q
   simp at h
  simp at h
 simp at h
theorem UA{x:Operand}{p:O}(B:o.op=.nilCheck x)(I:cO x=N p){u:Prop}{y:V}(h:ba fr J (.dE p)=N (u,y)):Yields P o a w J μ y:=by
 have c:=dp hF I;have m:∀n,a.eval x=.pointer (N n)->(execOp a.eval o).run P w=.ok (.value (.pointer (N n))) w:=by intro n K;simp[execOp,B,K]
 simp only[ba]at h;split at h<;>(try simp only[aa,aB,reduceCtorEq]at h);.rename_i id e k;obtain⟨_,rfl⟩:=h;rw[k]at c;have d:=c;obtain⟨b,r,f,L⟩:=c.pK;rw[f]at d;exact .pure (m _ f) d
 .rename_i q D i e k;obtain⟨_,rfl⟩:=h;rw[k]at c;have d:=c;obtain⟨b,S,R,f,_⟩:=c.Gz;rw[f]at d;exact .pure (m _ f) d
 rename_i id g i e k;split at h
 .rename_i E q v Q M D l;split at h<;>simp only[aa,aB,reduceCtorEq]at h;rename_i s;subst s;obtain⟨_,rfl⟩:=h;rw[k]at c;have d:=c;obtain⟨G,f⟩:=c.Gy l;obtain⟨_,_,C⟩:=hS.rowAt l;rcases C with⟨_,H⟩|⟨b,t,z,r,_⟩;.subst H;simp at G
  have j:a.eval x=.pointer (N ⟨b,i*q+e,Y⟩):=by rw[f,r];rfl
  rw[j]at d;exact .pure (m _ j) d
 simp at h
theorem Yo{x y:Operand}{c e:O}{T ts}(g:o.op=.call { callee:=.builtin .max,args:=#[x,y],argTypes:=ts })(l:cO x=N c)(j:cO y=N e){n:Prop}{z:V}(h:ba fr J (.max2 c e)=N (n,z))(_:T=ts):Yields P o a w J μ z:=by
 have d:=dp hF l;have b:=dp hF j;simp only[ba]at h;split at h;.rename_i k p r q f m;simp only[aa,aB]at h;obtain⟨_,rfl⟩:=h;rw[f]at d;rw[m]at b;refine .pure (v:=.int k (if p<q then q else p)) ?_ (.i _ _);simp[execOp,g,resolve,invoke,builtin,d.fE,b.fE,run_max_int2]
 simp at h
theorem Yn{x y:Operand}{c e:O}{ts}(g:o.op=.call { callee:=.builtin .min,args:=#[x,y],argTypes:=ts })(l:cO x=N c)(j:cO y=N e){n:Prop}{z:V}(h:ba fr J (.min2 c e)=N (n,z)):Yields P o a w J μ z:=by
 have d:=dp hF l;have b:=dp hF j;simp only[ba]at h;split at h;.rename_i k p r q f m;simp only[aa,aB]at h;obtain⟨_,rfl⟩:=h;rw[f]at d;rw[m]at b;refine .pure (v:=.int k (if q<p then q else p)) ?_ (.i _ _);simp[execOp,g,resolve,invoke,builtin,d.fE,b.fE,run_min_int2]
 simp at h
end de
variable{i:Nat}{T:aT}{U:ag}{X:cD}
def xb{P:aM}{t e:TypeId}(h:P.underlying t=N (.slice e)):P.elem t=e:=by simp[Program.elem,h]
def pc.row{μ:Mem}{xs:cD}{sz b o:Nat}{f:Nat->Nat->Value}(h:pc T U μ xs sz b o f)(c:i<F xs)(off:Nat): VR T U μ (.ep sz xs i off) (.pointer (N ⟨b,o+i*sz+off,Y⟩)) := .ep sz xs i off b (o+i*sz) (f i) c h.1 (λj x a=>h.2.1 i j x a) (λj x a=>h.2.2 i j x a)
def AJ{n a j:Nat}{x:V}(h:gp ((X.drop i).take n) a j=N x):gp X (i+a) j=N x:=by
 obtain⟨r,b,c⟩:=iD h;have d:a<n:=by
  rcases gF a n with h|h;.exact h
  rw[bK (by simp;omega)]at b;simp at b
 rw[bF d,dV]at b;rw[o7 b,c]
def pc.sub{μ:Mem}{b o:Nat}{f:Nat->Nat->Value}(h:pc T U μ X i b o f)(c n:Nat): pc T U μ ((X.drop c).take n) i b (o+c*i) (λa j=>f (c+a) j):=by
 refine⟨λr g=>h.1 r (eU (dv g)),λa j x d=>?_,λa j x d=>h.2.2 _ _ _ (AJ d)⟩;have:=h.2.1 _ _ _ (AJ d);have e:o+c*i+a*i+j=o+(c+a)*i+j:=by rw[cN];omega
 rw[e];exact this
def Di{P:aM}{w:aT}{t e:TypeId}{m:TypeInfo}(j:P.underlying t=N (.slice e))(r:P.info? e=N m)(a:Option Addr)(len b:Nat)(i d:Option Value)(l h:Int) (p:(i=Y/\l=0)\/∃k,i=N (.int k l)) (q:(d=Y/\h=len)\/∃k,d=N (.int k h)) (h0:0<=l) (h1:l<=h) (n:h<=b) : (Instr.sliceAt t (.slice a len b) i d Y).run P w=.ok (lk (.slice a len b) l.toNat h.toNat m.size) w:=by
 have c:P.underlying t=N (.slice (P.elem t)):=by rw[xb j];exact j
 have g:(sizeOf (P.elem t)).run P w=.ok m.size w:=by rw[xb j];simp[sizeOf,typeInfo,r]
 have f:0<=h:=by omega
 rw[run_sliceAt_slice (w:=w) t _ i d Y c];have s:(h.toNat:Int)=h:=Int.toNat_of_nonneg f;rcases p with⟨rfl,rfl⟩|⟨k,rfl⟩<;>rcases q with⟨rfl,rfl⟩|⟨o,rfl⟩;.rw[run_slice_all (w:=w) t a len b c,g];simp[sliced,lk]
 .rw[run_slice_h (w:=w) t a len b c o h f n,g];simp[sliced,lk]
 .rw[run_slice_l (w:=w) t a len b c k l h0 h1,g];simp[sliced,lk]
 rw[run_slice_lh (w:=w) t a len b c k o l h h0 h1 n,g];simp[sliced,lk]
def A7{P:aM}{w:aT}{t:TypeId}(b:P.underlying t=N .string)(s:ByteArray)(d a:Option Value)(l h:Int) (g:(d=Y/\l=0)\/∃k,d=N (.int k l)) (i:(a=Y/\h=s.size)\/∃k,a=N (.int k h)) (h0:0<=l) (h1:l<=h) (e:h<=s.size) : (Instr.sliceAt t (.string s) d a Y).run P w=.ok (.string (s.extract l.toNat h.toNat)) w:=by
 have c:0<=h:=by omega
 rw[run_sliceAt_string (w:=w) t _ d a Y b];rcases g with⟨rfl,rfl⟩|⟨k,rfl⟩<;>rcases i with⟨rfl,rfl⟩|⟨f,rfl⟩;.rw[run_slice_string_all (w:=w) t s b];simp
 .rw[run_slice_string_to_if (w:=w) t s f h b,aK ⟨c,e⟩];simp
 .rw[run_slice_string_from_if (w:=w) t s k l b,aK ⟨h0,by omega⟩];simp
 rw[run_slice_string_if (w:=w) t s k f l h b,aK ⟨c,e⟩,aK ⟨h0,h1⟩]
def GR(s:ByteArray)(i j:Nat):(s.extract i j).data.toList=(s.data.toList.drop i).take (j - i):=by rw[ByteArray.data_extract,Array.toList_extract,List.extract_eq_take_drop]
section de
variable {P:aM} {o:Oper} {a:Act} {B:Nat} {w0 w:aT} {J:ag} {μ:Mem} {fr:ao} (hF:FR w J μ fr a) (hS:gU P B w0 w J μ)
include hF hS
theorem abd{T E:TypeId}{t:TypeInfo}{x i:Operand}{x' i':O}(ho:o.op=.indexAddr T x i)(hT:P.underlying T=N (.slice E))(ht:P.info? E=N t)(hx:cO x=N x')(W:cO i=N i') {ob:Prop} {y:V} (h:ba fr J (.idx t.size x' i')=N (ob,y)) (e:ob):Yields P o a w J μ y:=by
 have j:=dp hF hx;have C:=dp hF W;have R:P.underlying T=N (.slice (P.elem T)):=by rw[xb hT];exact hT
 simp only[ba]at h;split at h
 .rename_i k n B;rw[B]at C;have C:=C.fE;have z:∀b d len c,a.eval x=.slice (N ⟨b,d,Y⟩) len c->0<=n->n<len->(execOp a.eval o).run P w=.ok (.value (.pointer (N ⟨b,d+n.toNat*t.size,Y⟩))) w:=by intro b d len c he Lo xD;simp[execOp,ho,he,C,run_indexAt_slice (w:=w) T _ len c k n R,Lo,xD,xb hT,sizeOf,typeInfo,ht,Addr.add_lit]
  split at h
  .rename_i M S p;split at h<;>simp only[aa,aB,reduceCtorEq]at h;rename_i D;subst D;obtain⟨rfl,rfl⟩:=h;rw[p]at j;rcases j.BS with⟨rfl,_⟩|⟨b,d,c,f,q,_,_,r⟩;.simp at e;omega
   refine .pure (z b d _ c q e.1 e.2) ?_;exact r.row (by omega) 0
  .rename_i M S p;split at h<;>simp only[aa,aB,reduceCtorEq]at h;rename_i D;subst D;obtain⟨rfl,rfl⟩:=h;rw[p]at j;rcases j.pL with⟨rfl,_⟩|⟨b,d,f,q,_,r⟩;.simp at e;omega
   refine .pure (z b d _ _ q e.1 e.2) ?_;exact r.row (by omega) 0
  .rename_i id g p;split at h
   .rename_i E' M K g' sh S l;split at h<;>simp only[aa,aB,reduceCtorEq]at h;rename_i G;obtain⟨rfl,rfl⟩:=G;obtain⟨rfl,rfl⟩:=h;rw[p]at j;have q:=j.kE l;obtain⟨_,_,r⟩:=hS.rowAt l;rcases r with⟨_,B⟩|⟨b,c,L,u,_⟩;.subst B;simp at e;omega
    refine .pure (z b 0 _ c (q.trans u) e.1 e.2) (.rp id g _ _ _ (ab.1 l).1 ?_);intro E2 H X g2 U Q s;rw[l]at s;simp only[aa,Ob.row.injEq]at s;obtain⟨rfl,rfl,rfl,rfl,rfl,rfl⟩:=s;exact⟨ax _,λ_=>⟨by omega,by rw[u];simp[rpv]⟩⟩
   simp at h
  .rename_i id g v W p;split at h
   .rename_i E' M K g' sh S l;split at h<;>simp only[aa,aB,reduceCtorEq]at h;rename_i G;obtain⟨rfl,rfl⟩:=G;obtain⟨rfl,rfl⟩:=h;rw[p]at j;obtain⟨ac,J1,q⟩:=j.pJ l;obtain⟨_,_,r⟩:=hS.rowAt l;rcases r with⟨_,B⟩|⟨b,c,L,u,_,I5,_⟩;.subst B;simp at J1;subst J1;simp at e;omega
    have gn:¬c=v:=by omega
    have XN:a.eval x=.slice (N ⟨b,v*t.size,Y⟩) (W - v) (c - v):=by rw[q,u];simp[lk,gn,Addr.add_lit]
    refine .pure (z b (v*t.size) _ (c - v) XN e.1 e.2) (.rp id g _ _ _ (ab.1 l).1 ?_);intro E2 H X g2 U Q s;rw[l]at s;simp only[aa,Ob.row.injEq]at s;obtain⟨rfl,rfl,rfl,rfl,rfl,rfl⟩:=s;exact⟨ax _,λ_=>⟨by omega,by rw[u];simp[rpv,cN]⟩⟩
   simp at h
  .rename_i id m p;split at h<;>simp only[aa,aB,reduceCtorEq]at h;rename_i DD;obtain⟨rfl,rfl⟩:=h;rw[p]at j;obtain⟨b,q,u,I⟩:=j.Na;refine .pure (z b 0 _ _ q e.1 e.2) ?_;rw[DD,G8,bq];exact .ptr id _ b I u
  simp at h
 simp at h
theorem Yr{T E:TypeId}{n:Nat}{t:TypeInfo}{x i:Operand}{r p:O}(u:o.op=.indexAddr T x i)(hT:P.underlying T=N (.array n E))(z:P.info? E=N t)(G:cO x=N r)(D:cO i=N p) {q:Prop} {y:V} (h:ba fr J (.JP n t.size r p)=N (q,y)) (H:q):Yields P o a w J μ y:=by
 have l:=dp hF G;have d:=dp hF D;have g:P.arrayLen T=n:=by simp[Program.arrayLen,hT]
 have j:P.elem T=E:=by simp[Program.elem,hT]
 have e:P.underlying T=N (.array (P.arrayLen T) (P.elem T)):=by rw[g,j];exact hT
 simp only[ba]at h;split at h<;>simp only[aa,aB,reduceCtorEq]at h;rename_i id c k m s K;obtain⟨rfl,rfl⟩:=h;rw[s]at l;rw[K]at d;obtain⟨b,I,L,B⟩:=l.pK;have d:=d.fE;refine .pure (v:=.pointer (N ⟨b,c+m.toNat*t.size,Y⟩)) ?_ (.ptr id _ b B I);have f:=run_indexAt_array (P:=P) (w:=w) T ⟨b,c,Y⟩ k m e;rw[g,j,aK H]at f;have C:(sizeOf E).run P w=.ok t.size w:=by simp[sizeOf,typeInfo,z]
 rw[C,Result.andThen_ok,Addr.add_lit]at f;simp only[execOp,u,L,d,Sem.run_bind,f,Result.andThen_ok,Sem.run_pure]
theorem abm{T E:TypeId}{n:Nat}{t:TypeInfo}{x:Operand}{B:O}(L:o.op=.slice T x Y Y Y)(hT:P.underlying T=N (.array n E))(G:P.info? E=N t)(H:t.size=1)(d:cO x=N B) {z:Prop} {y:V} (h:ba fr J (.asl n B)=N (z,y)) (dP:z):Yields P o a w J μ y:=by
 have u:=dp hF d;have C:P.arrayLen T=n:=by simp[Program.arrayLen,hT]
 have D:P.elem T=E:=by simp[Program.elem,hT]
 have l:P.underlying T=N (.array (P.arrayLen T) (P.elem T)):=by rw[C,D];exact hT
 simp only[ba]at h;split at h<;>(try simp only[reduceCtorEq]at h);rename_i sz e i K;split at h<;>simp only[aa,aB,reduceCtorEq]at h;rename_i R;obtain⟨rfl,rfl⟩:=h;rw[K]at u;obtain⟨b,g,f,S,Q,cH,W,X⟩:=u.Gz;have M:(sizeOf E).run P w=.ok t.size w:=by simp[sizeOf,typeInfo,G]
 have m:=run_sliceAt_array_all (P:=P) w T ⟨b,g,Y⟩ l;rw[C,D,M,Result.andThen_ok]at m;have U:slicedAt ⟨b,g,Y⟩ 0 n n t.size=.slice (N ⟨b,g,Y⟩) n n:=by simp[slicedAt,Addr.add_lit]
 rw[U]at m;refine .pure (v:=.slice (N ⟨b,g,Y⟩) n n) ?_ ?_;.simp only[execOp,L,S,dQ,iF,Sem.run_bind,m,Result.andThen_ok,Sem.run_pure]
 have r:∀(k j:Nat) (x:V),gp ((e.getD i []).map λc=>[c]) k j=N x->j=0/\gp e i k=N x:=by
  have q:e[i]?=N (e.getD i []):=by simp[aq,an Q]
  intro k j x d;simp only[gp,q,iV];generalize e.getD i []=row at d;simp only[gp,bu]at d;cases s:row[k]? with
  |none=>simp[s]at d
  |some c =>simp only[s,b5,iV]at d;cases j with|zero =>simp only[aH]at d;exact⟨rfl,d⟩|succ j=>simp at d
 have p:=VR.sl (w:=w) (J:=J) (μ:=μ) 1 ((e.getD i []).map λc=>[c]) b g n (λk _=>f k) (by simp only[ae];omega) (by unfold maxLen;omega) (by simp) (λk j x d=>by
   obtain⟨rfl,I⟩:=r k j x d;have:=W k x I;simpa using this)
  (λk j x d=>X k x (r k j x d).2);simp only[ae]at p;rw[R]at p;exact p
theorem Yk{T:TypeId}{x i:Operand}{j f:O}(p:o.op=.index T x i)(hT:P.underlying T=some .string)(u:cO x=some j)(t:cO i=some f) {g:Prop} {y:V} (h:ba fr J (.fN j f)=some (g,y)) (B:g):Yields P o a w J μ y:=by
 have e:=dp hF u;have c:=dp hF t;simp only[ba]at h;split at h<;>simp only[aa,aB,reduceCtorEq]at h;rename_i l k n m z;obtain⟨rfl,rfl⟩:=h;rw[m]at e;rw[z]at c;obtain⟨s,D,b,_⟩:=e.mi;have q:s.size=F l:=by rw[<- b];exact bsize s
 refine .pure (v:=.int .u8 (l.getD n.toNat 0).toNat) ?_ (.i _ _);have E:0<=n/\n<s.size:=by rw[q];exact B
 have C:n.toNat<F l:=by omega
 have r:s[n.toNat]'(by omega)=l.getD n.toNat 0:=by subst b;rw[aq,an C];simp[ByteArray.getElem_eq_getElem_data]
 have d:=run_index_string (P:=P) (w:=w) T s k n hT;rw[dif_pos E,r]at d;simp only[execOp,p,D,c.fE,Sem.run_bind,d,Result.andThen_ok,Sem.run_pure]
theorem Yi{T:TypeId}{f:Nat}{e:Array Field}{b:Field}{x:Operand}{i:O}(m:o.op=.field T x f)(hT:P.underlying T=N (.struct e))(l:e[f]?=N b)(t:fO P b.type=N false)(p:cO x=N i) {s:Prop} {y:V} (h:ba fr J (.Kd b.offset i)=N (s,y)):Yields P o a w J μ y:=by
 have g:=dp hF p;simp only[ba]at h;split at h
 .rename_i B k;rw[k]at g;obtain⟨c,r,n,u⟩:=g.iZ;split at h<;>simp only[aa,aB,reduceCtorEq]at h;rename_i z j;obtain⟨_,rfl⟩:=h;have q:b.offset<c.size:=by rw[<- n];exact(ab.1 j).1
  have d:c[b.offset]?=N (c.getD b.offset undef):=by simp[q]
  refine .pure (v:=c.getD b.offset undef) ?_ (u _ _ j);simp only[execOp,m,r,Instr.field,run_underlying hT,l,asAgg,part,kV t,Sem.run_bind,Sem.run_pure,Result.andThen_ok,aI,aQ,d]
 simp at h
theorem Yh{T E:TypeId}{n:Nat}{x i:Operand}{z C:O}(M:o.op=.index T x i)(hT:P.underlying T=N (.array n E))(e:fO P E=N false)(X:P.cellsOf E=1)(S:cO x=N z)(R:cO i=N C) {s:Prop} {y:V} (h:ba fr J (.NS n z C)=N (s,y)) (I:s):Yields P o a w J μ y:=by
 have r:=dp hF S;have q:=dp hF R;simp only[ba]at h;split at h<;>simp only[aa,aB,reduceCtorEq]at h;rename_i l k j L U;obtain⟨rfl,rfl⟩:=h;rw[L]at r;rw[U]at q;obtain⟨b,W,hl,D⟩:=r.iZ;obtain⟨G,f,ub⟩:=I;have B:j.toNat<F l:=by omega
 have g:j.toNat<b.size:=by omega
 have p:b[j.toNat]?=N (b.getD j.toNat undef):=by simp[g]
 have K:∃m,P.info? E=N m:=by unfold fO Program.underlying at e;cases h:P.info? E with|none=>simp[h]at e|some i=>exact⟨i,rfl⟩
 obtain⟨m,t⟩:=K;have Q:(sizeOf E).run P w=.ok 1 w:=by
  have d:m.size=1:=by simpa[Program.cellsOf,t]using X
  simp[sizeOf,typeInfo,t,d]
 have H:l.getD j.toNat .u=l[j.toNat]:=by rw[aq,an B];rfl
 rw[H];refine .pure (v:=b.getD j.toNat undef) ?_ (D _ _ (an B));have c:0<=j/\j<(n:Int):=⟨G,f⟩;simp only[execOp,M,W,q.fE,Instr.index,asIntOf,run_underlying hT,part,kV e,Sem.run_bind,Sem.run_pure,Result.andThen_ok,aK c,Q,G8,aI,aQ,p]
theorem Yq{T E:TypeId}{t:TypeInfo}{x C m:Operand}{B u G:O}(ho:o.op=.slice T x Y (N C) (N m))(hT:P.underlying T=N (.slice E))(M:P.info? E=N t)(hx:cO x=N B)(l:cO C=N u)(H:cO m=N G) {z:Prop} {y:V} (h:ba fr J (.clip t.size B u G)=N (z,y)) (Q:z):Yields P o a w J μ y:=by
 have v:=dp hF hx;have s:=dp hF l;have D:=dp hF H;simp only[ba]at h;split at h
 .rename_i k1 p k2 q W R;rw[W]at s;rw[R]at D;split at h
  .rename_i sz xs S;split at h<;>simp only[aa,aB,reduceCtorEq]at h;rename_i K;obtain⟨rfl,rfl⟩:=h;subst K;rw[S]at v;obtain⟨L,I,e⟩:=Q;have hs:(sizeOf E).run P w=.ok t.size w:=by simp[sizeOf,typeInfo,M]
   have r:∀(b:Option Addr) (n c:Nat),a.eval x=.slice b n c->q<=c->(execOp a.eval o).run P w=.ok (.value (.slice (if q.toNat=0 then b else b.map (·.add 0)) p.toNat q.toNat)) w:=by
    intro b n c he Zx;have U:0<=q/\q<=(c:Int):=by omega
    have X:p<=max q 0:=by omega
    simp[execOp,ho,he,s.fE,D.fE,Instr.sliceAt,Instr.slice,Instr.sliceBounds,Instr.sliceBound,asIntOf,run_underlying hT,U,X,L,hs]
   rcases v.BS with⟨rfl,b,k⟩|⟨b,ac,i,f,k,hc,H,hr⟩
   .have Hf:p=0:=by simp at e;omega
    have PD:q=0:=by simp at e;omega
    subst Hf;subst PD;refine .pure (r b 0 0 k (by omega)) ?_;simp only[aaX,aU,qe];cases b with|none=>exact .Dh _|some b=>exact .sle _ _
   refine .pure (r _ _ i k (by omega)) ?_;have d:F (xs.take p.toNat)=p.toNat:=by simp;omega
   have g:=hr.sub 0 p.toNat;simp only[qf,Nat.zero_mul,dQ]at g;have j:=VR.sl (w:=w) (J:=J) (μ:=μ) t.size _ b _ q.toNat _ (by rw[d];omega) (by omega) g.1 g.2.1 g.2.2;rw[d]at j;split;.exact j
   simpa[Addr.add_lit]using j
  simp at h
 simp at h
theorem Yj{T:TypeId}{x:Operand}{c:O}(e:o.op=.call { callee:=.builtin .len,args:=#[x],argTypes:=#[T] })(hT:P.underlying T=N .string)(m:cO x=N c) {j:Prop} {y:V} (h:ba fr J (.len true c)=N (j,y)):Yields P o a w J μ y:=by
 have b:=dp hF m;simp only[ba]at h;split at h<;>simp only[aa,aB,reduceCtorEq]at h;rename_i l d;obtain⟨_,rfl⟩:=h;rw[d]at b;obtain⟨s,f,g,_⟩:=b.mi;have k:s.size=F l:=by rw[<- g];exact bsize s
 refine .pure (v:=.int .i64 (F l)) ?_ (.i _ _);simp[execOp,e,resolve,invoke,builtin,f,run_len_string (w:=w) T _ s hT,goInt,k]
theorem abc{T E:TypeId}{x:Operand}{D:O}(M:o.op=.call { callee:=.builtin .len,args:=#[x],argTypes:=#[T] })(hT:P.underlying T=N (.slice E))(Q:cO x=N D) {K:Prop} {y:V} (h:ba fr J (.len false D)=N (K,y)):Yields P o a w J μ y:=by
 have e:=dp hF Q;have z:P.underlying T=N (.slice (P.elem T)):=by rw[xb hT];exact hT
 have k:∀b n c,a.eval x=.slice b n c->Yields P o a w J μ (.i .i64 n):=by intro b n c R;refine .pure (v:=.int .i64 n) ?_ (.i _ _);simp[execOp,M,resolve,invoke,builtin,R,run_len_slice (w:=w) T _ b n c z,goInt]
 simp only[ba]at h;split at h<;>(try simp only[aa,aB,reduceCtorEq]at h);.rename_i j;obtain⟨_,rfl⟩:=h;rw[j]at e;exact k _ _ _ e.nz
 .rename_i t C j;obtain⟨_,rfl⟩:=h;rw[j]at e;rcases e.pL with⟨rfl,d⟩|⟨b,u,f,d,_⟩;.exact k _ _ _ d
  exact k _ _ _ d
 .rename_i t C j;obtain⟨_,rfl⟩:=h;rw[j]at e;rcases e.BS with⟨rfl,_,d⟩|⟨b,u,p,f,d,_⟩;.exact k _ _ _ d
  exact k _ _ _ d
 .rename_i id g j;split at h
  .rename_i I t r L H C m;split at h<;>simp only[aa,aB,reduceCtorEq]at h;rename_i q;subst q;obtain⟨_,rfl⟩:=h;rw[j]at e;have d:=e.kE m;obtain⟨_,_,B⟩:=hS.rowAt m;rcases B with⟨l,G⟩|⟨b,p,s,l,_⟩;.subst G;exact k _ _ _ (d.trans l)
   exact k _ _ _ (d.trans l)
  simp at h
 .rename_i id g U S j;split at h
  .rename_i I t r L H C m;split at h<;>simp only[aa,aB,reduceCtorEq]at h;rename_i q;subst q;obtain⟨_,rfl⟩:=h;rw[j]at e;obtain⟨_,_,d⟩:=e.pJ m;obtain⟨_,_,B⟩:=hS.rowAt m;rcases B with⟨l,G⟩|⟨b,p,s,l,_⟩;.rw[l]at d;exact k _ _ _ d
   rw[l]at d;exact k _ _ _ d
  simp at h
 rename_i id n j;obtain⟨_,rfl⟩:=h;rw[j]at e;obtain⟨b,d,_⟩:=e.Na;exact k _ _ _ d
theorem QI{T:TypeId}{x:Operand}{e c:Option Operand}{D:O}{j f:Option O}(H:o.op=.slice T x e c Y)(hT:P.underlying T=N .string)(M:cO x=N D)(m:uw e=N j)(n:uw c=N f) {B:Prop} {y:V} (h:ba fr J (.fM D j f)=N (B,y)) (r:B):Yields P o a w J μ y:=by
 have u:=dp hF M;simp only[ba]at h;split at h
 .rename_i l G;rw[G]at u;obtain⟨s,Q,C,W⟩:=u.mi;have S:s.size=F l:=by rw[<- C];exact bsize s
  split at h<;>simp only[aa,aB,reduceCtorEq]at h;rename_i p q d i;obtain⟨rfl,rfl⟩:=h;have I:(e.map a.eval=Y/\p=0)\/∃k,e.map a.eval=N (.int k p):=by cases e with|none =>simp only[uw,aa]at m;subst m;simp only[aa]at d;exact .inl ⟨rfl,d.symm⟩|some z =>simp only[uw,al]at m;obtain⟨E,t,rfl⟩:=m;have g:=dp hF t;dsimp only at d;split at d<;>simp only[aa,reduceCtorEq]at d;rename_i k R b;subst d;rw[b]at g;exact .inr ⟨k,by simp[g.fE]⟩
  have L:(c.map a.eval=Y/\q=s.size)\/∃k,c.map a.eval=N (.int k q):=by cases c with|none =>simp only[uw,aa]at n;subst n;simp only[aa]at i;exact .inl ⟨rfl,by omega⟩|some z =>simp only[uw,al]at n;obtain⟨E,t,rfl⟩:=n;have g:=dp hF t;dsimp only at i;split at i<;>simp only[aa,reduceCtorEq]at i;rename_i k R b;subst i;rw[b]at g;exact .inr ⟨k,by simp[g.fE]⟩
  have K:=A7 (P:=P) (w:=w) hT s (e.map a.eval) (c.map a.eval) p q I L r.1 r.2.1 (by have:=r.2.2;omega);refine .pure (v:=.string (s.extract p.toNat q.toNat)) ?_ (.s _ _ ?_ ?_);.simp[execOp,H,Q,K]
  .rw[GR,C]
  have:=List.length_take_le (q.toNat - p.toNat) (l.drop p.toNat);have U:F (l.drop p.toNat)<=F l:=by simp
  simp only[bB,bY];omega
 simp at h
theorem Uz{T E:TypeId}{t:TypeInfo}{x:Operand}{K I:Option Operand}{x':O}{U Q:Option O}(ho:o.op=.slice T x K I Y)(hT:P.underlying T=N (.slice E))(ht:P.info? E=N t)(hx:cO x=N x')(X:uw K=N U)(hh:uw I=N Q) {ob:Prop} {y:V} (h:ba fr J (.slice t.size x' U Q)=N (ob,y)) (r:ob):Yields P o a w J μ y:=by
 have B:=dp hF hx;simp only[ba]at h;split at h;.simp at h
 rename_i n d;split at h
 .rename_i p q M S;have qh:(K.map a.eval=Y/\p=0)\/∃k,K.map a.eval=N (.int k p):=by cases K with|none =>simp only[uw,aa]at X;subst X;simp only[aa]at M;exact .inl ⟨rfl,M.symm⟩|some z =>simp only[uw,al]at X;obtain⟨z',hz,rfl⟩:=X;have R:=dp hF hz;dsimp only at M;split at M<;>simp only[aa,reduceCtorEq]at M;rename_i k p' C;subst M;rw[C]at R;exact .inr ⟨k,by simp[R.fE]⟩
  have J1:(I.map a.eval=Y/\q=(n:Int))\/∃k,I.map a.eval=N (.int k q):=by cases I with|none =>simp only[uw,aa]at hh;subst hh;simp only[aa]at S;exact .inl ⟨rfl,by omega⟩|some z =>simp only[uw,al]at hh;obtain⟨z',hz,rfl⟩:=hh;have R:=dp hF hz;dsimp only at S;split at S<;>simp only[aa,reduceCtorEq]at S;rename_i k p' C;subst S;rw[C]at R;exact .inr ⟨k,by simp[R.fE]⟩
  have L:∀b c,a.eval x=.slice b n c->0<=p->p<=q->q<=c->(execOp a.eval o).run P w=.ok (.value (lk (.slice b n c) p.toNat q.toNat t.size)) w:=by intro b c he H D Zx;have s:=Di (P:=P) (w:=w) hT ht b n c (K.map a.eval) (I.map a.eval) p q qh J1 H D Zx;simp[execOp,ho,he,s]
  have Sr:∀l b i e f,a.eval x=.slice (N ⟨b,i,Y⟩) (F l) e->F l<=e->e<=maxLen->pc w J μ l t.size b i f->n=F l->0<=p/\p<=q/\q<=n ->Yields P o a w J μ (.sl t.size ((l.drop p.toNat).take (q.toNat - p.toNat))):=by
   intro l b i e f he hc BY s ac ⟨H,D,hqn⟩;subst ac;refine .pure (L _ e he H D (by omega)) ?_;have u:F ((l.drop p.toNat).take (q.toNat - p.toNat))=q.toNat - p.toNat:=by simp;omega
   by_cases Up:e=p.toNat
   .have:q.toNat - p.toNat=0:=by omega
    simp only[lk,Up,aU,this,qe,fA];exact .sl t.size [] b i 0 (λ_ _=>undef) (by simp) (by simp[maxLen]) (by simp) (by simp[gp]) (by simp[gp])
   simp only[lk,Up,aQ,b5,Addr.add_lit];have:=s.sub p.toNat (q.toNat - p.toNat);have h5:=VR.sl (w:=w) (J:=J) (μ:=μ) t.size _ b _ (e - p.toNat) _ (by rw[u];omega) (by omega) this.1 this.2.1 this.2.2;rwa [u]at h5
  split at h;.rename_i G;simp only[aa,aB]at h;obtain⟨rfl,rfl⟩:=h;rw[G]at B d;simp only[aa]at d;obtain⟨rfl,rfl⟩:=r;have j:=B.nz;subst d;refine .pure (v:=.slice Y 0 0) ?_ .nil;rw[L Y 0 j (by omega) (by omega) (by omega)];simp[lk]
  .rename_i sz l G;simp only[aa,aB]at h;obtain⟨rfl,rfl⟩:=h;rw[G]at B d;dsimp only at d;split at d<;>simp only[aa,reduceCtorEq]at d;rename_i gv;subst gv;rcases B.pL with⟨rfl,j⟩|⟨b,i,f,j,m,s⟩
   .simp only[az]at d;subst d;have H:p=0:=by omega
    have PD:q=0:=by omega
    subst H;subst PD;refine .pure (L Y 0 j (by omega) (by omega) (by omega)) ?_;simp only[lk,aaX,aU,aff,afd,fA];exact .Dh _
   exact Sr l b i _ f j (ax _) m s d.symm r
  .rename_i sz l G;simp only[aa,aB]at h;obtain⟨rfl,rfl⟩:=h;rw[G]at B d;dsimp only at d;split at d<;>simp only[aa,reduceCtorEq]at d;rename_i gv;subst gv;rcases B.BS with⟨rfl,a0,j⟩|⟨b,i,e,f,j,hc,m,s⟩
   .simp only[az]at d;subst d;have H:p=0:=by omega
    have PD:q=0:=by omega
    subst H;subst PD;refine .pure (L a0 0 j (by omega) (by omega) (by omega)) ?_;simp only[lk,aaX,aU,aff,afd,fA];cases a0 with|none=>exact .Dh _|some a0=>exact .sle _ a0
   exact Sr l b i e f j hc m s d.symm r
  .rename_i id g G;simp only[aa,aB]at h;obtain⟨rfl,rfl⟩:=h;rw[G]at B d;dsimp only at d;split at d
   .rename_i E' sz ap g' sh l W;split at d<;>simp only[aa,reduceCtorEq]at d;rename_i hg;obtain⟨rfl,rfl⟩:=hg;subst d;have j:=B.kE W;obtain⟨_,_,s⟩:=hS.rowAt W;have wL:∀v,μ id=v->VR w J μ (.sub id g p.toNat q.toNat) (lk v p.toNat q.toNat t.size):=by intro v m;refine .sub id g _ _ _ (ab.1 W).1 ?_;intro E2 ad am g2 aE av h3;rw[W]at h3;simp only[aa,Ob.row.injEq]at h3;obtain⟨rfl,rfl,rfl,rfl,rfl,rfl⟩:=h3;exact⟨ax _,λ_=>⟨by omega,by omega,by rw[m]⟩⟩
    rcases s with⟨m,d⟩|⟨b,e,af,m,_,mj,_⟩;.subst d;exact .pure (L Y 0 (j.trans m) r.1 r.2.1 (by simpa using r.2.2)) (wL _ m)
    exact .pure (L _ e (j.trans m) r.1 r.2.1 (by have:=r.2.2;omega)) (wL _ m)
   simp at d
  simp at h
 simp at h
end de
end Go.Pm

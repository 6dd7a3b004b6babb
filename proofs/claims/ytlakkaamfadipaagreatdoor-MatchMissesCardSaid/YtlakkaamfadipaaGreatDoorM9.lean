/- A part of a proof; the claim's last text says of what. -/
import Derived.Lib.AppendStr
import Derived.Test.YtlakkaamfadipaaGreatDoorM8
set_option linter.all false
open Option renaming some->N,none->Y
open Bool renaming true->A,false->Z
open List renaming length->F

namespace Go.Pm
open Go Go.RowKit
structure Src (P:aM) (w:aT) (U:TypeId) (x:Value) (size m:Nat) (news:List Value):Prop where
 ty:∃d,P.underlying U=some d/\∀k,d≠.int k
 len:∀w':aT,(Builtin.lenOf x).run P w'=.ok m w'
 first:(Builtin.firstCells size m x).run P w=.ok news.toArray w
 aaw:(Builtin.firstCells size m x).run P w.drew=.ok news.toArray w.drew
 K7:news.length=m*size
 one:∀u∈news,u.oneCell'=true
section
variable {P:aM} {w:aT} {T U ty E:TypeId} {t:TypeInfo} {z:Value} {x:Value} {m:Nat} {news:List Value}
def nZ(hT:P.underlying T=N (.slice E))(h:P.info? E=N t)(c:Src P w U x t.size 0 news)(a:Option Addr)(n b:Nat)(g:n<=b): (Builtin.append_ #[T,U] ty #[.slice a n b,x]).run P w=.ok (.slice a n b) w:=by
 obtain⟨d,e,j⟩:=c.ty;have i:news=[]:=aL (by simpa using c.K7);have f:=c.first;subst i;cases a with
 |none=>simp[Builtin.append_,run_underlying hT,run_underlying e,sizeOf,typeInfo,h,c.len,g,f]
 |some a=>simp[Builtin.append_,run_underlying hT,run_underlying e,sizeOf,typeInfo,h,c.len,g,f,storeCells]
def Fl(hT:P.underlying T=N (.slice E))(k:P.info? E=N t)(c:Src P w U x t.size m news)(g n b:Nat)(a:Array Value)(l:w.heap[g]?=N (.cells a E (0,0))) (i:n+m<=b) (j:n*t.size+F news<=a.size) : (Builtin.append_ #[T,U] ty #[.slice (N ⟨g,0,Y⟩) n b,x]).run P w =
   .ok (.slice (N ⟨g,0,Y⟩) (n+m) b) (w.setRow g (a.toList.take (n*t.size)++news++a.toList.drop (n*t.size+F news)).toArray):=by obtain⟨d,f,o⟩:=c.ty;have h:=c.first;have e:=run_storeCells_at P g (n*t.size) E news 0 a w l (by simpa using j) c.one;simp only[dQ]at e;simp[Builtin.append_,run_underlying hT,run_underlying f,sizeOf,typeInfo,k,c.len,i,h,Addr.add_lit,e]
def rn(hT:P.underlying T=N (.slice E))(r:P.info? E=N t)(C:t.zero=N z)(h:Src P w U x t.size m news)(a:Option Addr)(n e:Nat)(c:List Value) (k:F c=n*t.size) (p:(a=Y/\n=0)\/∃b,a=N b/\∀j v,c[j]?=N v->w.cell? (b.add j)=N v) (u:e<n+m) (B:n+m<=maxLen) (D:(n+m)*t.bytes<=140737488355328) : (Builtin.append_ #[T,U] ty #[.slice a n e,x]).run P w = .ok (.slice (N ⟨w.heap.size,0,Y⟩) (n+m) (grownCap w (n+m) e E)) (w.drew.alloc (.cells (c.toArray++news.toArray++Builtin.zeroCells z.cells (grownCap w (n+m) e E - (n+m))) E)):=by
 obtain⟨d,l,G⟩:=h.ty;have o:=h.aaw;have y:¬(n+m<=e):=by omega
 have g:¬(9223372036854775807<((n:Int)+(m:Int))):=by unfold maxLen at B;omega
 have q:=growslice_fits u D;have f:¬(281474976710656<Builtin.nextslicecap (n+m) e*t.bytes):=by omega
 have i:(Builtin.firstCells t.size n (.slice a n e)).run P w.drew=.ok c.toArray w.drew:=by
  rcases p with⟨rfl,rfl⟩|⟨b,rfl,s⟩;.have:c=[]:=aL (by simpa using k);subst this;simp[Builtin.firstCells]
  exact run_firstCells_some (P:=P) w.drew t.size n b n e c k (by simpa using s)
 simp[Builtin.append_,run_underlying hT,run_underlying l,sizeOf,typeInfo,zeroValue,r,C,h.len,y,g,f,Question.forced,o,i,newRow,grownCap];congr 2;apply Array.ext';simp[aS]
def sQ(hT:P.underlying T=N (.slice E))(y:P.info? E=N t)(Q:t.zero=N z)(nP:z.cells.size=t.size)(p:Src P w U x t.size m news)(B:Nat)(v:Value)(n:Nat)(a:List Value) (o:w.ownsRow B E t.size v n a) (G:n+m<=maxLen) (S:(n+m)*t.bytes<=140737488355328) (hB:B<=w.heap.size) : ∃H C,(Builtin.append_ #[T,U] ty #[v,x]).run P w=.ok H C/\C.ownsRow B E t.size H (n+m) (a++news)/\w.grownBy C (js v) /\(∀b,js H=N b->js v=N b\/w.heap.size<=b)/\(∀b,js v=N b->∀j u,a[j]?=N u->C.cell? ⟨b,j,Y⟩=N u):=by
 have h:F (a++news)=(n+m)*t.size:=by rw[ai,o.1,p.K7,cN]
 have grown:∀(f:Nat),f<n+m->∀(row:bP),(w.drew.alloc (.cells (a.toArray++news.toArray++Builtin.zeroCells z.cells (grownCap w (n+m) f E - (n+m))) E)).ownsRow B E t.size (.slice (N ⟨w.heap.size,0,Y⟩) (n+m) (grownCap w (n+m) f E)) (n+m) (a++news) /\w.grownBy (w.drew.alloc (.cells (a.toArray++news.toArray++Builtin.zeroCells z.cells (grownCap w (n+m) f E - (n+m))) E)) row:=by
  intro f ho row;have PI:=grownCap_ge w (n+m) f E;have J:grownCap w (n+m) f E<=maxLen:=grownCap_le_maxLen w (n+m) f E G;refine⟨⟨h,.inr ⟨w.heap.size,_,_,rfl,hB,heap_alloc_new w.drew _,PI,J,?_,?_⟩⟩,⟨rfl,rfl,rfl,by simp,λk K _=>heap_alloc_old w.drew _ k K⟩⟩;.simp only[mF,eS,size_zeroCells,nP,o.1,p.K7,<- Nat.add_mul];congr 1;omega
  simp only[JX,aS];rw[<- List.append_assoc,<- h];exact nu
 by_cases hm:m=0
 .subst hm;have SG:news=[]:=aL (by simpa using p.K7);subst SG;have r:(Builtin.append_ #[T,U] ty #[v,x]).run P w=.ok v w:=by
   rcases o.2 with⟨rfl,rfl⟩|⟨g,c,i,rfl,_,_,O,_⟩;.exact nZ hT y p Y 0 0 (ax _)
   exact nZ hT y p _ n c O
  refine⟨v,w,r,by simpa using o,grownBy_refl w _,λb d=>.inl d,λb d j u s=>?_⟩;rcases o.2 with⟨rfl,rfl⟩|⟨g,c,i,rfl,_⟩;.simp[js]at d
  simp only[js,aa]at d;subst d;have:=o.cells (g:=g) rfl j u s;rwa [Addr.add_lit,bq]at this
 rcases o.2 with⟨rfl,rfl⟩|⟨g,c,i,rfl,D,I,O,J,V,R⟩
 .have W:a=[]:=aL (by simpa using o.1);subst W;have r:=rn (ty:=ty) hT y Q p Y 0 0 [] (by simp) (.inl ⟨rfl,rfl⟩) (by omega) G S;have l:=grown 0 (by omega) (js (.slice Y 0 0));refine⟨_,_,r,l.1,l.2,λb d=>?_,λb d=>?_⟩;.simp only[js,aa]at d;exact .inr (by omega)
  simp[js]at d
 have holds:∀j u,a[j]?=N u->w.cell? ((⟨g,0,Y⟩:Addr).add j)=N u:=o.cells (g:=g) rfl;by_cases M:n+m<=c
 .have q:n*t.size+F news<=i.size:=by rw[p.K7,V,<- Nat.add_mul];exact bL _ M
  have r:=Fl (ty:=ty) hT y p g n c i I M q;refine⟨_,_,r,⟨h,.inr ⟨g,c,_,rfl,D,setRow_heap w g i _ E _ I,M,J,?_,?_⟩⟩,⟨rfl,rfl,rfl,by simp,λk _ K=>setRow_other w g k _ (λe=>K (by simp[js,e]))⟩,λb d=>.inl d,λb d j u s=>?_⟩;.simp only[eS,ai,bB,bY,aW];omega
  .rw[R,<- h];exact nu
  simp only[js,aa]at d;subst d;rw[cell_setRow_same w g j i _ E _ I];have lz:j<F a:=(ab.1 s).1;rw[R];simp only[mB];rw[aS,aj lz,s]
 have r:=rn (ty:=ty) hT y Q p (N ⟨g,0,Y⟩) n c a o.1 (.inr ⟨_,rfl,holds⟩) (by omega) G S;have l:=grown c (by omega) (js (.slice (N ⟨g,0,Y⟩) n c));refine⟨_,_,r,l.1,l.2,λb d=>?_,λb d j u s=>?_⟩;.simp only[js,aa]at d;exact .inr (by omega)
 simp only[js,aa]at d;subst d;have L:=holds j u s;rw[Addr.add_lit,bq]at L;have X:=World.block_lt_of_cell? w _ L;have:(w.drew.alloc (.cells (a.toArray++news.toArray++Builtin.zeroCells z.cells (grownCap w (n+m) c E - (n+m))) E)).cell? ⟨g,j,Y⟩=w.drew.cell? ⟨g,j,Y⟩ :=
  World.cell?_alloc_lt w.drew _ _ X;rw[this,World.cell?_drew];exact L
def HU(hT:P.underlying T=N (.slice E))(q:P.info? E=N t)(G:t.zero=N z)(u:z.cells.size=t.size)(h:Src P w U x t.size m news)(B:Nat)(a:Option Addr)(n:Nat)(c:List Value) (e:F c=n*t.size) (o:(a=Y/\n=0)\/∃b,a=N b/\∀j v,c[j]?=N v->w.cell? (b.add j)=N v) (H:0<m) (i:n+m<=maxLen) (C:(n+m)*t.bytes<=140737488355328) (D:B<=w.heap.size) : ∃g f,(Builtin.append_ #[T,U] ty #[.slice a n n,x]).run P w=.ok g f/\f.ownsRow B E t.size g (n+m) (c++news)/\w.grownBy f Y/\(∀b,js g=N b->w.heap.size<=b):=by
 have d:F (c++news)=(n+m)*t.size:=by rw[ai,e,h.K7,cN]
 have p:=rn (ty:=ty) hT q G h a n n c e o (by omega) i C;have l:=grownCap_ge w (n+m) n E;have s:grownCap w (n+m) n E<=maxLen:=grownCap_le_maxLen w (n+m) n E i;refine⟨_,_,p,⟨d,.inr ⟨w.heap.size,_,_,rfl,D,heap_alloc_new w.drew _,l,s,?_,?_⟩⟩,⟨rfl,rfl,rfl,by simp,λk y _=>heap_alloc_old w.drew _ k y⟩,λb r=>?_⟩;.simp only[mF,eS,size_zeroCells,u,e,h.K7,<- Nat.add_mul];congr 1;omega
 .simp only[JX,aS];rw[<- List.append_assoc,<- d];exact nu
 simp only[js,aa]at r;omega
end
variable{X:Mem}{Q:Nat}{K:aM}{R M:aT}{S:ag}{L:cD}
def E7.src(hS:gU K Q R M S X){T E:TypeId}(hT:K.underlying T=N (.slice E)){c:Nat}{v:Value}(h:E7 M S X L c v): ∃news,Src K M T v c (F L) news/\lp M S X L c news:=by
 have g:∃d,K.underlying T=N d/\∀k,d≠.int k:=⟨_,hT,λk=>by simp⟩;rcases h.here with⟨rfl,e,rfl⟩|⟨b,o,n,rfl,p⟩
 .cases e with
  |none=>exact⟨[],⟨g,λ_=>by simp[Builtin.lenOf],by simp[Builtin.firstCells],by simp[Builtin.firstCells],by simp,by simp⟩,by simp,by simp[gp]⟩
  |some e=>exact⟨[],⟨g,λ_=>by simp[Builtin.lenOf],run_firstCells_some M c _ e _ _ [] (by simp) (by simp),run_firstCells_some M.drew c _ e _ _ [] (by simp) (by simp),by simp,by simp⟩,by simp,by simp[gp]⟩
 obtain⟨a,f,l,q,m⟩:=h.cells (λi j x r=>pB (p i j x r).1) hS;exact⟨a,⟨g,λ_=>by simp[Builtin.lenOf],run_firstCells_some M c _ _ _ _ a f l,run_firstCells_some M.drew c _ _ _ _ a f (by simpa using l),f,q⟩,m⟩
def Kp{P:aM}{w:aT}{J:ag}{μ:Mem}{U:TypeId}(g:P.underlying U=N .string)(s:ByteArray): Src P w U (.string s) 1 (F (ee s.data.toList)) (Lib.strCells s)/\lp w J μ (ee s.data.toList) 1 (Lib.strCells s):=by
 have a:F (ee s.data.toList)=s.size:=by rw[bsize];simp[ee]
 refine⟨⟨⟨_,g,λk=>by simp⟩,λ_=>?_,?_,?_,?_,Lib.strCells_oneCell s⟩,?_,?_⟩;.rw[a];simp[Builtin.lenOf]
 .rw[a];exact Lib.run_firstCells_string w 1 s
 .rw[a];exact Lib.run_firstCells_string w.drew 1 s
 .rw[a,Lib.strCells_length];simp
 .intro r d;simp only[ee,br]at d;obtain⟨c,_,rfl⟩:=d;rfl
 intro i j x f;obtain⟨r,e,b⟩:=iD f;simp only[ee,bu,al]at e;obtain⟨c,h,rfl⟩:=e;cases j with|zero =>simp only[aH,aa]at b;subst b;refine⟨rfl,.int .u8 c.toNat,?_,.i _ _⟩;simp[Lib.strCells,h]|succ j=>simp at b
def lp.append{l:cD}{c n:List Value}(h:lp R S X L Q c)(k:lp R S X l Q n)(o:F c=F L*Q):lp R S X (L++l) Q (c++n):=by
 refine⟨λr a=>?_,λi j x q=>?_⟩
 .rcases bR.1 a with a|a;.exact h.1 r a
  exact k.1 r a
 obtain⟨r,f,m⟩:=iD q;by_cases p:i<F L
 .rw[aj p]at f;have b:gp L i j=N x:=by rw[o7 f];exact m
  obtain⟨g,v,d,a⟩:=h.2 i j x b;exact⟨g,v,by rw[aj (ab.1 d).1];exact d,a⟩
 rw[aD (by omega)]at f;have b:gp l (i - F L) j=N x:=by rw[o7 f];exact m
 obtain⟨g,v,d,a⟩:=k.2 _ j x b;refine⟨g,v,?_,a⟩;have e:i*Q+j=F c+((i - F L)*Q+j):=by
  rw[o];have:i*Q=F L*Q+(i - F L)*Q:=by rw[<- Nat.add_mul];congr 1;omega
  omega
 rw[e,aD (by omega)];simpa using d
def rT(P:aM)(o:Oper)(a:Act)(B:Nat)(w0 w:aT)(J:ag)(μ:Mem)(x:V)(d:ag):Prop :=∃v c b,((execOp a.eval o).run P w=.ok (.value v) c\/((execOp a.eval o).run P w=.ok .skip c/\x=.u))/\gU P B w0 c d b/\VR c d b x v/\np w J μ c d b
def np.trans{L:ag}{l:Mem}{k:aT}{j:ag}{i:Mem}(p:np R S X M L l)(q:np M L l k j i):np R S X k j i:=by
 refine⟨λb o v g d=>?_,bX p.len q.len,λid T V h=>?_,λid K E es h=>?_,λid I m E n Q c h=>?_,λid E G r D sh xs H h=>?_⟩;.obtain⟨a,f⟩:=p.cell b o v g d;exact q.cell b o v a f
 .obtain⟨⟨t,g⟩,d⟩:=p.box id T V h;obtain⟨a,f⟩:=q.box id T t g;exact⟨a,f.trans d⟩
 .obtain⟨⟨U,y,g⟩,d⟩:=p.map id K E es h;obtain⟨a,f⟩:=q.map id K U y g;exact⟨a,f.trans d⟩
 .obtain⟨⟨u,W,g⟩,d⟩:=p.itr id I m E n Q c h;obtain⟨a,f⟩:=q.itr id I m E n u W g;exact⟨a,f.trans d⟩
 obtain⟨B,x,w,g,d,a⟩:=q.row id E G r D sh xs (dq H p.len) h;obtain⟨O,s,z,f,h5,P⟩:=p.row id E G r B x w H g;refine⟨O,s,z,f,bX h5 d,λe=>?_⟩;have J:B=D:=by omega
 have C:O=B:=by omega
 exact⟨(P C).1.trans (a J).1,(a J).2.trans (P C).2⟩
def Gq(hS:gU K Q R M S X)(T:Nat)(c:ao)(a:Array Value)(h:CR M S X c a): ∃b,gU K Q R (M.alloc (.cells a T)) (S++[.box T c]) b/\VR (M.alloc (.cells a T)) (S++[.box T c]) b (.ptr (F S) 0) (.pointer (N ⟨M.heap.size,0,Y⟩))/\np M S X (M.alloc (.cells a T)) (S++[.box T c]) b:=by
 have f:=hS.sb (w':=M.alloc (.cells a T)) (.box T c) (.pointer (N ⟨M.heap.size,0,Y⟩)) (World.grownBy_alloc M _ Y) (by simp[js]) (λg=>by
  refine⟨M.heap.size,a,rfl,hS.base,heap_alloc_new M _,h.1.symm,λj x e=>?_⟩;have d:j<a.size:=by rw[<- h.1];exact(ab.1 e).1
  exact⟨a[j],bD d,by have:=(h.2 j x e).mono g;simpa[d]using this⟩);exact⟨_,f.1,.ptr _ 0 _ ⟨T,c,by simp⟩ (eH _ _ _),f.2⟩
def rl{f:Type}(l b:List f)(a j:Nat)(h:a+F b<=F l):(l.take a++b++l.drop (a+F b))[j]?=if a<=j/\j<a+F b then b[j - a]? else l[j]?:=by
 have c:F (l.take a)=a:=by simp;omega
 by_cases e:j<a;.rw[au (by omega),aS,aj (by omega),bF e]
 by_cases g:j<a+F b;.rw[aK (by omega),aj (by rw[ai,c];omega),aD (by omega),c]
 have d:F (l.take a++b)=a+F b:=by rw[ai,c]
 rw[au (by omega),aD (by omega),d,dV];congr 1;omega
section IH
variable {P:aM} {o:Oper} {a:Act} {B:Nat} {w0 w:aT} {J:ag} {μ:Mem} {fr:ao} (hF:FR w J μ fr a) (hS:gU P B w0 w J μ)
include hF hS
theorem ae4{T:TypeId}{x:Operand}{e:O}(g:o.op=.box T x)(m:cO x=N e){d:Prop}{y:V}{c:ag}(h:cc fr J (.box T e)=N (d,y,c))(f:d):rT P o a B w0 w J μ y c:=by simp only[cc,aa,aB]at h;obtain⟨rfl,rfl,rfl⟩:=h;have l:=lC hS (dp hF m) f;obtain⟨b,j,i,k⟩:=Gq hS T _ _ l.1;exact⟨_,_,b,.inl (by simp[execOp,g,Instr.box,newVar,newRow]),j,i,k⟩
theorem Xf{T:TypeId}{t:TypeInfo}{z:Value}{zs:ao}(d:o.op=.alloc T)(i:P.info? T=N t)(l:t.zero=N z)(k:jr z.cells.toList=N zs){g:Prop}{y:V}{c:ag}(h:cc fr J (.alloc T zs)=N (g,y,c)):rT P o a B w0 w J μ y c:=by simp only[cc,aa,aB]at h;obtain⟨_,rfl,rfl⟩:=h;obtain⟨b,f,e,j⟩:=Gq hS T _ _ (lS (w:=w) (J:=J) (μ:=μ) k);exact⟨_,_,b,.inl (by simp[execOp,d,Instr.alloc,zeroValue,typeInfo,i,l,newVar,newRow]),f,e,j⟩
theorem Xc{T:TypeId}{t:TypeInfo}{ad x:Operand}{aE x':O}{I:List (bP)}(ho:o.op=.store T ad x)(ht:P.info? T=N t)(ha:cO ad=N aE)(hx:cO x=N x'){ob:Prop}{y:V}{J':ag}(h:cc fr J (.store t.size I aE x')=N (ob,y,J'))(dP:ob):rT P o a B w0 w J μ y J':=by
 have h1:=dp hF ha;have h2:=dp hF hx;have dA:∀b c (m:Array Value) E,a.eval ad=.pointer (N ⟨b,c,Y⟩)->w.heap[b]?=N (.cells m E (0,0))->(a.eval x).cells.size=t.size->c+(a.eval x).cells.size<=m.size->(∀u∈(a.eval x).cells,u.oneCell'=A) ->
   (execOp a.eval o).run P w=.ok .skip (w.setRow b (m.toList.take c++(a.eval x).cells.toList++m.toList.drop (c+(a.eval x).cells.size)).toArray):=by intro b c m E he M hs hf h1;have td:=run_storeCells_at P b c E (a.eval x).cells.toList 0 m w M (by simpa using hf) (λv hv=>h1 v (by simpa using hv));simp only[dQ,aW]at td;simp[execOp,ho,he,Instr.storeAt,Instr.sureAddr,storeVar,sizeOf,typeInfo,ht,hs,td]
 simp only[cc]at h;split at h
 .rename_i id c hp;split at h
  .rename_i T' cs s;simp only[aa,aB]at h;obtain⟨rfl,rfl,rfl⟩:=h;obtain⟨jf,l,vi⟩:=dP;rw[hp]at h1;obtain⟨b,hm,hv,_⟩:=h1.pK;obtain⟨b',W,X,hB,M,gv,Q⟩:=hS.NI s;rw[hm]at X;simp only[Value.pointer.injEq,aa,Addr.mk.injEq,lq]at X;subst X;obtain⟨hC,SC⟩:=lC hS h2 jf;have C:(a.eval x).cells.size=t.size:=by rw[<- hC.1];exact l
   have hr:=dA b c W T' hv M C (by rw[C,gv];exact vi) SC;have dC:id<F J:=(ab.1 s).1;generalize U:(W.toList.take c++(a.eval x).cells.toList++W.toList.drop (c+(a.eval x).cells.size)).toArray=arr at hr;have pj:=hS.update (w':=w.setRow b arr) (J':=J.set id (.box T' (cs.take c++fH (ev fr x')++cs.drop (c+t.size)))) (μ':=μ) id (N b)
    ⟨rfl,rfl,rfl,by simp,λk _ hk=>setRow_other w b k _ (λe=>hk (by simp[e]))⟩
    (λb2 R=>⟨_,s,by simp,by simp only[aa]at R;subst R;simp[hm,js]⟩)
    (by simp) (λj S=>aN (λe=>S e.symm)) (λ_ _=>rfl)
    (λb2 R=>.inl ⟨_,s,by simp,R⟩)
    (λb2 am v2 o2 f _ H _ n=>absurd ⟨id,o2,f,H,by rw[s]at f;simp only[aa]at f;subst f;trivial⟩ n)
    (λT2 a2 f=>by rw[s]at f;simp only[aa,Ob.box.injEq]at f;obtain⟨rfl,rfl⟩:=f;exact⟨⟨_,aw dC⟩,rfl⟩)
    (λK E es f=>by rw[s]at f;simp at f)
    (λE d av g' sh q _ f=>by simp[dC]at f)
    (λzW o2 f=>by
     simp only[aw dC,aa]at f;subst f;refine⟨b,arr,hm,hB,setRow_heap w b W arr T' (0,0) M,?_,λj y L=>?_⟩;.rw[<- U];simp only[eS,ai,bB,bY,aW];rw[C,gv,l]
     have a1:CR w J μ cs W:=⟨gv.symm,λi z hz=>by obtain⟨u,H,n⟩:=Q i z hz;rw[mo M]at H;simpa[bJ,H]using n⟩;have uq:=a1.fill hC c (by rw[l];exact vi);rw[l]at uq;obtain⟨e1,e2⟩:=uq;have S:j<arr.size:=by rw[<- U];have:=(ab.1 L).1;simp only[eS,ai,bB,bY,aW];simp only[ai,bB,bY]at this;rw[C,gv];rw[l]at this;exact this
     refine⟨arr[j],bD S,?_⟩;by_cases af:j<c
     .rw[aS,aj (by simp;omega),bF af]at L;obtain⟨u,H,n⟩:=Q j y L;rw[mo M]at H;have:arr[j]=u:=by
       have p:arr[j]?=N u:=by rw[<- U];simp only[mB];rw[aS,aj (by simp;omega),bF af];simpa using H
       rw[bD S]at p;simpa using p
      rw[this];exact n.mono zW
     by_cases aV:j<c+t.size
     .have SL:F (cs.take c)=c:=by simp;omega
      rw[aj (by simp only[ai,SL,l];omega),aD (by omega),SL]at L;have n:=hC.2 _ y L;have kZ:j - c<(a.eval x).cells.size:=by rw[C];omega
      have:arr[j]=(a.eval x).cells.getD (j - c) undef:=by
       have p:arr[j]?=N ((a.eval x).cells.getD (j - c) undef):=by
        rw[<- U];simp only[mB];have Lr:F (W.toList.take c)=c:=by simp;omega
        rw[aj (by simp only[ai,Lr,aW];omega),aD (by omega),Lr];simp[kZ]
       rw[bD S]at p;simpa using p
      rw[this];exact n.mono zW
     have SL:F (cs.take c++fH (ev fr x'))=c+t.size:=by rw[ai,l];simp;omega
     rw[aD (by omega),SL,dV]at L;have e3:c+t.size+(j - (c+t.size))=j:=by omega
     rw[e3]at L;obtain⟨u,H,n⟩:=Q j y L;rw[mo M]at H;have:arr[j]=u:=by
      have p:arr[j]?=N u:=by
       rw[<- U];simp only[mB];have Lr:F (W.toList.take c++(a.eval x).cells.toList)=c+t.size:=by simp[C];omega
       rw[aD (by omega),Lr,dV,C,e3];simpa using H
      rw[bD S]at p;simpa using p
     rw[this];exact n.mono zW);exact⟨undef,_,μ,.inr ⟨hr,rfl⟩,pj.1,.u _,pj.2⟩
  simp at h
 .rename_i id g i c hp;split at h
  .rename_i E d av g' sh q s;split at h
   .rename_i hg;obtain⟨rfl,rfl⟩:=hg;simp only[aa,aB]at h;obtain⟨rfl,rfl,rfl⟩:=h;obtain⟨jf,Sy,l,vi,hi⟩:=dP;rw[hp]at h1;obtain⟨_,hv⟩:=h1.Gy s;obtain⟨Nr,a4,⟨Qx,hw⟩,cH,Sv⟩:=hS.obj id _ s;rcases hw with⟨_,hn⟩|⟨b,ap,m,hm,hB,M,I5,BY,Q,BV⟩;.omega
    have a3:a.eval ad=.pointer (N ⟨b,i*d+c,Y⟩):=by rw[hv,hm];rfl
    obtain⟨Nu,SC⟩:=lC hS h2 jf;have hC:=Nu.cZ I;have C:(a.eval x).cells.size=t.size:=by rw[<- Nu.1];exact l
    have Nk:F (cZ I (fH (ev fr x')))=t.size:=by rw[hC.1];exact C
    have bm:(i+1)*d<=F q*d:=bL _ hi;have bp:F q*d<=ap*d:=bL _ I5;have bn:(i+1)*d=i*d+d:=by rw[cN,gN]
    have hr:=dA b (i*d+c) m E a3 M C (by rw[C,Q];omega) SC;have dC:id<F J:=(ab.1 s).1;generalize U:(m.toList.take (i*d+c)++(a.eval x).cells.toList++m.toList.drop (i*d+c+(a.eval x).cells.size)).toArray=arr at hr;have Li:q.getD i []=q[i]:=by simp[hi]
    have Zr:q[i].length=d:=cH _ (cS hi);have vj:∀j,arr.toList[j]?=if i*d+c<=j/\j<i*d+c+t.size then(a.eval x).cells.toList[j - (i*d+c)]? else m.toList[j]?:=by intro j;rw[<- U];have:=rl m.toList (a.eval x).cells.toList (i*d+c) j (by rw[aW,aW,C,Q];omega);rw[aW,C]at this;rw[C];exact this
    have B4:arr.size=m.size:=by rw[<- U];simp only[eS,ai,bB,bY,aW];rw[C,Q];omega
    have pj:=hS.update (w':=w.setRow b arr) (J':=J.set id (.row E d av g false (q.set i ((q.getD i []).take c++cZ I (fH (ev fr x'))++(q.getD i []).drop (c+t.size))))) (μ':=μ) id (N b) ⟨rfl,rfl,rfl,by simp,λk _ hk=>setRow_other w b k _ (λe=>hk (by simp[e]))⟩ (λb2 R=>⟨_,s,by simp,by simp only[aa]at R;subst R;simp[hm,js]⟩) (by simp) (λj S=>aN (λe=>S e.symm)) (λ_ _=>rfl) (λb2 R=>.inl ⟨_,s,by simp,R⟩) (λb2 am v2 o2 f _ H _ n=>absurd ⟨id,o2,f,H,by rw[s]at f;simp only[aa]at f;subst f;intro hf;simp at hf⟩ n) (λT2 a2 f=>by rw[s]at f;simp at f) (λK E es f=>by rw[s]at f;simp at f) (λE2 a5 a9 g2 bi be _ f=>by
      simp only[aw dC,aa,Ob.row.injEq]at f;obtain⟨rfl,rfl,rfl,rfl,rfl,rfl⟩:=f;exact⟨g,false,q,s,ax _,λ_=>⟨by simp,rfl⟩⟩) (λzW o2 f=>by
      simp only[aw dC,aa]at f;subst f;refine⟨Nr,arr.toList.take (F q*d),⟨?_,.inr ⟨b,ap,arr,by simpa using hm,hB,setRow_heap w b m arr E (0,0) M,by simpa using I5,BY,by rw[B4,Q],by simp⟩⟩,?_,?_⟩;.simp only[bB,aW,B4,Q,dI];omega
      .intro r a0;rcases abb a0 with n|n;.exact cH r n
       rw[n,Li];simp only[ai,bB,bY,Zr,Nk];omega
      intro G D y L;obtain⟨r,n,p⟩:=iD L;have Hj:G<F q:=by have:=(ab.1 n).1;simpa using this
      by_cases Lu:G=i
      .subst Lu;rw[aw hi]at n;simp only[aa]at n;subst n;rw[Li]at p;have I3:=rl q[G] (cZ I (fH (ev fr x'))) c D (by rw[Nk,Zr];exact vi);rw[Nk]at I3;rw[I3]at p;have aV:D<d:=by have:=(ab.1 (I3▸p:_)).1;simp only[ai,bB,bY,Zr,Nk]at this;omega
       have zX:G*d+D<F q*d:=by omega
       by_cases hc:c<=D/\D<c+t.size
       .rw[aK hc]at p;refine⟨Sy y (bc p),(a.eval x).cells.getD (D - c) undef,?_,(hC.2 _ y p).mono zW⟩;rw[bF zX,vj,aK (by omega)];have e1:G*d+D - (G*d+c)=D - c:=by omega
        have e2:D - c<(a.eval x).cells.size:=by rw[C];omega
        rw[e1];simp[e2]
       rw[au hc]at p;have fG:gp q G D=N y:=by rw[o7 (an hi)];exact p
       obtain⟨ac,u,h7,h8⟩:=Sv G D y fG;refine⟨ac,u,?_,h8.mono zW⟩;rw[bF zX,vj,au (by omega)];rw[<- BV,bF zX]at h7;exact h7
      rw[aN (λe=>Lu e.symm)]at n;have fG:gp q G D=N y:=by rw[o7 n];exact p
      obtain⟨ac,u,h7,h8⟩:=Sv G D y fG;have aV:D<d:=by rw[<- cH r (bc n)];exact(ab.1 p).1
      have zX:G*d+D<F q*d:=by have:(G+1)*d<=F q*d:=bL _ Hj;rw[cN,gN]at this;omega
      refine⟨ac,u,?_,h8.mono zW⟩;rw[bF zX,vj,au ?_];.rw[<- BV,bF zX]at h7;exact h7
      rintro⟨h9,B6⟩;rcases Nat.lt_or_gt_of_ne Lu with z7|z7;.have:(G+1)*d<=i*d:=bL _ z7;rw[cN,gN]at this;omega
      have:(i+1)*d<=G*d:=bL _ z7;rw[cN,gN]at this;omega);exact⟨undef,_,μ,.inr ⟨hr,rfl⟩,pj.1,.u _,pj.2⟩
   simp at h
  simp at h
 simp at h
end IH
def gU.grow{P:aM}{B:Nat}{w0 w:aT}{J:ag}{μ:Mem}(hS:gU P B w0 w J μ){id E a l g:Nat}{f sh':Bool}{i xs':cD}(c:J[id]?=N (.row E a l g f i)){k:aT}{v':Value}{vals vals':List Value} (S:w.grownBy k (js (μ id))) (X:∀b,js v'=N b->js (μ id)=N b\/w.heap.size<=b) (s:∀b,js (μ id)=N b->∀j u,vals[j]?=N u->k.cell? ⟨b,j,Y⟩=N u) (Qx:F vals=F i*a\/f=Z) (m:f=A->∀b,js (μ id)=N b->∀j u,w.cell? ⟨b,j,Y⟩=N u->j<F i*a->vals[j]?=N u) (C:f=A->sh'=A/\F i<=F xs') (R:k.ownsRow B E a v' (F xs') vals') (O:∀D n,nM w J μ k D n->lp k D n xs' a vals') : gU P B w0 k (J.set id (.row E a l (g+1) sh' xs')) (r7 μ id v')/\np w J μ k (J.set id (.row E a l (g+1) sh' xs')) (r7 μ id v'):=by
 have t:id<F J:=(ab.1 c).1;refine hS.update id (js (μ id)) S (λb q=>⟨_,c,by simp,q⟩) (by simp) (λj v=>aN (λe=>v e.symm)) (λj v=>mQ μ id v' j v) ?_ ?_ ?_ ?_ ?_ ?_
 .intro b q;rw[eH]at q;rcases X b q with h|h;.exact .inl ⟨_,c,by simp,h⟩
  exact .inr h
 .intro b d u o y _ r M I;rw[c]at y;simp only[aa]at y;subst y;have p:¬(f=A->F i*a<=d):=λp=>I ⟨id,_,c,r,p⟩;have z:f=A:=by cases f with|true=>rfl|false=>exact absurd (λh=>by simp at h) p
  have L:d<F i*a:=Nat.lt_of_not_le λh=>p λ_=>h;refine⟨s b r d u (m z b r d u M L),λo' G h6=>?_⟩;simp only[aw t,aa]at G;subst G;intro x;have h7:=x (C z).1;have h8:F i*a<=F xs'*a:=bL _ (C z).2;omega
 .intro T cs h;rw[c]at h;simp at h
 .intro K E es h;rw[c]at h;simp at h
 .intro E2 H Q g2 W V _ h;simp only[aw t,aa,Ob.row.injEq]at h;obtain⟨rfl,rfl,rfl,rfl,rfl,rfl⟩:=h;exact⟨g,f,i,c,by omega,λe=>by omega⟩
 intro U o h;simp only[aw t,aa]at h;subst h;rw[eH];exact⟨(hS.obj id _ c).1,vals',R,O _ _ U.fU⟩
def VR.nR{w:aT}{J:ag}{μ:Mem}{id E sz by' g:Nat}{sh:Bool}{xs:cD}(h:J[id]?=N (.row E sz by' g sh xs)):VR w J μ (.own id g) (μ id) := .own id g _ (ab.1 h).1 λi d e f c b a=>by rw[h]at a;simp only[aa,Ob.row.injEq]at a;obtain⟨rfl,rfl,rfl,rfl,rfl,rfl⟩:=a;exact⟨ax _,λ_=>rfl⟩
section IH
variable {P:aM} {o:Oper} {a:Act} {B:Nat} {w0 w:aT} {J:ag} {μ:Mem} {fr:ao} (hS:gU P B w0 w J μ)
include hS
theorem NC{T U E:TypeId}{t:TypeInfo}{z:Value}{x y:Operand}{xV:V}{m:cD}{news:List Value}(ho:o.op=.call { callee:=.builtin .append,args:=#[x,y],argTypes:=#[T,U] }) (hT:P.underlying T=N (.slice E)) (L:P.info? E=N t) (hz:t.zero=N z) (gv:0<t.size) (nP:z.cells.size=t.size) (H:VR w J μ xV (a.eval x)) (W:Src P w U (a.eval y) t.size (F m) news) (Sv:lp w J μ m t.size news) {ob:Prop} {r:V} {J':ag} (h:xu E t.size t.bytes J xV m=N (ob,r,J')) (M:ob):rT P o a B w0 w J μ r J':=by
 have Nr:Ti P E t.size t.bytes:=⟨gv,t,z,L,hz,rfl,rfl,nP⟩;have S:∀v w',(Builtin.append_ #[T,U] o.type #[a.eval x,a.eval y]).run P w=.ok v w'->(execOp a.eval o).run P w=.ok (.value v) w':=by intro v w' hr;simp only[execOp,ho,resolve,invoke,builtin,Sem.run_bind,Sem.run_pure,Result.andThen_ok,List.map_toArray,aC,bI,hr]
 unfold xu at h;split at h;.
  simp only[aa,aB]at h;obtain⟨rfl,rfl,rfl⟩:=h;have l:=H.nz;obtain⟨v',w',s,p,C,q,K⟩:=sQ (ty:=o.type) hT L hz nP W B (.slice Y 0 0) 0 [] (World.ownsRow_nil w B E t.size) (by simpa using M.2) (by simpa using M.1) hS.base;simp only[bq,bg]at p;have D:=hS.sb (w':=w') (.row E t.size t.bytes 0 Z m) v' C (λb n=>by
   rcases q b n with h6|h6;.simp[js]at h6
   exact h6) (λhp=>⟨Nr,news,p,Sv.fU hp.fU⟩);refine⟨v',w',_,.inl (S _ _ (by rw[l];exact s)),D.1,?_,D.2⟩;have:=VR.nR (w:=w') (J:=J++[.row E t.size t.bytes 0 Z m]) (μ:=r7 μ (F J) v') (id:=F J) (E:=E) (sz:=t.size) (by':=t.bytes) (g:=0) (sh:=Z) (xs:=m) (by simp);rwa [eH]at this
 .
  rename_i af xs;split at h
  .rename_i am;subst am;simp only[aa,aB]at h;obtain⟨rfl,rfl,rfl⟩:=h;by_cases Q:m=[]
   .subst Q;simp only[List.isEmpty_nil,aU];rcases H.pL with⟨rfl,l⟩|⟨b,a3,f,l,_⟩;.exact⟨_,w,μ,.inl (S _ _ (by rw[l];exact nZ hT L W Y 0 0 (ax _))),hS,l▸H,np.refl _ _ _⟩
    exact⟨_,w,μ,.inl (S _ _ (by rw[l];exact nZ hT L W _ _ _ (ax _))),hS,l▸H,np.refl _ _ _⟩
   have gn:m.isEmpty=Z:=by cases m<;>simp_all
   have yt:0<F m:=dJ.2 Q;simp only[gn,aI,aQ];have XQ:=xT hS H (sz:=t.size) (xs:=xs) (by simp[rowsOf]);have ap:∃(X:Option Addr) (d:List Value),a.eval x=.slice X (F xs) (F xs)/\F d=F xs*t.size/\((X=Y/\F xs=0)\/∃b,X=N b/\∀j v,d[j]?=N v->w.cell? (b.add j)=N v)/\lp w J μ xs t.size d:=by
    rcases H.pL with⟨rfl,l⟩|⟨b,a3,f,l,R,hr⟩;.exact⟨Y,[],l,by simp,.inl ⟨rfl,rfl⟩,by simp,by simp[gp]⟩
    rw[l]at XQ;obtain⟨vals,s,p,C,q⟩:=XQ.cells (λi j y Q=>pB (hr.2.1 i j y Q).2.2) hS;exact⟨_,vals,l,s,.inr ⟨_,rfl,p⟩,q⟩
   obtain⟨X,d,l,vJ,a1,a4⟩:=ap;obtain⟨v',w',s,p,C,q⟩:=HU (ty:=o.type) hT L hz nP W B X (F xs) d vJ a1 yt M.2 M.1 hS.base;have D:=hS.sb (w':=w') (.row E t.size t.bytes 0 Z (xs++m)) v' C q (λhp=>⟨Nr,d++news,by rw[ai];exact p,(a4.append Sv vJ).fU hp.fU⟩);refine⟨v',w',_,.inl (S _ _ (by rw[l];exact s)),D.1,?_,D.2⟩;have:=VR.nR (w:=w') (J:=J++[.row E t.size t.bytes 0 Z (xs++m)]) (μ:=r7 μ (F J) v') (id:=F J) (E:=E) (sz:=t.size) (by':=t.bytes) (g:=0) (sh:=Z) (xs:=xs++m) (by simp);rwa [eH]at this
  simp at h
 .
  rename_i id g;split at h
  .rename_i E' af a0 g' sh xs n;split at h
   .rename_i hc;obtain⟨rfl,rfl,rfl,rfl⟩:=hc;simp only[aa,aB]at h;obtain⟨rfl,rfl,rfl⟩:=h;have l:=H.kE n;obtain⟨_,vals,I,cH⟩:=hS.obj id _ n;obtain⟨v',w',s,p,C,q,K⟩:=sQ (ty:=o.type) hT L hz nP W B (μ id) (F xs) vals I M.2 M.1 hS.base;have dC:id<F J:=(ab.1 n).1;have D:=hS.grow n (sh':=sh) (xs':=xs++m) (v':=v') (vals:=vals) (vals':=vals++news) C q K (.inl I.1) (λ_ b ky j u hc hj=>by
      have av:j<F vals:=by rw[I.1];exact hj
      have:=I.cells (g:=b) (by
       have:(μ id).ownBlock=js (μ id):=by rcases I.2 with⟨R,_⟩|⟨g,G,ac,R,_⟩<;>rw[R]<;>rfl
       rw[this];exact ky) j vals[j] (an av);rw[Addr.add_lit,bq,hc]at this;simp only[aa]at this;rw[an av,this]) (λh=>⟨h,by simp⟩) (by rw[ai];exact p) (λJ' a2 k=>(cH.append Sv I.1).fU k);refine⟨v',w',_,.inl (S _ _ (by rw[l];exact s)),D.1,?_,D.2⟩;have:=VR.nR (w:=w') (J:=J.set id (.row E t.size t.bytes (g+1) sh (xs++m))) (μ:=r7 μ id v') (id:=id) (E:=E) (sz:=t.size) (by':=t.bytes) (g:=g+1) (sh:=sh) (xs:=xs++m) (aw dC);rwa [eH]at this
   simp at h
  simp at h
 .
  rename_i id g lo e;split at h
  .rename_i E' af a0 g' sh xs n;split at h
   .rename_i hc;obtain⟨rfl,rfl,rfl,rfl,rfl,rfl⟩:=hc;simp only[aa,aB]at h;obtain⟨rfl,rfl,rfl⟩:=h;obtain⟨_,_,l⟩:=H.pJ n;obtain⟨_,vals,I,cH⟩:=hS.obj id _ n;obtain⟨J1,yx,ky⟩:=M;have c:w.ownsRow B E t.size (a.eval x) e (vals.take (e*t.size))/\js (a.eval x)=js (μ id):=by
     have a9:e*t.size<=F xs*t.size:=bL _ J1;rcases I with⟨Qx,⟨R,D⟩|⟨b,G,ac,R,s,p,C,q,K,h6⟩⟩
     .have h0:e=0:=by omega
      subst h0;rw[l,R];exact⟨⟨by simp,.inl ⟨rfl,rfl⟩⟩,rfl⟩
     rw[l,R];have he:lk (.slice (N ⟨b,0,Y⟩) (F xs) G) 0 e t.size=.slice (N ⟨b,0,Y⟩) e G:=by simp[lk,Addr.add_lit]
     rw[he];refine⟨⟨by simp only[bB,Qx];omega,.inr ⟨b,G,ac,rfl,s,p,by omega,q,K,?_⟩⟩,rfl⟩;rw[<- h6,vC,jA a9]
    have O:lp w J μ (xs.take e) t.size (vals.take (e*t.size)):=by
     refine⟨λr hr=>cH.1 r (dv hr),λi j y Q=>?_⟩;have a5:gp (List.take (e - 0) (List.drop 0 xs)) i j=N y:=by simpa using Q
     have s:=AJ a5;rw[bq]at s;obtain⟨hp,u,p,C⟩:=cH.2 i j y s;refine⟨hp,u,?_,C⟩;obtain⟨r,q,K⟩:=iD Q;have aV:i<e:=by have:=(ab.1 q).1;simp at this;omega
     have hj:j<t.size:=by rw[<- cH.1 r (dv (bc q))];exact(ab.1 K).1
     have:(i+1)*t.size<=e*t.size:=bL _ aV;rw[cN,gN]at this;rw[bF (by omega)];exact p
    have aE:F (xs.take e)=e:=by simp;omega
    obtain⟨v',w',s,p,C,q,K⟩:=sQ (ty:=o.type) hT L hz nP W B (a.eval x) e _ c.1 ky yx hS.base;rw[c.2]at C;have dC:id<F J:=(ab.1 n).1;have D:=hS.grow n (sh':=Z) (xs':=xs.take e++m) (v':=v') (vals:=vals.take (e*t.size)) (vals':=vals.take (e*t.size)++news) C (λb n=>by rw[<- c.2];exact q b n) (λb n=>K b (by rw[c.2];exact n)) (.inr rfl) (λh=>by simp at h) (λh=>by simp at h) (by rw[ai,aE];exact p) (λJ' a2 k=>(O.append Sv (by rw[aE];exact c.1.1)).fU k);refine⟨v',w',_,.inl (S _ _ s),D.1,?_,D.2⟩;have:=VR.nR (w:=w') (J:=J.set id (.row E t.size t.bytes (g+1) Z (xs.take e++m))) (μ:=r7 μ id v') (id:=id) (E:=E) (sz:=t.size) (by':=t.bytes) (g:=g+1) (sh:=Z) (xs:=xs.take e++m) (aw dC);rwa [eH]at this
   simp at h
  simp at h
 simp at h
variable (hF:FR w J μ fr a)
include hF
theorem ae5{T E:TypeId}{t:TypeInfo}{z:Value}{x y:Operand}{e d:O}(f:o.op=.call { callee:=.builtin .append,args:=#[x,y],argTypes:=#[T,T] }) (hT:P.underlying T=N (.slice E)) (j:P.info? E=N t) (s:t.zero=N z) (k:0<t.size) (m:z.cells.size=t.size) (l:cO x=N e) (i:cO y=N d) {c:Prop} {r:V} {b:ag} (h:cc fr J (.app E t.size t.bytes e d)=N (c,r,b)) (n:c):rT P o a B w0 w J μ r b:=by
 simp only[cc]at h;split at h;.rename_i u q;obtain⟨news,p,g⟩:=(xT hS (dp hF i) q).src hS hT;exact NC hS f hT j s k m (dp hF l) p g h n
 simp at h
theorem aaH{T U E:TypeId}{t:TypeInfo}{z:Value}{x y:Operand}{g f:O}(i:o.op=.call { callee:=.builtin .append,args:=#[x,y],argTypes:=#[T,U] }) (hT:P.underlying T=N (.slice E)) (q:P.underlying U=N .string) (n:P.info? E=N t) (G:t.zero=N z) (c:t.size=1) (b:t.bytes=1) (v:z.cells.size=t.size) (u:cO x=N g) (m:cO y=N f) {e:Prop} {r:V} {d:ag} (h:cc fr J (.apps E g f)=N (e,r,d)) (C:e):rT P o a B w0 w J μ r d:=by
 simp only[cc]at h;split at h;.rename_i l j;obtain⟨s,p,rfl,_⟩:=(j▸dp hF m).mi;obtain⟨D,k⟩:=Kp (P:=P) (w:=w) (J:=J) (μ:=μ) q s;refine NC (news:=Lib.strCells s) hS i hT n G (by omega) v (dp hF u) (by rw[p,c];exact D) (by rw[c];exact k) (by rw[c,b];exact h) C
 simp at h
theorem Xe{T K E:TypeId}(d:o.op=.makeMap T Y){e:Prop}{r:V}{b:ag}(h:cc fr J (.nJ K E)=N (e,r,b)):rT P o a B w0 w J μ r b:=by simp only[cc,aa,aB]at h;obtain⟨_,rfl,rfl⟩:=h;have c:=hS.sb (w':=w.alloc (.map #[] 0)) (.map K E []) (.map (N w.heap.size)) (World.grownBy_alloc w _ Y) (by simp[js]) (λf=>⟨w.heap.size,#[],0,rfl,hS.base,heap_alloc_new w _,by simp,by simp,by simp,by simp⟩);refine⟨_,_,_,.inl (by simp[execOp,d,Instr.makeMap];rfl),c.1,?_,c.2⟩;exact .mp _ _ ⟨K,E,[],by simp⟩ (eH _ _ _)
end IH
variable{r:Bool}{X:Mem}{n:Nat}{K:V}{v:Value}{M:aM}{L:aT}{Q:ag}{R S:ao}{H:cy}
def Tp{zs:ao}{i j:Nat}(h:gp (List.replicate n zs) i j=N K):i<n/\zs[j]?=N K:=by
 obtain⟨r,a,c⟩:=iD h;have b:i<n:=by have:=(ab.1 a).1;simpa using this
 rw[pn,aK b]at a;simp only[aa]at a;subst a;exact⟨b,c⟩
def wT(z:Array Value)(j:Nat)(h:j<z.size):z[j]! = z.getD j undef:=by simp[h]
def CR.sZ(a:List (bP)){xs:ao}{b:Array Value}(h:CR L Q X xs b):VR L Q X (.agg (Pm.cZ a xs)) (.agg b):=(CR.cZ a h).QW
def Pr(h:Zj H=N n):(n=4/\H=[1,1])\/(n=5/\H=[0,1,0]):=by
 unfold Zj at h;split at h<;>simp at h;.exact .inl ⟨h.symm,rfl⟩
 exact .inr ⟨h.symm,rfl⟩
def ny{b:Nat}(h:kD M n=N b): (b=0/\∃q,M.underlying n=N (.int q))\/(b=1/\M.underlying n=N .string)\/(b=3/\∃e q,M.underlying n=N (.array 2 e)/\M.underlying e=N (.int q)/\M.cellsOf e=1) \/(∃d c,M.underlying n=N (.struct d)/\M.stoodInHeld n=Z/\kp M 0 d.toList=N c/\((b=4/\c=[1,1])\/(b=5/\c=[0,1,0]))):=by
 unfold kD at h;split at h;.rename_i q a;simp only[aa]at h;exact .inl ⟨h.symm,q,a⟩
 .rename_i a;simp only[aa]at h;exact .inr (.inl ⟨h.symm,a⟩)
 .rename_i d a;split at h;.rename_i f;rw[afP]at h;obtain⟨c,j,i⟩:=h;exact .inr (.inr (.inr ⟨d,c,a,f,j,Pr i⟩))
  simp at h
 .rename_i e a;split at h
  .rename_i q g;split at h;.rename_i k;simp only[aa]at h;exact .inr (.inr (.inl ⟨h.symm,e,q,a,g,k⟩))
   simp at h
  simp at h
 simp at h
def Cj{P:aM}{w:aT}{J:ag}{μ:Mem}{K:TypeId}{m:Nat}{d:TypeDesc}(v:P.underlying K=N d)(D:kD P K=N m)(j:m<3){k:V}{p:Value}(u:VR w J μ k p): ∀(l:List (V×V)) (c:List MapEntry) (n:Nat) (r:Option (Nat×V)),F c=F l->(∀(i:Nat) (a x:V),l[i]?=N (a,x)->∃e:MapEntry,c[i]?=N e/\VR w J μ a e.key/\VR w J μ x e.val)->eL m k l n=N r ->(r=Y/\Instr.findNow d p c n=N Y)\/∃i x e a,r=N (n+i,x)/\l[i]?=N (a,x)/\c[i]?=N e/\cA m k a=N A/\Instr.findNow d p c n=N (N (n+i,e.val))
 |[],c,n,r,hl,_,h=>by have:c=[]:=aL hl;subst this;simp only[eL,aa]at h;subst h;exact .inl ⟨rfl,rfl⟩
 |(a,x)::l,c,n,r,hl,hr,h=>by
  cases c with
  |nil=>simp at hl
  |cons e c =>
  obtain⟨S,E,C,R⟩:=hr 0 a x rfl;simp only[aH,aa]at E;subst E;have B:∀b,cA m k a=N b->Instr.sameNow d p e.key=N b:=by
   intro b f;rcases ny D with⟨rfl,q,g⟩|⟨rfl,g⟩|⟨rfl,_⟩|⟨_,_,_,_,_,⟨rfl,_⟩|⟨rfl,_⟩⟩;.rw[v]at g;simp only[aa]at g;subst g;cases k<;>(try (simp[cA]at f;done));cases a<;>(try (simp[cA]at f;done));simp only[cA]at f;split at f<;>simp only[aa,reduceCtorEq]at f;rename_i G;subst G;rw[u.fE,C.fE];simp[Instr.sameNow,f]
   .rw[v]at g;simp only[aa]at g;subst g;cases k<;>(try (simp[cA]at f;done));cases a<;>(try (simp[cA]at f;done));simp only[cA,aa]at f;obtain⟨s,rfl,rfl,_⟩:=u.mi;obtain⟨Q,t,rfl,_⟩:=C.mi;rw[t];simp only[Instr.sameNow,aa];rw[beq_toListBytes,toList_data,toList_data];exact f
   all_goals omega
  simp only[eL]at h;split at h;.rename_i f;simp only[aa]at h;subst h;exact .inr ⟨0,x,e,a,rfl,rfl,rfl,f,by simp[Instr.findNow,B A f]⟩
  .rename_i f;have ih:=Cj v D j u l c (n+1) r (by simpa using hl) (λi a x L=>by obtain⟨z,j,o⟩:=hr (i+1) a x L;exact⟨z,by simpa using j,o⟩) h;rcases ih with⟨j,o⟩|⟨i,y,z,O,j,o,I,M,H⟩;.exact .inl ⟨j,by simp[Instr.findNow,B Z f,o]⟩
   exact .inr ⟨i+1,y,z,O,by rw[j];congr 2;omega,o,by simpa using I,M,by simp only[Instr.findNow,B Z f,H];congr 3;omega⟩
  simp at h
def s5(h:KQ R S=N r):∃k a l b c d,R=[.i k a,.i l b]/\S=[.i k c,.i l d]/\r=(a==c&&b==d):=by
 unfold KQ at h;split at h;.split at h<;>simp only[aa,reduceCtorEq]at h;rename_i e;obtain⟨rfl,rfl⟩:=e;exact⟨_,_,_,_,_,_,rfl,rfl,h.symm⟩
 simp at h
def sM(h:A2 R S=N r):∃a b d c,R=[.s a,.s b]/\S=[.s d,.s c]/\r=(a==d&&b==c):=by
 unfold A2 at h;split at h;.simp only[aa]at h;exact⟨_,_,_,_,rfl,rfl,h.symm⟩
 simp at h
def uZ(h:HB R S=N r):∃k a b l c d f e,R=[.i k a,.s b,.i l c]/\S=[.i k d,.s f,.i l e]/\r=(a==d&&(b==f&&c==e)):=by
 unfold HB at h;split at h;.split at h<;>simp only[aa,reduceCtorEq]at h;rename_i g;obtain⟨rfl,rfl⟩:=g;exact⟨_,_,_,_,_,_,_,_,rfl,rfl,h.symm⟩
 simp at h
def Fh(h:A2 R S=N r):fu [1,1] R S=N r/\F R=2/\F S=2:=by obtain⟨a,b,c,d,rfl,rfl,rfl⟩:=sM h;exact⟨by simp[fu,cA],rfl,rfl⟩
def HA(h:HB R S=N r):fu [0,1,0] R S=N r/\F R=3/\F S=3:=by obtain⟨k,a,b,l,c,d,f,e,rfl,rfl,rfl⟩:=uZ h;exact⟨by simp[fu,cA],rfl,rfl⟩
def sO{a:V}(h:cA n K a=N A):K=a:=by
 unfold cA at h;split at h;.split at h<;>simp_all
 .simp_all
 .simp_all
 .obtain⟨_,_,_,_,_,_,rfl,rfl,b⟩:=s5 h;have:=b.symm;simp at this;obtain⟨rfl,rfl⟩:=this;rfl
 .obtain⟨_,_,_,_,rfl,rfl,b⟩:=sM h;have:=b.symm;simp at this;obtain⟨rfl,rfl⟩:=this;rfl
 .obtain⟨_,_,_,_,_,_,_,_,rfl,rfl,b⟩:=uZ h;have:=b.symm;simp at this;obtain⟨rfl,rfl,rfl⟩:=this;rfl
 simp at h
def vW{K:TypeId}{b:Array Field}(g:M.underlying K=N (.struct b))(l:M.stoodInHeld K=false)(i:kp M 0 b.toList=N H) {f:Value} (m:VR L Q X (.agg R) v) (n:VR L Q X (.agg S) f)  (h:fu H R S=N r):(Op.equal K v f).run M L=.ok r L:=by
 obtain⟨c,rfl,p,o⟩:=m.iZ;obtain⟨d,rfl,q,k⟩:=n.iZ;have a:M.fieldsOf K=b:=by simp[Program.fieldsOf,g]
 show(Op.equalIn 10000 K (.agg c) (.agg d)).run M L=.ok r L;rw[run_equalIn_struct L 9999 K c d (by rw[a];exact g) l,a];exact rm b.toList H 0 R S c d r 9998 i (λj z e=>by simpa using o j z e) (λj z e=>by simpa using k j z e) (by omega) (by omega) h
def Od{c:TypeId}(r:kD M c=N n)(B:¬n<3)(k:VR L Q X K v): ∃d,M.underlying c=N d/\(∀e l f,Instr.findNow d v (e::l) f=Y)/\∀a i b,VR L Q X a i->cA n K a=N b->(Op.equal c v i).run M L=.ok b L:=by
 rcases ny r with⟨rfl,_⟩|⟨rfl,_⟩|⟨rfl,e,q,h,s,t⟩|⟨y,x,h,o,m,p⟩;.omega
 .omega
 .refine⟨_,h,λe l f=>by simp[Instr.findNow,Instr.sameNow],λa i b j g=>?_⟩;cases K<;>(try (simp[cA]at g;done));cases a<;>(try (simp[cA]at g;done));simp only[cA]at g;obtain⟨u,C,D,w,E,z,rfl,rfl,rfl⟩:=s5 g;rw[k.pair,j.pair];exact uD h s t _ _ _ _ _ _
 refine⟨_,h,λe l f=>by simp[Instr.findNow,Instr.sameNow],λa i b j g=>?_⟩;rcases p with⟨rfl,rfl⟩|⟨rfl,rfl⟩;.cases K<;>(try (simp[cA]at g;done));cases a<;>(try (simp[cA]at g;done));exact vW h o m k j (Fh g).1
 cases K<;>(try (simp[cA]at g;done));cases a<;>(try (simp[cA]at g;done));exact vW h o m k j (HA g).1
def uR{P:aM}{w:aT}{J:ag}{μ:Mem}{K:TypeId}{o:Nat}{k:V}{p:Value}(s:∀a t b,VR w J μ a t->cA o k a=N b->(Op.equal K p t).run P w=.ok b w): ∀(g:List (V×V)) (c:List MapEntry) (n:Nat) (r:Option (Nat×V)),F c=F g->(∀(i:Nat) (a x:V),g[i]?=N (a,x)->∃e:MapEntry,c[i]?=N e/\VR w J μ a e.key/\VR w J μ x e.val)->eL o k g n=N r ->(r=Y/\(Instr.findAsking K p c n).run P w=.ok Y w)\/∃i x e a,r=N (n+i,x)/\g[i]?=N (a,x)/\c[i]?=N e/\cA o k a=N A/\(Instr.findAsking K p c n).run P w=.ok (N (n+i,e.val)) w
 |[],c,n,r,hl,_,h=>by have:c=[]:=aL hl;subst this;simp only[eL,aa]at h;subst h;exact .inl ⟨rfl,by simp[Instr.findAsking]⟩
 |(a,x)::g,c,n,r,hl,hr,h=>by
  cases c with
  |nil=>simp at hl
  |cons f c =>
  obtain⟨G,l,u,E⟩:=hr 0 a x rfl;simp only[aH,aa]at l;subst l;have q:∀b,cA o k a=N b->(Op.equal K p f.key).run P w=.ok b w:=λb d=>s a _ b u d;simp only[eL]at h;split at h;.rename_i d;simp only[aa]at h;subst h;exact .inr ⟨0,x,f,a,rfl,rfl,rfl,d,by simp[Instr.findAsking,q A d]⟩
  .rename_i d;have ih:=uR s g c (n+1) r (by simpa using hl) (λi a x B=>by obtain⟨f,m,j⟩:=hr (i+1) a x B;exact⟨f,by simpa using m,j⟩) h;rcases ih with⟨m,j⟩|⟨i,y,f,D,m,j,z,C,v⟩;.exact .inl ⟨m,by simp[Instr.findAsking,q Z d,j]⟩
   exact .inr ⟨i+1,y,f,D,by rw[m];congr 2;omega,j,by simpa using z,C,by simp only[Instr.findAsking,Sem.run_bind,q Z d,Result.andThen_ok,aI,aQ,v];congr 3;omega⟩
  simp at h
def kO{b:TypeId}(p:kD M b=N n)(y:VR L Q X K v) (l:List (V×V)) (c:List MapEntry) (r:Option (Nat×V)) (s:F c=F l) (t:∀(i:Nat) (a x:V),l[i]?=N (a,x)->∃e:MapEntry,c[i]?=N e/\VR L Q X a e.key/\VR L Q X x e.val) (h:eL n K l 0=N r) : (r=Y/\(Instr.findKey b v c).run M L=.ok Y L)\/∃i x e a,r=N (i,x)/\l[i]?=N (a,x)/\c[i]?=N e/\cA n K a=N A/\(Instr.findKey b v c).run M L=.ok (N (i,e.val)) L:=by
 by_cases u:n<3
 .have f:∃d,M.underlying b=N d:=by rcases ny p with⟨_,_,h⟩|⟨_,h⟩|⟨_,_,_,h,_⟩|⟨_,_,h,_⟩<;>exact⟨_,h⟩
  obtain⟨d,f⟩:=f;have k:=Cj f p u y l c 0 r s t h;simp only[bq]at k;rcases k with⟨g,j⟩|⟨i,x,e,a,g,j,m,q,o⟩;.exact .inl ⟨g,by simp[Instr.findKey,run_underlying f,j]⟩
  exact .inr ⟨i,x,e,a,g,j,m,q,by simp[Instr.findKey,run_underlying f,o]⟩
 obtain⟨d,f,w,z⟩:=Od p u y;have k:=uR z l c 0 r s t h;cases c with
 |nil =>
  rcases k with⟨g,j⟩|⟨i,x,e,a,_,_,m,_⟩;.exact .inl ⟨g,by simp[Instr.findKey,run_underlying f,Instr.findNow]⟩
  simp at m
 |cons B c =>
 simp only[bq]at k;rcases k with⟨g,j⟩|⟨i,x,e,a,g,j,m,q,o⟩;.exact .inl ⟨g,by simp[Instr.findKey,run_underlying f,w,j]⟩
 exact .inr ⟨i,x,e,a,g,j,m,q,by simp[Instr.findKey,run_underlying f,w,o]⟩
def sa{P:aM}{w:aT}(i:Bool)(n:Nat)(c:Array Value):∀(e:List Field) (g:cy) (m:Nat),kp P m e=N g->c.size=m+F g ->
  (forIn e PUnit.unit (λf _=>do
   if f.name ≠ "_" then
    Instr.checkKey i (n+1) f.type (<- part f.type c f.offset)
    pure (ForInStep.yield PUnit.unit)
   else pure (ForInStep.yield PUnit.unit):Field->PUnit->Sem (ForInStep PUnit))).run P w=.ok PUnit.unit w
 |[],_,_,_,_=>by simp
 |f::e,g,m,hf,hl=>by
  simp only[kp]at hf;split at hf
  .rename_i l;obtain⟨l,r⟩:=l
   have o:∃k a,g=k::a/\kp P (m+1) e=N a/\fO P f.type=N Z/\∀v:Value,(Instr.checkKey i (n+1) f.type v).run P w=.ok () w:=by
    split at hf<;>simp only[aa,reduceCtorEq]at hf
    .rename_i k a b d;exact⟨0,a,hf.symm,d,by simp[fO,b],λv=>by simp[Instr.checkKey,run_underlying b]⟩
    .rename_i a b d;exact⟨1,a,hf.symm,d,by simp[fO,b],λv=>by simp[Instr.checkKey,run_underlying b]⟩
    .rename_i a b d;exact⟨2,a,hf.symm,d,by simp[fO,b],λv=>by simp[Instr.checkKey,run_underlying b]⟩
   obtain⟨k,a,rfl,d,q,p⟩:=o;have h:m<c.size:=by simp at hl;omega
   have j:(part f.type c f.offset).run P w=.ok (c.getD m undef) w:=by
    simp only[part,Sem.run_bind,kV q,Result.andThen_ok,aI,aQ,l];rw[show c[m]?=N (c.getD m undef)by simp[h]];rfl
   have ih:=sa (P:=P) (w:=w) i n c e a (m+1) d (by simp at hl;omega);simp only[List.forIn_cons,Sem.run_bind,fJ,r,dG,aU,j,Result.andThen_ok,p,Sem.run_pure,ih]
  .simp at hf
def run_checkKey{P:aM}{w:aT}{b:TypeId}(T:kD P b=N n)(o:Bool)(c:Nat)(s:VR w Q X K v)(d:lE n K=A):(Instr.checkKey o (c+2) b v).run P w=.ok () w:=by
 rcases ny T with⟨_,_,h⟩|⟨_,h⟩|⟨rfl,e,q,h,r,U⟩|⟨S,u,h,C,R,G⟩;.simp[Instr.checkKey,run_underlying h]
 .simp[Instr.checkKey,run_underlying h]
 .simp only[lE]at d;split at d
  .rename_i l p g m;rw[s.pair];have t:∃i,P.info? e=N i:=by unfold Program.underlying at r;cases h:P.info? e with|none=>simp[h]at r|some i=>exact⟨i,rfl⟩
   obtain⟨i,t⟩:=t;have L:fO P e=N false:=by simp[fO,r]
   have B:∀(x y:Value) (j:Nat) (z:Value),#[x,y][j]?=N z->(part e #[x,y] j).run P w=.ok z w:=by intro x y j z O;simp only[part,Sem.run_bind,kV L,Result.andThen_ok,aI,aQ,O];rfl
   have C:(sizeOf e).run P w=.ok 1 w:=by rw[run_sizeOf w t,U]
   have E:=B (.int l p) (.int g m) 0 (.int l p) rfl;have H:=B (.int l p) (.int g m) 1 (.int g m) rfl;have D:∀v:Value,(∃q a,v=.int q a)->(Instr.checkKey o (c+1) e v).run P w=.ok () w:=by rintro v ⟨_,_,rfl⟩;simp[Instr.checkKey,run_underlying r]
   have J:=D (.int l p) ⟨_,_,rfl⟩;have M:=D (.int g m) ⟨_,_,rfl⟩;rw[Instr.checkKey];simp only[Sem.run_bind,run_underlying h,Result.andThen_ok];simp only[Std.Legacy.Range.forIn_eq_forIn_range',Std.Legacy.Range.size,qd,Nat.add_one_sub_one,Nat.div_one,show List.range' 0 2=[0,1]from rfl,List.forIn_cons,List.forIn_nil];simp only[Sem.run_bind,C,Result.andThen_ok,G8,E,H,J,M,Sem.run_pure]
  simp at d
 have k:∀f:Array Value,f.size=F u->(Instr.checkKey o (c+2) b (.agg f)).run P w=.ok () w:=by intro f I;rw[Instr.checkKey];simp only[Sem.run_bind,run_underlying h,Result.andThen_ok];rw[<- Array.forIn_toList];have:=sa (P:=P) (w:=w) o c f S.toList u 0 R (by omega);simp at this |-;rw[this];rfl
 rcases G with⟨rfl,rfl⟩|⟨rfl,rfl⟩
 .simp only[lE]at d;split at d;.obtain⟨f,rfl,g,_⟩:=s.iZ;exact k f (by simpa using g.symm)
  simp at d
 simp only[lE]at d;split at d;.obtain⟨f,rfl,g,_⟩:=s.iZ;exact k f (by simpa using g.symm)
 simp at d
def Hq{w:aT}{J:ag}{μ:Mem}{E:TypeId}{z:V}(h:zeroV M E=N z):∃v,(zeroValue E).run M w=.ok v w/\VR w J μ z v:=by
 unfold zeroV at h;split at h
 .rename_i t b;split at h;.rename_i cs a;simp only[al]at h;obtain⟨zs,c,rfl⟩:=h;exact⟨_,by simp[zeroValue,typeInfo,b,a],(lS (cs:=cs) c).sZ _⟩
  .rename_i d e a;exact⟨_,by simp[zeroValue,typeInfo,b,a],yD h⟩
  simp at h
 simp at h
section de
variable {P:aM} {o:Oper} {a:Act} {B:Nat} {w0 w:aT} {J:ag} {μ:Mem} {fr:ao} (hF:FR w J μ fr a) (hS:gU P B w0 w J μ)
include hF hS
theorem Ym{T K E:TypeId}{x:Operand}{j:O}(g:o.op=.call { callee:=.builtin .len,args:=#[x],argTypes:=#[T] })(hT:P.underlying T=N (.map K E))(p:cO x=N j) {t:Prop} {y:V} (h:ba fr J (.BJ j)=N (t,y)):Yields P o a w J μ y:=by
 have d:=dp hF p;simp only[ba]at h;split at h;.rename_i e;simp only[aa,aB]at h;obtain⟨_,rfl⟩:=h;rw[e]at d;have f:a.eval x=.map Y:=d.BT;refine .pure (v:=.int .i64 0) ?_ (.i _ _);simp[execOp,g,resolve,invoke,builtin,f,Builtin.len_,run_underlying hT,goInt]
 .rename_i id e;split at h
  .rename_i B z l m;simp only[aa,aB]at h;obtain⟨_,rfl⟩:=h;rw[e]at d;obtain⟨r,f,q,_⟩:=d.ta;obtain⟨u,c,clock,b,_,k,s⟩:=hS.obj id _ m;rw[q]at b;simp only[Value.map.injEq,aa]at b;subst b;refine .pure (v:=.int .i64 (F l)) ?_ (.i _ _);have n:(getObj r).run P w=.ok (.map c clock) w:=by simp[getObj,Sem.run,k]
   simp[execOp,g,resolve,invoke,builtin,f,Builtin.len_,run_underlying hT,goInt,n,s.1]
  simp at h
 simp at h
theorem Yp{T K E:TypeId}{m k:Operand}{M p:O}{B:Nat}{z:V}{ok:Bool}(ho:o.op=.lookup T m k ok)(hT:P.underlying T=N (.map K E))(hm:cO m=N M)(hk:cO k=N p)(H:kD P K=N B)(hz:zeroV P E=N z) {ob:Prop} {y:V} (h:ba fr J (.look B z ok M p)=N (ob,y)) (dP:ob):Yields P o a w J μ y:=by
 have L:=dp hF hm;have G:=dp hF hk;obtain⟨zv,s,Zm⟩:=Hq (w:=w) (J:=J) (μ:=μ) hz;have D:lE B (ev fr p)=A:=by simp only[ba]at h;split at h<;>simp only[aa,aB,reduceCtorEq]at h<;>(obtain⟨rfl,_⟩:=h;exact dP)
 have zZ:∀(u:V) (v:Value) (q:Bool),VR w J μ u v->(Instr.lookup T (a.eval m) (a.eval k) ok).run P w=.ok (if ok then .tuple #[v,.bool q]else v) w->Yields P o a w J μ (if ok then .gy [u,.b q]else u):=by
  intro u v q hu g;refine .pure (v:=if ok then .tuple #[v,.bool q]else v) (by simp[execOp,ho,g]) ?_;cases ok;.exact hu
  refine .gy _ _ rfl λi x t=>?_;match i with|0=>simp only[aH,aa]at t;subst t;exact hu|1=>simp only[bS,aH,aa]at t;subst t;exact .b _|i+2=>simp at t
 have Wq:∀(r:Option (Option (Nat×V))),c8 J B (ev fr M) (ev fr p)=r->∀q,r=N q ->(q=Y->(Instr.lookup T (a.eval m) (a.eval k) ok).run P w=.ok (if ok then .tuple #[zv,.bool Z]else zv) w) /\
   (∀n u,q=N (n,u)->∃v,VR w J μ u v/\(Instr.lookup T (a.eval m) (a.eval k) ok).run P w=.ok (if ok then .tuple #[v,.bool A]else v) w):=by
  intro r g q f;unfold c8 at g;split at g
  .rename_i U;rw[U]at L;have I:a.eval m=.map Y:=L.BT;rw[<- g]at f;simp only[aa]at f;subst f;refine⟨λ_=>?_,λn u h=>by simp at h⟩;rw[I];have R:=run_checkKey (P:=P) (w:=w) H A 9998 G D;have S:(Instr.findKey K (a.eval k) []).run P w=.ok Y w:=by
    rcases kO H G [] [] Y rfl (by simp) rfl with⟨_,h⟩|⟨_,_,_,_,h,_⟩;.exact h
    simp at h
   cases ok<;>simp[Instr.lookup,run_underlying hT,R,S,s]
  .rename_i id U;rw[U]at L;obtain⟨rr,I,ma,_⟩:=L.ta;split at g
   .rename_i K' E' es hb;obtain⟨r',d,clock,j,_,hh,X⟩:=hS.obj id _ hb;rw[ma]at j;simp only[Value.map.injEq,aa]at j;subst j;have hg:(getObj rr).run P w=.ok (.map d clock) w:=by simp[getObj,Sem.run,hh]
    rw[<- g]at f;have hf:=kO H G es d.toList q (by rw[aW];exact X.1) (λi a x hi=>by obtain⟨_,_,e,c,l,C⟩:=X.2.1 i a x hi;exact⟨e,by simpa using c,l,C⟩) f;have R:=run_checkKey (P:=P) (w:=w) H d.isEmpty 9998 G D;refine⟨λQ=>?_,λn u Q=>?_⟩
    .rcases hf with⟨_,c⟩|⟨i,x,e,a2,c,_⟩;.rw[I];cases ok<;>simp[Instr.lookup,run_underlying hT,hg,R,c,s]
     rw[Q]at c;simp at c
    rcases hf with⟨c,_⟩|⟨i,x,e,a2,c,l,C,_,W⟩;.rw[Q]at c;simp at c
    rw[Q]at c;simp only[aa,aB]at c;obtain⟨_,rfl⟩:=c;obtain⟨_,_,e2,h7,_,h8⟩:=X.2.1 i a2 u l;have:e2=e:=by
     have h9:d[i]?=N e:=by simpa using C
     rw[h7]at h9;simpa using h9
    subst this;refine⟨e2.val,h8,?_⟩;rw[I];cases ok<;>simp[Instr.lookup,run_underlying hT,hg,R,W]
   rw[<- g]at f;simp at f
  rw[<- g]at f;simp at f
 simp only[ba]at h;generalize g:c8 J B (ev fr M) (ev fr p)=r at h;have f:=Wq r g;cases r with
 |none=>simp at h
 |some q =>
 obtain⟨c,l⟩:=f q rfl;cases q with
 |none =>simp only[aa,aB]at h;obtain⟨_,rfl⟩:=h;exact zZ _ _ _ Zm (c rfl)
 |some q =>obtain⟨n,u⟩:=q;simp only[aa,aB]at h;obtain⟨_,rfl⟩:=h;obtain⟨v,C,W⟩:=l n u rfl;exact zZ _ _ _ C W
end de
end Go.Pm

/- Part of a proof. -/
import Derived.ChangeKeysEq
import Derived.Lib.AppendStr
import Derived.Test.YtfeddmfijllgmaaGreatDoorZ2
set_option linter.all false
open Option renaming some->S,none->Y
open Bool renaming true->G,false->Z
open List renaming length->X
namespace Go.Pm
open Go Go.RowKit
variable{R:Nat}{N:ai}{M:bF}{Q:eJ}
def Bz{P:bl}{t e:TypeId}(h:P.underlying t=S (.slice e)):P.elem t=e:=by simp[Program.elem,h]
def sJ.row{μ:Mem}{xs:eJ}{sz b o:Nat}{f:Nat->Nat->Value}(h:sJ M N μ xs sz b o f)(c:R<X xs)(off:Nat): VR M N μ (.ep sz xs R off) (.pointer (S ⟨b,o+R*sz+off,Y⟩)) := .ep sz xs R off b (o+R*sz) (f R) c h.1 (λj x a=>h.2.1 R j x a) (λj x a=>h.2.2 R j x a)
def ET{n i j:Nat}{x:V}(h:gi ((Q.drop R).take n) i j=S x):gi Q (R+i) j=S x:=by
 obtain⟨r,a,b⟩:=jV h;have c:i<n:=by
  rcases jt i n with h|h;.exact h
  rw[cp (by simp;omega)]at a;simp at a
 rw[cn c,dE]at a;rw[sG a,b]
def sJ.sub{μ:Mem}{b o:Nat}{f:Nat->Nat->Value}(h:sJ M N μ Q R b o f)(a n:Nat): sJ M N μ ((Q.drop a).take n) R b (o+a*R) (λi j=>f (a+i) j):=by
 refine⟨λr d=>h.1 r (dR (dB d)),λi j x c=>?_,λi j x c=>h.2.2 _ _ _ (ET c)⟩;have:=h.2.1 _ _ _ (ET c);have e:o+a*R+i*R+j=o+(a+i)*R+j:=by rw[du];omega
 rw[e];exact this
def Iq{P:bl}{w:bF}{t e:TypeId}{m:TypeInfo}(j:P.underlying t=S (.slice e))(p:P.info? e=S m)(a:Option Addr)(len b:Nat)(i d:Option Value)(l h:Int) (r:(i=Y/\l=0)\/∃k,i=S (.int k l)) (q:(d=Y/\h=len)\/∃k,d=S (.int k h)) (h0:0<=l) (h1:l<=h) (n:h<=b) : (Instr.sliceAt t (.slice a len b) i d Y).run P w=.ok (nO (.slice a len b) l.toNat h.toNat m.size) w:=by
 have c:P.underlying t=S (.slice (P.elem t)):=by rw[Bz j];exact j
 have g:(sizeOf (P.elem t)).run P w=.ok m.size w:=by rw[Bz j];simp[sizeOf,typeInfo,p]
 have f:0<=h:=by omega
 rw[run_sliceAt_slice (w:=w) t _ i d Y c];have s:(h.toNat:Int)=h:=Int.toNat_of_nonneg f;rcases r with⟨rfl,rfl⟩|⟨k,rfl⟩<;>rcases q with⟨rfl,rfl⟩|⟨o,rfl⟩;.rw[run_slice_all (w:=w) t a len b c,g];simp[sliced,nO]
 .rw[run_slice_h (w:=w) t a len b c o h f n,g];simp[sliced,nO]
 .rw[run_slice_l (w:=w) t a len b c k l h0 h1,g];simp[sliced,nO]
 rw[run_slice_lh (w:=w) t a len b c k o l h h0 h1 n,g];simp[sliced,nO]
def Fi{P:bl}{w:bF}{t:TypeId}(b:P.underlying t=S .string)(s:ByteArray)(d a:Option Value)(l h:Int) (i:(d=Y/\l=0)\/∃k,d=S (.int k l)) (g:(a=Y/\h=s.size)\/∃k,a=S (.int k h)) (h0:0<=l) (h1:l<=h) (e:h<=s.size) : (Instr.sliceAt t (.string s) d a Y).run P w=.ok (.string (s.extract l.toNat h.toNat)) w:=by
 have c:0<=h:=by omega
 rw[run_sliceAt_string (w:=w) t _ d a Y b];rcases i with⟨rfl,rfl⟩|⟨k,rfl⟩<;>rcases g with⟨rfl,rfl⟩|⟨f,rfl⟩;.rw[run_slice_string_all (w:=w) t s b];simp
 .rw[run_slice_string_to_if (w:=w) t s f h b,aO ⟨c,e⟩];simp
 .rw[run_slice_string_from_if (w:=w) t s k l b,aO ⟨h0,by omega⟩];simp
 rw[run_slice_string_if (w:=w) t s k f l h b,aO ⟨c,e⟩,aO ⟨h0,h1⟩]
def Nu(s:ByteArray)(i j:Nat):(s.extract i j).data.toList=(s.data.toList.drop i).take (j - i):=by rw[ByteArray.data_extract,Array.toList_extract,List.extract_eq_take_drop]
section eV
variable {P:bl} {o:Oper} {a:Act} {B:Nat} {w0 w:bF} {J:ai} {μ:Mem} {fr:ar} (hF:FR w J μ fr a) (hS:kN P B w0 w J μ)
include hF hS
theorem akQ{T E:TypeId}{t:TypeInfo}{x i:Operand}{x' i':O}(ho:o.op=.indexAddr T x i)(H:P.underlying T=S (.slice E))(ht:P.info? E=S t)(hx:cO x=S x')(W:cO i=S i') {ob:Prop} {y:V} (h:ca fr J (.idx t.size x' i')=S (ob,y)) (e:ob):Yields P o a w J μ y:=by
 have l:=gx hF hx;have z:=gx hF W;have Q:P.underlying T=S (.slice (P.elem T)):=by rw[Bz H];exact H
 simp only[ca]at h;split at h
 .rename_i k n u;rw[u]at z;have z:=z.jy;have B:∀b d len c,a.eval x=.slice (S ⟨b,d,Y⟩) len c->0<=n->n<len->(execOp a.eval o).run P w=.ok (.value (.pointer (S ⟨b,d+n.toNat*t.size,Y⟩))) w:=by intro b d len c he Vy pU;simp[execOp,ho,he,z,run_indexAt_slice (w:=w) T _ len c k n Q,Vy,pU,Bz H,sizeOf,typeInfo,ht,Addr.add_lit]
  split at h
  .rename_i M R m;split at h<;>simp only[aa,aY,reduceCtorEq]at h;rename_i I;subst I;obtain⟨rfl,rfl⟩:=h;rw[m]at l;rcases l.G2 with⟨rfl,_⟩|⟨b,d,c,f,r,_,_,p⟩;.simp at e;omega
   refine .pure (B b d _ c r e.1 e.2) ?_;exact p.row (by omega) 0
  .rename_i M R m;split at h<;>simp only[aa,aY,reduceCtorEq]at h;rename_i I;subst I;obtain⟨rfl,rfl⟩:=h;rw[m]at l;rcases l.tm with⟨rfl,_⟩|⟨b,d,f,r,_,p⟩;.simp at e;omega
   refine .pure (B b d _ _ r e.1 e.2) ?_;exact p.row (by omega) 0
  .rename_i id g m;split at h
   .rename_i E' M K g' sh R j;split at h<;>simp only[aa,aY,reduceCtorEq]at h;rename_i C;obtain⟨rfl,rfl⟩:=C;obtain⟨rfl,rfl⟩:=h;rw[m]at l;have r:=l.lP j;obtain⟨_,_,p⟩:=hS.rowAt j;rcases p with⟨_,u⟩|⟨b,c,L,v,_⟩;.subst u;simp at e;omega
    refine .pure (B b 0 _ c (r.trans v) e.1 e.2) (.rp id g _ _ _ (ag.1 j).1 ?_);intro E2 F ac g2 U N q;rw[j]at q;simp only[aa,Ob.row.injEq]at q;obtain⟨rfl,rfl,rfl,rfl,rfl,rfl⟩:=q;exact⟨aB _,λ_=>⟨by omega,by rw[v];simp[rpv]⟩⟩
   simp at h
  .rename_i id g s W m;split at h
   .rename_i E' M K g' sh R j;split at h<;>simp only[aa,aY,reduceCtorEq]at h;rename_i C;obtain⟨rfl,rfl⟩:=C;obtain⟨rfl,rfl⟩:=h;rw[m]at l;obtain⟨ad,Ra,r⟩:=l.tj j;obtain⟨_,_,p⟩:=hS.rowAt j;rcases p with⟨_,u⟩|⟨b,c,L,v,_,Ha,_⟩;.subst u;simp at Ra;subst Ra;simp at e;omega
    have iV:¬c=s:=by omega
    have D:a.eval x=.slice (S ⟨b,s*t.size,Y⟩) (W - s) (c - s):=by rw[r,v];simp[nO,iV,Addr.add_lit]
    refine .pure (B b (s*t.size) _ (c - s) D e.1 e.2) (.rp id g _ _ _ (ag.1 j).1 ?_);intro E2 F ac g2 U N q;rw[j]at q;simp only[aa,Ob.row.injEq]at q;obtain⟨rfl,rfl,rfl,rfl,rfl,rfl⟩:=q;exact⟨aB _,λ_=>⟨by omega,by rw[v];simp[rpv,du]⟩⟩
   simp at h
  simp at h
 simp at h
theorem ahJ{T E:TypeId}{n:Nat}{t:TypeInfo}{x i:Operand}{s q:O}(z:o.op=.indexAddr T x i)(g:P.underlying T=S (.array n E))(B:P.info? E=S t)(H:cO x=S s)(F:cO i=S q) {r:Prop} {y:V} (h:ca fr J (.QW n t.size s q)=S (r,y)) (K:r):Yields P o a w J μ y:=by
 have p:=gx hF H;have d:=gx hF F;have j:P.arrayLen T=n:=by simp[Program.arrayLen,g]
 have l:P.elem T=E:=by simp[Program.elem,g]
 have e:P.underlying T=S (.array (P.arrayLen T) (P.elem T)):=by rw[j,l];exact g
 simp only[ca]at h;split at h<;>simp only[aa,aY,reduceCtorEq]at h;rename_i id c k m u L;obtain⟨rfl,rfl⟩:=h;rw[u]at p;rw[L]at d;obtain⟨b,I,M,C⟩:=p.vn;have d:=d.jy;refine .pure (v:=.pointer (S ⟨b,c+m.toNat*t.size,Y⟩)) ?_ (.ptr id _ b C I);have f:=run_indexAt_array (P:=P) (w:=w) T ⟨b,c,Y⟩ k m e;rw[j,l,aO K]at f;have D:(sizeOf E).run P w=.ok t.size w:=by simp[sizeOf,typeInfo,B]
 rw[D,Result.andThen_ok,Addr.add_lit]at f;simp only[execOp,z,M,d,Sem.run_bind,f,Result.andThen_ok,Sem.run_pure]
theorem akY{T E:TypeId}{n:Nat}{t:TypeInfo}{x:Operand}{C:O}(M:o.op=.slice T x Y Y Y)(l:P.underlying T=S (.array n E))(H:P.info? E=S t)(I:t.size=1)(d:cO x=S C) {B:Prop} {y:V} (h:ca fr J (.asl n C)=S (B,y)) (gE:B):Yields P o a w J μ y:=by
 have z:=gx hF d;have D:P.arrayLen T=n:=by simp[Program.arrayLen,l]
 have F:P.elem T=E:=by simp[Program.elem,l]
 have m:P.underlying T=S (.array (P.arrayLen T) (P.elem T)):=by rw[D,F];exact l
 simp only[ca]at h;split at h<;>(try simp only[reduceCtorEq]at h);rename_i sz e i L;split at h<;>simp only[aa,aY,reduceCtorEq]at h;rename_i R;obtain⟨rfl,rfl⟩:=h;rw[L]at z;obtain⟨b,g,f,W,Q,dJ,hc,U⟩:=z.M6;have N:(sizeOf E).run P w=.ok t.size w:=by simp[sizeOf,typeInfo,H]
 have p:=run_sliceAt_array_all (P:=P) w T ⟨b,g,Y⟩ m;rw[D,F,N,Result.andThen_ok]at p;have ha:slicedAt ⟨b,g,Y⟩ 0 n n t.size=.slice (S ⟨b,g,Y⟩) n n:=by simp[slicedAt,Addr.add_lit]
 rw[ha]at p;refine .pure (v:=.slice (S ⟨b,g,Y⟩) n n) ?_ ?_;.simp only[execOp,M,W,cg,Option.map_none,Sem.run_bind,p,Result.andThen_ok,Sem.run_pure]
 have s:∀(k j:Nat) (x:V),gi ((e.getD i []).map λc=>[c]) k j=S x->j=0/\gi e i k=S x:=by
  have r:e[i]?=S (e.getD i []):=by simp[ax,aA Q]
  intro k j x d;simp only[gi,r,js];generalize e.getD i []=row at d;simp only[gi,bP]at d;cases u:row[k]? with
  |none=>simp[u]at d
  |some c =>simp only[u,dA,js]at d;cases j with|zero =>simp only[aG]at d;exact⟨rfl,d⟩|succ j=>simp at d
 have q:=VR.sl (w:=w) (J:=J) (μ:=μ) 1 ((e.getD i []).map λc=>[c]) b g n (λk _=>f k) (by simp only[ab];omega) (by unfold maxLen;omega) (by simp) (λk j x d=>by
   obtain⟨rfl,K⟩:=s k j x d;have:=hc k x K;simpa using this)
  (λk j x d=>U k x (s k j x d).2);simp only[ab]at q;rw[R]at q;exact q
theorem ahD{T:TypeId}{x i:Operand}{j f:O}(p:o.op=.index T x i)(D:P.underlying T=S .string)(t:cO x=S j)(r:cO i=S f) {g:Prop} {y:V} (h:ca fr J (.OE j f)=S (g,y)) (C:g):Yields P o a w J μ y:=by
 have e:=gx hF t;have c:=gx hF r;simp only[ca]at h;split at h<;>simp only[aa,aY,reduceCtorEq]at h;rename_i l k n m u;obtain⟨rfl,rfl⟩:=h;rw[m]at e;rw[u]at c;obtain⟨s,B,b,_⟩:=e.pT;have F:s.size=X l:=by rw[<- b];exact bsize s
 refine .pure (v:=.int .u8 (l.getD n.toNat 0).toNat) ?_ (.i _ _);have E:0<=n/\n<s.size:=by rw[F];exact C
 have z:n.toNat<X l:=by omega
 have q:s[n.toNat]'(by omega)=l.getD n.toNat 0:=by subst b;rw[ax,aA z];simp[ByteArray.getElem_eq_getElem_data]
 have d:=run_index_string (P:=P) (w:=w) T s k n D;rw[dif_pos E,q]at d;simp only[execOp,p,B,c.jy,Sem.run_bind,d,Result.andThen_ok,Sem.run_pure]
theorem ahC{T:TypeId}{x:Operand}{c:O}(e:o.op=.call { callee:=.builtin .len,args:=#[x],argTypes:=#[T] })(j:P.underlying T=S .string)(n:cO x=S c) {k:Prop} {y:V} (h:ca fr J (.len G c)=S (k,y)):Yields P o a w J μ y:=by
 have b:=gx hF n;simp only[ca]at h;split at h<;>simp only[aa,aY,reduceCtorEq]at h;rename_i l d;obtain⟨_,rfl⟩:=h;rw[d]at b;obtain⟨s,f,g,_⟩:=b.pT;have m:s.size=X l:=by rw[<- g];exact bsize s
 refine .pure (v:=.int .i64 (X l)) ?_ (.i _ _);simp[execOp,e,resolve,invoke,builtin,f,run_len_string (w:=w) T _ s j,goInt,m]
theorem CJ{T E:TypeId}{x:Operand}{F:O}(N:o.op=.call { callee:=.builtin .len,args:=#[x],argTypes:=#[T] })(D:P.underlying T=S (.slice E))(Q:cO x=S F) {L:Prop} {y:V} (h:ca fr J (.len Z F)=S (L,y)):Yields P o a w J μ y:=by
 have e:=gx hF Q;have z:P.underlying T=S (.slice (P.elem T)):=by rw[Bz D];exact D
 have k:∀b n c,a.eval x=.slice b n c->Yields P o a w J μ (.i .i64 n):=by intro b n c R;refine .pure (v:=.int .i64 n) ?_ (.i _ _);simp[execOp,N,resolve,invoke,builtin,R,run_len_slice (w:=w) T _ b n c z,goInt]
 simp only[ca]at h;split at h<;>(try simp only[aa,aY,reduceCtorEq]at h);.rename_i j;obtain⟨_,rfl⟩:=h;rw[j]at e;exact k _ _ _ e.nF
 .rename_i t C j;obtain⟨_,rfl⟩:=h;rw[j]at e;rcases e.tm with⟨rfl,d⟩|⟨b,u,f,d,_⟩;.exact k _ _ _ d
  exact k _ _ _ d
 .rename_i t C j;obtain⟨_,rfl⟩:=h;rw[j]at e;rcases e.G2 with⟨rfl,_,d⟩|⟨b,u,p,f,d,_⟩;.exact k _ _ _ d
  exact k _ _ _ d
 .rename_i id g j;split at h
  .rename_i K t r M I C m;split at h<;>simp only[aa,aY,reduceCtorEq]at h;rename_i q;subst q;obtain⟨_,rfl⟩:=h;rw[j]at e;have d:=e.lP m;obtain⟨_,_,B⟩:=hS.rowAt m;rcases B with⟨l,H⟩|⟨b,p,s,l,_⟩;.subst H;exact k _ _ _ (d.trans l)
   exact k _ _ _ (d.trans l)
  simp at h
 rename_i id g W U j;split at h
 .rename_i K t r M I C m;split at h<;>simp only[aa,aY,reduceCtorEq]at h;rename_i q;subst q;obtain⟨_,rfl⟩:=h;rw[j]at e;obtain⟨_,_,d⟩:=e.tj m;obtain⟨_,_,B⟩:=hS.rowAt m;rcases B with⟨l,H⟩|⟨b,p,s,l,_⟩;.rw[l]at d;exact k _ _ _ d
  rw[l]at d;exact k _ _ _ d
 simp at h
theorem YK{T:TypeId}{x:Operand}{e d:Option Operand}{D:O}{j f:Option O}(K:o.op=.slice T x e d Y)(F:P.underlying T=S .string)(M:cO x=S D)(m:yN e=S j)(n:yN d=S f) {B:Prop} {y:V} (h:ca fr J (.u4 D j f)=S (B,y)) (t:B):Yields P o a w J μ y:=by
 have u:=gx hF M;simp only[ca]at h;split at h
 .rename_i l I;rw[I]at u;obtain⟨s,N,C,hm⟩:=u.pT;have W:s.size=X l:=by rw[<- C];exact bsize s
  split at h<;>simp only[aa,aY,reduceCtorEq]at h;rename_i p q c i;obtain⟨rfl,rfl⟩:=h;have R:(e.map a.eval=Y/\p=0)\/∃k,e.map a.eval=S (.int k p):=by cases e with|none =>simp only[yN,aa]at m;subst m;simp only[aa]at c;exact .inl ⟨rfl,c.symm⟩|some z =>simp only[yN,aH]at m;obtain⟨E,r,rfl⟩:=m;have g:=gx hF r;dsimp only at c;split at c<;>simp only[aa,reduceCtorEq]at c;rename_i k Q b;subst c;rw[b]at g;exact .inr ⟨k,by simp[g.jy]⟩
  have H:(d.map a.eval=Y/\q=s.size)\/∃k,d.map a.eval=S (.int k q):=by cases d with|none =>simp only[yN,aa]at n;subst n;simp only[aa]at i;exact .inl ⟨rfl,by omega⟩|some z =>simp only[yN,aH]at n;obtain⟨E,r,rfl⟩:=n;have g:=gx hF r;dsimp only at i;split at i<;>simp only[aa,reduceCtorEq]at i;rename_i k Q b;subst i;rw[b]at g;exact .inr ⟨k,by simp[g.jy]⟩
  have L:=Fi (P:=P) (w:=w) F s (e.map a.eval) (d.map a.eval) p q R H t.1 t.2.1 (by have:=t.2.2;omega);refine .pure (v:=.string (s.extract p.toNat q.toNat)) ?_ (.s _ _ ?_ ?_);.simp[execOp,K,N,L]
  .rw[Nu,C]
  have:=List.length_take_le (q.toNat - p.toNat) (l.drop p.toNat);have U:X (l.drop p.toNat)<=X l:=by simp
  simp only[aX,bN];omega
 simp at h
theorem adn{T E:TypeId}{t:TypeInfo}{x:Operand}{M K:Option Operand}{x':O}{af Q:Option O}(ho:o.op=.slice T x M K Y)(hT:P.underlying T=S (.slice E))(ht:P.info? E=S t)(hx:cO x=S x')(hl:yN M=S af)(hh:yN K=S Q) {ob:Prop} {y:V} (h:ca fr J (.slice t.size x' af Q)=S (ob,y)) (u:ob):Yields P o a w J μ y:=by
 have C:=gx hF hx;simp only[ca]at h;split at h;.simp at h
 rename_i n d;split at h
 .rename_i p q N W;have pJ:(M.map a.eval=Y/\p=0)\/∃k,M.map a.eval=S (.int k p):=by cases M with|none =>simp only[yN,aa]at hl;subst hl;simp only[aa]at N;exact .inl ⟨rfl,N.symm⟩|some z =>simp only[yN,aH]at hl;obtain⟨z',hz,rfl⟩:=hl;have R:=gx hF hz;dsimp only at N;split at N<;>simp only[aa,reduceCtorEq]at N;rename_i k p' D;subst N;rw[D]at R;exact .inr ⟨k,by simp[R.jy]⟩
  have Ra:(K.map a.eval=Y/\q=(n:Int))\/∃k,K.map a.eval=S (.int k q):=by cases K with|none =>simp only[yN,aa]at hh;subst hh;simp only[aa]at W;exact .inl ⟨rfl,by omega⟩|some z =>simp only[yN,aH]at hh;obtain⟨z',hz,rfl⟩:=hh;have R:=gx hF hz;dsimp only at W;split at W<;>simp only[aa,reduceCtorEq]at W;rename_i k p' D;subst W;rw[D]at R;exact .inr ⟨k,by simp[R.jy]⟩
  have L:∀b c,a.eval x=.slice b n c->0<=p->p<=q->q<=c->(execOp a.eval o).run P w=.ok (.value (nO (.slice b n c) p.toNat q.toNat t.size)) w:=by intro b c he j F am;have s:=Iq (P:=P) (w:=w) hT ht b n c (M.map a.eval) (K.map a.eval) p q pJ Ra j F am;simp[execOp,ho,he,s]
  have U:∀m b i e f,a.eval x=.slice (S ⟨b,i,Y⟩) (X m) e->X m<=e->e<=maxLen->sJ w J μ m t.size b i f->n=X m->0<=p/\p<=q/\q<=n ->Yields P o a w J μ (.sl t.size ((m.drop p.toNat).take (q.toNat - p.toNat))):=by
   intro m b i e f he hc zU s ap ⟨j,F,hqn⟩;subst ap;refine .pure (L _ e he j F (by omega)) ?_;have B:X ((m.drop p.toNat).take (q.toNat - p.toNat))=q.toNat - p.toNat:=by simp;omega
   by_cases ac:e=p.toNat
   .have:q.toNat - p.toNat=0:=by omega
    simp only[nO,ac,aR,this,jM,gO];exact .sl t.size [] b i 0 (λ_ _=>undef) (by simp) (by simp[maxLen]) (by simp) (by simp[gi]) (by simp[gi])
   simp only[nO,ac,bo,dA,Addr.add_lit];have:=s.sub p.toNat (q.toNat - p.toNat);have h5:=VR.sl (w:=w) (J:=J) (μ:=μ) t.size _ b _ (e - p.toNat) _ (by rw[B];omega) (by omega) this.1 this.2.1 this.2.2;rwa [B]at h5
  split at h;.rename_i I;simp only[aa,aY]at h;obtain⟨rfl,rfl⟩:=h;rw[I]at C d;simp only[aa]at d;obtain⟨rfl,rfl⟩:=u;have l:=C.nF;subst d;refine .pure (v:=.slice Y 0 0) ?_ .nil;rw[L Y 0 l (by omega) (by omega) (by omega)];simp[nO]
  .rename_i sz m I;simp only[aa,aY]at h;obtain⟨rfl,rfl⟩:=h;rw[I]at C d;dsimp only at d;split at d<;>simp only[aa,reduceCtorEq]at d;rename_i iz;subst iz;rcases C.tm with⟨rfl,l⟩|⟨b,i,f,l,r,s⟩
   .simp only[aj]at d;subst d;have j:p=0:=by omega
    have H:q=0:=by omega
    subst j;subst H;refine .pure (L Y 0 l (by omega) (by omega) (by omega)) ?_;simp only[nO,Int.toNat_zero,aR,apV,apS,gO];exact .D1 _
   exact U m b i _ f l (aB _) r s d.symm u
  .rename_i sz m I;simp only[aa,aY]at h;obtain⟨rfl,rfl⟩:=h;rw[I]at C d;dsimp only at d;split at d<;>simp only[aa,reduceCtorEq]at d;rename_i iz;subst iz;rcases C.G2 with⟨rfl,a0,l⟩|⟨b,i,e,f,l,hc,r,s⟩
   .simp only[aj]at d;subst d;have j:p=0:=by omega
    have H:q=0:=by omega
    subst j;subst H;refine .pure (L a0 0 l (by omega) (by omega) (by omega)) ?_;simp only[nO,Int.toNat_zero,aR,apV,apS,gO];cases a0 with|none=>exact .D1 _|some a0=>exact .sle _ a0
   exact U m b i e f l hc r s d.symm u
  .rename_i id g I;simp only[aa,aY]at h;obtain⟨rfl,rfl⟩:=h;rw[I]at C d;dsimp only at d;split at d
   .rename_i E' sz aM g' sh m hb;split at d<;>simp only[aa,reduceCtorEq]at d;rename_i hg;obtain⟨rfl,rfl⟩:=hg;subst d;have l:=C.lP hb;obtain⟨_,_,s⟩:=hS.rowAt hb;have ad:∀v,μ id=v->VR w J μ (.sub id g p.toNat q.toNat) (nO v p.toNat q.toNat t.size):=by intro v r;refine .sub id g _ _ _ (ag.1 hb).1 ?_;intro E2 au aE g2 a2 a1 h3;rw[hb]at h3;simp only[aa,Ob.row.injEq]at h3;obtain⟨rfl,rfl,rfl,rfl,rfl,rfl⟩:=h3;exact⟨aB _,λ_=>⟨by omega,by omega,by rw[r]⟩⟩
    rcases s with⟨r,d⟩|⟨b,e,av,r,_,nP,_⟩;.subst d;exact .pure (L Y 0 (l.trans r) u.1 u.2.1 (by simpa using u.2.2)) (ad _ r)
    exact .pure (L _ e (l.trans r) u.1 u.2.1 (by have:=u.2.2;omega)) (ad _ r)
   simp at d
  simp at h
 simp at h
end eV
variable{p:Bool}{q:IntKind}
def toList_data(s:ByteArray):s.toList=s.data.toList:=ByteArray.toList_eq s
def Fh{x y:V}(h:ez 0 x y=S p):∃k a b,x=.i k a/\y=.i k b/\(a==b)=p:=by cases x<;>(try (simp[ez]at h;done));cases y<;>(try (simp[ez]at h;done));simp only[ez]at h;split at h<;>simp only[aa,reduceCtorEq]at h;rename_i c;subst c;exact⟨_,_,_,rfl,rfl,h⟩
def NM{d e:ar}(h:ix [0,0] d e=S p):∃k l a b g f,d=[.i k a,.i l b]/\e=[.i k g,.i l f]/\(a==g&&b==f)=p:=by
 match d,e with
 |[],_=>simp[ix]at h
 |_::_,[]=>simp[ix]at h
 |[x],y::e =>simp only[ix]at h;split at h<;>simp_all [ix]
 |x::x2::d,[y] =>simp only[ix]at h;split at h<;>simp_all [ix]
 |x::x2::d,y::y2::e =>
  cases d with
  |cons u d=>simp only[ix]at h;repeat' (split at h)<;>simp_all [ix]
  |nil=>cases e with
   |cons v e=>simp only[ix]at h;repeat' (split at h)<;>simp_all [ix]
   |nil =>simp only[ix]at h;split at h<;>simp only[aa,reduceCtorEq]at h;rename_i c q r j;split at j<;>simp only[aa,reduceCtorEq]at j;rename_i t w n m;simp only[aa]at m;obtain⟨k,a,g,rfl,rfl,s⟩:=Fh r;obtain⟨l,b,f,rfl,rfl,o⟩:=Fh n;exact⟨k,l,a,b,g,f,rfl,rfl,by rw[<- h,<- j,<- m,s,o,db]⟩
def VR.pair{w:bF}{J:ai}{μ:Mem}{l:IntKind}{a b:Int}{v:Value}(h:VR w J μ (.agg [.i q a,.i l b]) v):v=.agg #[.int q a,.int l b]:=by obtain⟨f,rfl,g,c⟩:=h.tq;have e:=(c 0 _ rfl).jy;have d:=(c 1 _ rfl).jy;obtain⟨l⟩:=f;match l,g with|[x,y],_=>simp at e d;rw[e,d]
def yU{P:bl}{w:bF}{K e:TypeId}(o:P.underlying K=S (.array 2 e))(g:P.underlying e=S (.int q))(p:P.cellsOf e=1)(k l:IntKind)(a b d c:Int): (Op.equal K (.agg #[.int k a,.int l b]) (.agg #[.int k d,.int l c])).run P w=.ok (a==d&&b==c) w:=by
 have m:∃i,P.info? e=S i:=by unfold Program.underlying at g;cases h:P.info? e with|none=>simp[h]at g|some i=>exact⟨i,rfl⟩
 obtain⟨i,m⟩:=m;have r:k8 P e=S Z:=by simp[k8,g]
 have f:∀(x y:Value) (j:Nat) (z:Value),#[x,y][j]?=S z->(part e #[x,y] j).run P w=.ok z w:=by intro x y j z s;simp only[part,Sem.run_bind,rM r,Result.andThen_ok,aI,bo,s];rfl
 have gen:∀n,(Op.equalIn (n+2) K (.agg #[.int k a,.int l b]) (.agg #[.int k d,.int l c])).run P w=.ok (a==d&&b==c) w:=by
  intro n;rw[run_equalIn_array w (n+1) _ _ o m,p];simp only[show List.range 2=[0,1]from rfl,Op.eqItems,Sem.run_bind,f (.int k a) (.int l b) 0 (.int k a) rfl,f (.int k a) (.int l b) 1 (.int l b) rfl,f (.int k d) (.int l c) 0 (.int k d) rfl,f (.int k d) (.int l c) 1 (.int l c) rfl,Result.andThen_ok,
   run_equalIn_int w n e k q _ _ g,run_equalIn_int w n e l q _ _ g,NT];cases(a==d)<;>cases h:(b==c)<;>simp[f (.int k a) (.int l b) 1 (.int l b) rfl,f (.int k d) (.int l c) 1 (.int l c) rfl,run_equalIn_int w n e l q b c g,h]
 exact gen 9998
section eV
variable {P:bl} {o:Oper} {a:Act} {B:Nat} {w0 w:bF} {J:ai} {μ:Mem} {fr:ar} (hF:FR w J μ fr a)
include hF
theorem agW{d:BinOp}{T L:TypeId}{x y:Operand}{D C:O}(E:o.op=.binOp d T x y L)(Q:cO x=S D)(M:cO y=S C) {B:Prop} {z:V} (h:ca fr J (.bin d D C)=S (B,z)) (l:B):Yields P o a w J μ z:=by
 have j:=gx hF Q;have g:=gx hF M;simp only[ca,ki]at h;split at h
 .rename_i k p I q r n;rw[r]at j;rw[n]at g;have R:=j.jy;have K:=g.jy;have c:∀v,(binOp d T (.int k p) (.int I q)).run P w=.ok v w->(execOp a.eval o).run P w=.ok (.value v) w:=by intro v t;simp only[execOp,E,R,K,eqGuard_at_int,pure_bind,Sem.run_bind,t,Result.andThen_ok,Sem.run_pure]
  split at h
  .simp only[aa,aY]at h;obtain⟨rfl,rfl⟩:=h;have f:¬q<0:=by omega
   exact .pure (c _ (by simp[binOp_shl,Op.shift,f])) (.i _ _)
  .simp only[aa,aY]at h;obtain⟨rfl,rfl⟩:=h;have f:¬q<0:=by omega
   exact .pure (c _ (by simp[binOp_shr,Op.shift,f])) (.i _ _)
  split at h
  .rename_i H;subst H;split at h<;>simp only[aa,aY,reduceCtorEq]at h<;>obtain⟨rfl,rfl⟩:=h;.exact .pure (c _ (by simp[binOp_add,Op.intArith])) (.i _ _)
   .exact .pure (c _ (by simp[binOp_sub,Op.intArith])) (.i _ _)
   .exact .pure (c _ (by simp[binOp_mul,Op.intArith])) (.i _ _)
   .exact .pure (c _ (by simp[binOp_quo,Op.intDiv,l])) (.i _ _)
   .exact .pure (c _ (by simp[binOp_rem,Op.intDiv,l])) (.i _ _)
   .exact .pure (c _ (by simp only[binOp_and,Op.intBits];rfl)) (.i _ _)
   .exact .pure (c _ (by simp only[binOp_or,Op.intBits];rfl)) (.i _ _)
   .exact .pure (c _ (by simp only[binOp_xor,Op.intBits];rfl)) (.i _ _)
   .exact .pure (c _ (by simp[binOp_eql])) (.b _)
   .exact .pure (c _ (by simp[binOp_neq])) (.b _)
   .exact .pure (c _ (by simp[binOp_lss])) (.b _)
   .exact .pure (c _ (by simp[binOp_leq])) (.b _)
   .exact .pure (c _ (by simp[binOp_gtr])) (.b _)
   exact .pure (c _ (by simp[binOp_geq])) (.b _)
  simp at h
 .rename_i p q r n;rw[r]at j;rw[n]at g;obtain⟨s,N,rfl,U⟩:=j.pT;obtain⟨e,m,rfl,u⟩:=g.pT;have c:∀v,(Op.stringOp d s e).run P w=.ok v w->(execOp a.eval o).run P w=.ok (.value v) w:=by
   intro v t;have F:binOp d T (.string s) (.string e)=Op.stringOp d s e:=by cases d<;>rfl
   simp only[execOp,E,N,m,eqGuard_at_string,pure_bind,F,Sem.run_bind,t,Result.andThen_ok,Sem.run_pure]
  split at h<;>simp only[aa,aY,reduceCtorEq]at h<;>obtain⟨rfl,rfl⟩:=h
  .refine .pure (v:=.string (s++e)) (c _ ?_) (.s _ _ ?_ ?_)
   .have f:¬(s.size+e.size > 9223372036854775807):=by rw[bsize,bsize];unfold maxLen at l;omega
    rw[run_string_add_if,ao f]
   .simp[ByteArray.data_append]
   rw[ae];exact l
  .exact .pure (c _ (by simp[Op.stringOp,toList_data])) (.b _)
  .exact .pure (c _ (by simp[Op.stringOp,toList_data])) (.b _)
  .exact .pure (c _ (by simp[Op.stringOp,toList_data])) (.b _)
  .exact .pure (c _ (by simp[Op.stringOp,toList_data])) (.b _)
  .exact .pure (c _ (by simp[Op.stringOp,toList_data])) (.b _)
  exact .pure (c _ (by simp[Op.stringOp,toList_data])) (.b _)
 simp at h
theorem akW{c:BinOp}{T n:TypeId}{x y:Operand}{k j:O}(d:o.op=.binOp c T x y n)(s:Ci c=G)(B:P.underlying T=S .bool)(t:cO x=S k)(r:cO y=S j) {C:Prop} {z:V} (h:ca fr J (.bbq (Vm c) k j)=S (C,z)):Yields P o a w J μ z:=by
 have i:=gx hF t;have e:=gx hF r;simp only[ca]at h;split at h
 .rename_i p q m u;rw[m]at i;rw[u]at e;have f:=i.uI;have l:=e.uI;simp only[aa,aY]at h;obtain⟨rfl,rfl⟩:=h;have g:=run_equal_bool (P:=P) (w:=w) T p q B;cases c<;>simp only[Ci,aI]at s;.refine .pure (v:=.bool (p==q)) ?_ (.b _);simp only[execOp,d,f,l,eqGuard_at_bool,pure_bind,Sem.run_bind,binOp,g,Result.andThen_ok,Sem.run_pure]
  refine .pure (v:=.bool (!(p==q))) ?_ (.b _);simp only[execOp,d,f,l,eqGuard_at_bool,pure_bind,Sem.run_bind,binOp,g,Result.andThen_ok,Sem.run_pure]
 simp at h
omit hF in
theorem Au:∀(B:List Field) (m:ed) (n:Nat) (g h:ar) (e c:Array Value) (r:Bool) (d:Nat),uR P n B=S m ->(∀j x,g[j]?=S x->VR w J μ x (e.getD (n+j) undef))->(∀j x,h[j]?=S x->VR w J μ x (c.getD (n+j) undef))->e.size=n+X g->c.size=n+X h->ix m g h=S r ->(Op.eqFields (d+1) e c B).run P w=.ok r w
 |[],m,n,g,h,e,c,r,d,hf,_,_,_,_,hc=>by
  simp only[uR,aa]at hf;subst hf;cases g with
  |nil=>cases h with
   |nil=>simp only[ix,aa]at hc;subst hc;rfl
   |cons y h=>simp[ix]at hc
  |cons x g=>simp[ix]at hc
 |f::B,m,n,g,h,e,c,r,d,hf,Bi,EK,hus,Du,hc=>by
  simp only[uR]at hf;split at hf
  .rename_i i;obtain⟨i,O⟩:=i;have U:∃k a,m=k::a/\uR P (n+1) B=S a/\k8 P f.type=S Z /\
     ∀x y u v p,ez k x y=S p->VR w J μ x u->VR w J μ y v->(Op.equalIn (d+1) f.type u v).run P w=.ok p w:=by
    split at hf<;>simp only[aa,reduceCtorEq]at hf;.rename_i k a l t;refine⟨0,a,hf.symm,t,by simp[k8,l],λx y u v p b C o=>?_⟩;cases x<;>(try (simp[ez]at b;done));cases y<;>(try (simp[ez]at b;done));simp only[ez]at b;split at b<;>simp only[aa,reduceCtorEq]at b;rename_i W;subst W;subst b;rw[C.jy,o.jy];exact run_equalIn_int w d f.type _ k _ _ l
    .rename_i a l t;refine⟨1,a,hf.symm,t,by simp[k8,l],λx y u v p b C o=>?_⟩;cases x<;>(try (simp[ez]at b;done));cases y<;>(try (simp[ez]at b;done));simp only[ez,aa]at b;subst b;obtain⟨s,rfl,rfl,_⟩:=C.pT;obtain⟨T,rfl,rfl,_⟩:=o.pT;rw[run_equalIn_string w d f.type s T l,toList_data,toList_data]
    rename_i a l t;refine⟨2,a,hf.symm,t,by simp[k8,l],λx y u v p b C o=>?_⟩;cases x<;>(try (simp[ez]at b;done));cases y<;>(try (simp[ez]at b;done));simp only[ez,aa]at b;subst b;rw[C.uI,o.uI];exact run_equalIn_bool' w d f.type _ _ l
   obtain⟨k,a,rfl,Q,R,N⟩:=U;cases g with
   |nil=>simp[ix]at hc
   |cons x g =>
   cases h with
   |nil=>simp[ix]at hc
   |cons y h =>
   simp only[ix]at hc;split at hc<;>simp only[aa,reduceCtorEq]at hc;rename_i p q b V;have D:=Bi 0 x rfl;have E:=EK 0 y rfl;simp only[cg]at D E;have F:n<e.size:=by simp at hus;omega
   have M:n<c.size:=by simp at Du;omega
   have H:(part f.type e f.offset).run P w=.ok (e.getD n undef) w:=by simp only[part,Sem.run_bind,rM R,Result.andThen_ok,aI,bo,i];rw[show e[n]?=S (e.getD n undef)by simp[F]];rfl
   have I:(part f.type c f.offset).run P w=.ok (c.getD n undef) w:=by simp only[part,Sem.run_bind,rM R,Result.andThen_ok,aI,bo,i];rw[show c[n]?=S (c.getD n undef)by simp[M]];rfl
   have K:=N x y _ _ p b D E;have ih:=Au B a (n+1) g h e c q d Q
    (λj z L=>by have:=Bi (j+1) z L;rwa [show n+(j+1)=n+1+j by omega]at this)
    (λj z L=>by have:=EK (j+1) z L;rwa [show n+(j+1)=n+1+j by omega]at this)
    (by simp at hus;omega) (by simp at Du;omega) V;subst hc;simp only[Op.eqFields,gj,O,eP,aR,Sem.run_bind,H,I,Result.andThen_ok,K];cases p;.simp
   simp[ih]
  simp at hf
theorem akV{d:BinOp}{T yT:TypeId}{D:ed}{x y:Operand}{Q N:O}(u:o.op=.binOp d T x y yT)(M:Ci d=G)(c:S7 P T=S D)(hx:cO x=S Q)(hy:cO y=S N) {ob:Prop} {z:V} (h:ca fr J (.beq (Vm d) D Q N)=S (ob,z)):Yields P o a w J μ z:=by
 have t:=gx hF hx;have p:=gx hF hy;unfold S7 at c;split at c
 .rename_i W B;split at c
  .rename_i n;simp only[ca]at h;split at h
   .rename_i U ys H E;rw[H]at t;rw[E]at p;obtain⟨C,m,l1,v1⟩:=t.tq;obtain⟨s,i,l2,v2⟩:=p.tq;split at h
    .rename_i r K;simp only[aa,aY]at h;obtain⟨rfl,rfl⟩:=h;have R:P.fieldsOf T=W:=by simp[Program.fieldsOf,B]
     have f:(Op.equalIn 10000 T (.agg C) (.agg s)).run P w=.ok r w:=by rw[run_equalIn_struct w 9999 T C s (by rw[R];exact B) n.1,R];exact Au W.toList D 0 U ys C s r 9998 c (λj z F=>by simpa using v1 j z F) (λj z F=>by simpa using v2 j z F) (by omega) (by omega) K
     have g:=run_eqGuard_agg (P:=P) w d T x y C s n.2;cases d<;>simp only[Ci,aI]at M;.refine .pure (v:=.bool r) ?_ (.b _);simp only[execOp,u,m,i,Sem.run_bind,g,Result.andThen_ok,run_eql_struct,f,Sem.run_pure]
     refine .pure (v:=.bool (!r)) ?_ (.b _);simp only[execOp,u,m,i,Sem.run_bind,g,Result.andThen_ok,run_neq_struct,f,Sem.run_pure]
    simp at h
   simp at h
  simp at c
 .rename_i e B;split at c
  .rename_i n;split at c<;>simp only[aa,reduceCtorEq]at c;rename_i q he;subst c;simp only[ca]at h;split at h
   .rename_i U ys H E;rw[H]at t;rw[E]at p;split at h
    .rename_i r K;simp only[aa,aY]at h;obtain⟨rfl,rfl⟩:=h;obtain⟨k,l,a1,L,a2,b2,rfl,rfl,I⟩:=NM K;have m:=t.pair;have i:=p.pair;have f:=yU (P:=P) (w:=w) B he n.2 k l a1 L a2 b2;rw[I]at f;have g:=run_eqGuard_agg (P:=P) w d T x y #[.int k a1,.int l L] #[.int k a2,.int l b2] n.1;cases d<;>simp only[Ci,aI]at M;.refine .pure (v:=.bool r) ?_ (.b _);simp only[execOp,u,m,i,Sem.run_bind,g,Result.andThen_ok,binOp,f,Sem.run_pure]
     refine .pure (v:=.bool (!r)) ?_ (.b _);simp only[execOp,u,m,i,Sem.run_bind,g,Result.andThen_ok,binOp,f,Sem.run_pure]
    simp at h
   simp at h
  simp at c
 simp at c
end eV
variable{R:Mem}{Q:Nat}{D:V}{L:Value}{N:ai}{H:ar}{M C:bF}{F:bl}{K:eJ}
def CR(w:bF)(J:ai)(μ:Mem)(xs:ar)(a:Array Value):Prop:=X xs=a.size/\∀i x,xs[i]?=S x->VR w J μ x (a.getD i undef)
def VR.qC{w:bF}{J:ai}{μ:Mem}{x:V}{v:Value}(h:VR w J μ x v)(s:de):VR w J μ (qC s x) v:=by
 unfold Pm.qC;split;.rw[h.nF];exact .D1 _
 .rcases h.tm with⟨rfl,rfl⟩|⟨b,o,f,rfl,c,a⟩;.exact .D1 _
  exact .sl _ _ b o _ f (aB _) c a.1 a.2.1 a.2.2
 exact h
def CR.eK{w:bF}{J:ai}{μ:Mem}:∀(b:List (de)) {xs:ar} {a:Array Value},CR w J μ xs a->CR w J μ (eK b xs) a:=by
 have d:∀(b:List (de)) (xs:ar) (n:Nat) (a:Array Value),(∀i x,xs[i]?=S x->VR w J μ x (a.getD (n+i) undef)) ->X (Pm.eK b xs)=X xs/\∀i x,(Pm.eK b xs)[i]?=S x->VR w J μ x (a.getD (n+i) undef):=by
  intro b;induction b with
  |nil=>intro xs n a h;simpa[Pm.eK]using h
  |cons s b ih =>
  intro xs n a h;cases xs with
  |nil=>simp[Pm.eK]
  |cons x xs =>have f:=ih xs (n+1) a (λi y c=>by have:=h (i+1) y c;rwa [show n+(i+1)=n+1+i by omega]at this);refine⟨by simp[Pm.eK,f.1],λi y c=>?_⟩;cases i with|zero =>simp only[Pm.eK,aG,aa]at c;subst c;exact(h 0 x rfl).qC s|succ i =>simp only[Pm.eK,cA]at c;have:=f.2 i y c;rwa [show n+1+i=n+(i+1)by omega]at this
 intro b xs a h;have:=d b xs 0 a (λi x e=>by simpa using h.2 i x e);exact⟨this.1.trans h.1,λi x e=>by simpa using this.2 i x e⟩
def sE(hS:kN F Q M C N R)(h:VR C N R D L)(e:jK N D=G):L.oneCell'=G/\L.cells=#[L]:=by
 have d:∀a n c,(Value.slice a n c).oneCell'=G/\(Value.slice a n c).cells=#[.slice a n c]:=λ_ _ _=>⟨rfl,rfl⟩;cases h with
 |u L=>simp[jK]at e
 |own id g L o h =>
  simp only[jK]at e;split at e;.rename_i E t l s r p f;simp only[dM]at e;subst e;rw[(h _ _ _ _ _ _ f).2 rfl];rcases(hS.rowAt f).2.2 with⟨j,_⟩|⟨b,k,m,j,_⟩<;>rw[j]<;>exact d _ _ _
  simp at e
 |sub id g B v L o h =>
  simp only[jK]at e;split at e;.rename_i E t l s r p f;simp only[dM]at e;subst e;rw[((h _ _ _ _ _ _ f).2 rfl).2.2];rcases(hS.rowAt f).2.2 with⟨j,_⟩|⟨b,k,m,j,_⟩<;>rw[j]<;>exact d _ _ _
  simp at e
 |rp id g i x L o h =>
  simp only[jK]at e;split at e
  .rename_i E t l s r p f;simp only[dM]at e;subst e;obtain⟨v,q⟩:=(h _ _ _ _ _ _ f).2 rfl;rw[q];rcases(hS.rowAt f).2.2 with⟨_,z⟩|⟨b,k,m,j,_⟩;.subst z;simp at v
   rw[j];exact⟨rfl,rfl⟩
  simp at e
 |agg p w y q=>simp[jK]at e
 |iS p w y q=>simp[jK]at e
 |_=>exact⟨rfl,rfl⟩
def nW(hS:kN F Q M C N R)(h:VR C N R D L)(e:jQ N D=G): CR C N R (iE D) L.cells/\∀u∈L.cells,u.oneCell'=G:=by
 by_cases o:∃c,D=.agg c
 .obtain⟨c,rfl⟩:=o;obtain⟨g,rfl,k,n⟩:=h.tq;refine⟨⟨k,n⟩,λu d=>?_⟩;obtain⟨i,l,rfl⟩:=Array.mem_iff_getElem.1 d;simp only[jQ,dd]at e;have a:i<X c:=by rw[k];exact l
  have j:=n i c[i] (aA a);have b:=(sE hS j (e _ (dQ a))).1;have q:i<g.size:=l;have p:g.getD i undef=g[i]:=by simp[q]
  rw[p]at b;exact b
 have m:jQ N D=jK N D/\iE D=[D]:=by cases D<;>first|exact⟨rfl,rfl⟩|exact absurd ⟨_,rfl⟩ o
 rw[m.1]at e;obtain⟨j,b⟩:=sE hS h e;rw[m.2,b];refine⟨⟨rfl,λi y f=>?_⟩,λu d=>by simp only[Array.mem_singleton]at d;subst d;exact j⟩;cases i with|zero=>simp only[aG,aa]at f;subst f;simpa using h|succ i=>simp at f
def zu:∀(l:List Value) (k a:Nat) (cells:Array Value),a+k+X l<=cells.size ->((l.zipIdx k).foldl (λ(c:Array Value) (p:Value×Nat)=>c.setIfInBounds (a+p.2) p.1) cells).size=cells.size /\∀i,((l.zipIdx k).foldl (λ(c:Array Value) (p:Value×Nat)=>c.setIfInBounds (a+p.2) p.1) cells).getD i undef =if a+k<=i/\i<a+k+X l then l.getD (i - (a+k)) undef else cells.getD i undef
 |[],k,a,cells,_=>by simp;intro i d b;omega
 |v::l,k,a,cells,h=>by
  simp only[ah]at h;have ih:=zu l (k+1) a (cells.setIfInBounds (a+k) v) (by simp;omega);simp only[List.zipIdx_cons,bT];refine⟨by rw[ih.1];simp,λi=>?_⟩;rw[ih.2 i];by_cases d:a+(k+1)<=i/\i<a+(k+1)+X l
  .rw[aO d,aO (by simp only[ah];omega)];have:i - (a+k)=(i - (a+(k+1)))+1:=by omega
   rw[this];simp
  rw[ao d];by_cases b:i=a+k;.subst b;rw[aO (by simp only[ah];omega)];simp[show a+k<cells.size by omega]
  rw[ao (by simp only[ah];omega)];simp only[cC];rw[fX (λh=>b h.symm)]
def CR.fill{b:ar}{cells e:Array Value}(h:CR M N R H cells)(l:CR M N R b e)(a:Nat)(m:a+X b<=X H): CR M N R (H.take a++b++H.drop (a+X b)) (e.zipIdx.foldl (λf (c,j)=>f.setIfInBounds (a+j) c) cells):=by
 have g:=zu e.toList 0 a cells (by rw[aU,<- l.1,<- h.1];simpa using m);have o:e.zipIdx.foldl (λf (c,j)=>f.setIfInBounds (a+j) c) cells=(e.toList.zipIdx 0).foldl (λ(f:Array Value) (p:Value×Nat)=>f.setIfInBounds (a+p.2) p.1) cells:=by rw[<- Array.foldl_toList,Array.toList_zipIdx]
 rw[o];refine⟨?_,λi x d=>?_⟩;.rw[g.1,<- h.1];simp;omega
 rw[g.2 i];simp only[cg,aU];rw[<- l.1];by_cases q:i<a;.rw[ao (by omega)];rw[aJ,bc (by simp;omega),cn q]at d;exact h.2 i x d
 by_cases r:i<a+X b
 .rw[aO (by omega)];rw[bc (by simp;omega),bB (by simp;omega)]at d;have k:X (H.take a)=a:=by simp;omega
  rw[k]at d;have:=l.2 _ x d;simpa using this
 rw[ao (by omega)];have k:X (H.take a++b)=a+X b:=by simp;omega
 rw[bB (by omega),k,dE]at d;have n:a+X b+(i - (a+X b))=i:=by omega
 rw[n]at d;exact h.2 i x d
def EP{w:bF}{J:ai}{μ:Mem}(place:Nat->Option (Nat×Nat)):∀(parts:List (Nat×Value)) (b:List (Nat×Nat×ar)) (e d:ar) (cells:Array Value),CR w J μ e cells->zz e b=S d->X b=X parts->(∀(k:Nat) (p:Nat×Value) (q:Nat×Nat×ar),parts[k]?=S p->b[k]?=S q->place p.1=S (q.1,q.2.1)/\CR w J μ q.2.2 p.2.cells) ->∃a,Instr.fill place cells parts=S a/\CR w J μ d a
 |[],b,e,d,cells,h,hf,hl,_=>by have:b=[]:=bQ hl;subst this;simp only[zz,aa]at hf;subst hf;exact⟨cells,rfl,h⟩
 |(i,v)::parts,b,e,d,cells,h,hf,hl,hp=>by
  cases b with
  |nil=>simp at hl
  |cons q b =>
  obtain⟨c,m,g⟩:=q;have l:=hp 0 (i,v) (c,m,g) rfl rfl;simp only[zz]at hf;split at hf
  .rename_i x;obtain⟨rfl,r⟩:=x;have j:=l.2;have s:v.cells.size=X g:=j.1.symm;have f:=h.fill j c r;obtain⟨a,u,n⟩:=EP place parts b _ d _ f hf (by simpa using hl) (λk p q o t=>hp (k+1) p q o t);refine⟨a,?_,n⟩;simp only[Instr.fill,l.1];have y:(decide (v.cells.size≠X g)||decide (c+v.cells.size > cells.size))=Z:=by rw[s,<- h.1];simp;omega
   simp only[y,aI,bo];exact u
  simp at hf
def HJ{w:bF}{J:ai}{μ:Mem}:∀(l:List Value) (zs:ar),lT l=S zs->X zs=X l/\∀(i:Nat) (x:V),zs[i]?=S x->VR w J μ x (l.getD i undef)
 |[],zs,h=>by simp only[lT,aa]at h;subst h;simp
 |v::l,zs,h=>by simp only[lT]at h;split at h<;>simp only[aa,reduceCtorEq]at h;rename_i y e c d;subst h;obtain⟨f,b⟩:=HJ l e d;refine⟨by simp[f],λi x a=>?_⟩;cases i with|zero=>simp only[aG,aa]at a;subst a;exact Cx c|succ i=>simpa using b i x a
def oD{w:bF}{J:ai}{μ:Mem}{cs:Array Value}{zs:ar}(h:lT cs.toList=S zs):CR w J μ zs cs:=by obtain⟨b,a⟩:=HJ (w:=w) (J:=J) (μ:=μ) _ _ h;refine⟨by simpa using b,λi x c=>?_⟩;have:=a i x c;simpa[ax]using this
def CR.YW{a:Array Value}(h:CR M N R H a):VR M N R (.agg H) (.agg a):=.agg H a h.1 h.2
def S5(b:∀r∈K,X r=Q):∀{i j:Nat} {x:V},gi K i j=S x->K.flatten[i*Q+j]?=S x:=by
 induction K with
 |nil=>intro i j x h;simp[gi]at h
 |cons r K ih =>
 intro i j x h;have a:=b r (by simp);cases i with
 |zero =>simp only[gi,aG,js]at h;have d:j<X r:=(ag.1 h).1;rw[BO,Nat.zero_mul,aP,bc d,h]
 |succ i =>
 have c:gi K i j=S x:=by simpa[gi]using h
 have:=ih (λr a=>b r (by simp[a])) c;rw[BO,bB (by rw[a,du];omega),a];have e:(i+1)*Q+j - Q=i*Q+j:=by rw[du];omega
 rw[e,this]
def Qq(a:∀r∈K,X r=Q):K.flatten.length=X K*Q:=by induction K with|nil=>simp|cons r K ih=>rw[BO,ae,a r (by simp),ih (λr b=>a r (by simp[b])),ah,du];omega
def Hy(d:Nat):∀(b:eJ) (c:ar) (k:Nat) (a:ar),(∀r∈b,X r=d)->X c=k*d->X a=X b*d ->zz (c++a) ((b.zipIdx k).map λ(r,i)=>(i*d,d,r))=S (c++b.flatten)
 |[],c,k,a,_,_,ht=>by have:a=[]:=bQ (by simpa using ht);subst this;simp[zz]
 |r::b,c,k,a,hr,hp,ht=>by
  have e:=hr r (by simp);have j:d<=X a:=by rw[ht,ah,du];omega
  simp only[List.zipIdx_cons,az,zz];rw[aO ⟨e,by rw[ae,hp];omega⟩];have f:(c++a).take (k*d)=c:=by rw[<- hp];exact qf
  have g:(c++a).drop (k*d+d)=a.drop d:=by rw[<- hp,List.drop_append];simp
  rw[f,g];have ih:=Hy d b (c++r) (k+1) (a.drop d) (λx h=>hr x (by simp[h])) (by rw[ae,hp,e,du];omega) (by rw[bN,ht,ah,du];omega);rw[ih];simp
section eV
variable {P:bl} {o:Oper} {a:Act} {B:Nat} {w0 w:bF} {J:ai} {μ:Mem} {fr:ar} (hF:FR w J μ fr a) (hS:kN P B w0 w J μ)
include hF hS
theorem CB{places:List (Nat×Nat)}:∀(parts:List (Nat×Operand)) (b:List (Nat×Nat×O)),xJ places parts=S b->(∀p∈b,jQ J (ev fr p.2.2)=G) ->X b=X parts/\∀(k:Nat) (p:Nat×Operand) (q:Nat×Nat×O),parts[k]?=S p->b[k]?=S q ->places[p.1]?=S (q.1,q.2.1)/\CR w J μ (iE (ev fr q.2.2)) (a.eval p.2).cells
 |[],b,h,_=>by simp only[xJ,aa]at h;subst h;simp
 |(i,x)::r,b,h,gB=>by simp only[xJ]at h;split at h<;>simp only[aa,reduceCtorEq]at h;rename_i d g y n f j m;subst h;obtain⟨o,l⟩:=CB r n m (λp c=>gB p (cd _ c));refine⟨by simp[o],λk p q c e=>?_⟩;cases k with|zero =>simp only[aG,aa]at c e;subst c;subst e;exact⟨f,(nW hS (gx hF j) (gB (d,g,y) dN)).1⟩|succ k=>exact l k p q (by simpa using c) (by simpa using e)
theorem adq{T:TypeId}{parts:Array (Nat×Operand)}{t:TypeInfo}{n:Array Field}{z:Value}{zs:ar}{places:List (Nat×Nat)}{c:List (Nat×Nat×O)}(I:o.op=.build T parts)(u:P.info? T=S t)(K:P.underlying T=S (.struct n))(E:t.zero=S z) (pD:lT z.cells.toList=S zs) (l:placesOf P n.toList=S places) (M:xJ places parts.toList=S c) {m:Prop} {y:V} (h:ca fr J (.build zs c)=S (m,y)) (Q:m):Yields P o a w J μ y:=by
 simp only[ca]at h;split at h;.rename_i C r;simp only[aa,aY]at h;obtain⟨rfl,rfl⟩:=h;obtain⟨D,s⟩:=CB hF hS parts.toList c M Q;obtain⟨b,L,B⟩:=EP (w:=w) (J:=J) (μ:=μ) (λx=>places.toArray[x]?) (parts.toList.map λ(i,x)=>(i,a.eval x)) (c.map λ(g,H,x)=>(g,H,iE (ev fr x))) zs C z.cells (oD pD) r (by simp[D]) (by intro k p q f e;rw[bP]at f e;simp only[aH]at f e;obtain⟨R,d,rfl⟩:=f;obtain⟨U,j,rfl⟩:=e;obtain⟨F,W⟩:=s k R U d j;exact⟨by simpa using F,W⟩);refine .pure (v:=.agg b) ?_ B.YW;have N:=run_build (P:=P) w T (parts.map λ(i,x)=>(i,a.eval x)) b (by simp only[Program.built,u,K,E,nT];unfold placesOf at l;simp only[l];exact L);simp only[execOp,I,Sem.run_bind,N,Result.andThen_ok,Sem.run_pure]
 simp at h
theorem YM{T E:TypeId}{n:Nat}{parts:Array (Nat×Operand)}{t d:TypeInfo}{z:Value}{zs:ar}{e:List (Nat×Nat×O)}(N:o.op=.build T parts)(D:P.info? T=S t)(Q:P.underlying T=S (.array n E))(L:t.zero=S z)(j:P.info? E=S d) (pD:lT z.cells.toList=S zs) (R:xJ ((List.range n).map λi=>(i*d.size,d.size)) parts.toList=S e) {s:Prop} {y:V} (h:ca fr J (.build zs e)=S (s,y)) (gE:s):Yields P o a w J μ y:=by
 simp only[ca]at h;split at h
 .rename_i I B;simp only[aa,aY]at h;obtain⟨rfl,rfl⟩:=h;obtain⟨K,C⟩:=CB hF hS parts.toList e R gE;obtain⟨b,U,H⟩:=EP (w:=w) (J:=J) (μ:=μ) (λi=>S (i*d.size,d.size)) (parts.toList.map λ(i,x)=>(i,a.eval x)) (e.map λ(m,M,x)=>(m,M,iE (ev fr x))) zs I z.cells (oD pD) B (by simp[K]) (by
   intro k p q l g;rw[bP]at l g;simp only[aH]at l g;obtain⟨u,f,rfl⟩:=l;obtain⟨q',r,rfl⟩:=g;obtain⟨c,hc⟩:=C k u q' f r;rw[bP]at c;simp only[aH]at c;obtain⟨i,W,c⟩:=c;have F:i=u.1:=by have:=(ag.1 W).2;simpa using this.symm
   subst F;exact⟨by rw[c],hc⟩);refine .pure (v:=.agg b) ?_ H.YW;have fY:=run_build (P:=P) w T (parts.map λ(i,x)=>(i,a.eval x)) b (by simp only[Program.built,D,Q,L,j,nT];exact U);simp only[execOp,N,Sem.run_bind,fY,Result.andThen_ok,Sem.run_pure]
 simp at h
theorem KI:∀(parts:List (Nat×Operand)) (n:Nat) (b:List O),xH n parts=S b->(∀x∈b,jQ J (ev fr x)=G) ->X b=X parts/\∀(k:Nat) (p:Nat×Operand) (x:O),parts[k]?=S p->b[k]?=S x->p.1=n+k/\CR w J μ (iE (ev fr x)) (a.eval p.2).cells
 |[],n,b,h,_=>by simp only[xH,aa]at h;subst h;simp
 |(i,x)::r,n,b,h,gB=>by
  simp only[xH]at h;split at h;.rename_i m;subst m;split at h<;>simp only[aa,reduceCtorEq]at h;rename_i y f g e;subst h;obtain⟨l,j⟩:=KI r _ f e (λp c=>gB p (cd _ c));refine⟨by simp[l],λk p q c d=>?_⟩;cases k with|zero =>simp only[aG,aa]at c d;subst c;subst d;exact⟨rfl,(nW hS (gx hF g) (gB y dN)).1⟩|succ k =>have:=j k p q (by simpa using c) (by simpa using d);exact⟨by omega,this.2⟩
  simp at h
theorem HU{T E:TypeId}{len:Nat}{parts:Array (Nat×Operand)}{t:TypeInfo}{z:Value}{e:List O}{d:List (de)}(ho:o.op=.buildSlice T len parts)(W:P.underlying T=S (.slice E))(Q:P.info? E=S t)(hz:t.zero=S z) (R:parts.size=len) (iz:0<t.size) (SI:z.cells.size=t.size) (IZ:len*t.size<=2^24) (BJ:xH 0 parts.toList=S e) (gB:∀x∈e,jQ J (ev fr x)=G) (B:∀r∈e.map λx=>eK d (iE (ev fr x)),X r=t.size) : ∃b:Array Value,(execOp a.eval o).run P w=.ok (.value (.slice (S ⟨w.heap.size,0,Y⟩) len len)) (w.alloc (.cells b E))/\X (e.map λx=>eK d (iE (ev fr x)))=len/\b.size=len*t.size /\∀i j x,gi (e.map λx=>eK d (iE (ev fr x))) i j=S x->i*t.size+j<b.size/\VR w J μ x (b.getD (i*t.size+j) undef):=by
 obtain⟨h1,U⟩:=KI hF hS parts.toList 0 e BJ gB;have m:X e=len:=by rw[h1];simpa using R
 generalize h:(e.map λx=>eK d (iE (ev fr x)))=rows at B |-;have C:X rows=len:=by rw[<- h];simp[m]
 let g:Array Value:=if len*t.size=0 then #[]else z.cells;let c:Array Value:=(Array.range (len*t.size)).map (g[· % g.size]!);have F:CR w J μ (List.replicate (len*t.size) V.u) c:=by
  refine⟨by simp[c],λi x s=>?_⟩;have:x=.u:=(ag.1 s).2▸by simp
  subst this;exact .u _
 have y:=Hy t.size rows [] 0 (List.replicate (len*t.size) V.u) B (by simp) (by simp[C]);simp only[aw]at y;obtain⟨b,D,K⟩:=EP (w:=w) (J:=J) (μ:=μ) (λi=>S (i*t.size,t.size)) (parts.toList.map λ(i,x)=>(i,a.eval x)) _ _ _ c F y (by simp[C,R]) (by intro k p q L I;rw[bP]at L;simp only[aH]at L;obtain⟨p',H,rfl⟩:=L;rw[bP,List.getElem?_zipIdx]at I;simp only[Option.map_map,aH]at I;obtain⟨r,M,rfl⟩:=I;rw[<- h,bP]at M;simp only[aH]at M;obtain⟨x,s,rfl⟩:=M;obtain⟨v,hc⟩:=U k p' x H s;refine⟨?_,hc.eK d⟩;simp[v]);have fY:(execOp a.eval o).run P w=.ok (.value (.slice (S ⟨w.heap.size,0,Y⟩) len len)) (w.alloc (.cells b E)):=by
  have ac:¬(16777216<len*t.size):=by omega
  simp only[execOp,ho,Instr.buildSlice,Sem.run_bind,run_underlying W,Result.andThen_ok,sizeOf,typeInfo,run_program,Q,Sem.run_pure];have N:¬(len*t.size > 2^24):=by omega
  simp only[N,bo];by_cases l:len*t.size=0
  .have f:g=#[]:=by simp[g,l]
   have v:c=(Array.range (len*t.size)).map ((#[]:Array Value)[· % (#[]:Array Value).size]!):=by simp only[c,f]
   simp only[l,aR,Sem.run_bind,Sem.run_pure,Result.andThen_ok];rw[v,l]at D;simp only[nT,D];simp[newRow]
  have f:g=z.cells:=by simp[g,l]
  have v:c=(Array.range (len*t.size)).map (z.cells[· % z.cells.size]!):=by simp only[c,f]
  simp only[l,bo,zeroValue,typeInfo,Sem.run_bind,run_program,Q,Result.andThen_ok,Sem.run_pure,hz];rw[v]at D;simp only[nT,D];simp[newRow]
 refine⟨b,fY,C,?_,λi j x s=>?_⟩;.rw[<- K.1];simp[Qq B,C]
 have n:=S5 B s;exact⟨by rw[<- K.1];exact(ag.1 n).1,K.2 _ x n⟩
theorem YN{T E:TypeId}{len:Nat}{parts:Array (Nat×Operand)}{t:TypeInfo}{z:Value}{l:List O}{d:List (de)}(Q:o.op=.buildSlice T len parts)(F:P.underlying T=S (.slice E))(B:P.info? E=S t)(L:t.zero=S z) (W:parts.size=len) (n:0<t.size) (C:z.cells.size=t.size) (v:len*t.size<=2^24) (U:xH 0 parts.toList=S l) {g:Prop} {y:V} (h:ca fr J (.fT t.size d l)=S (g,y)) (gE:g):Yields P o a w J μ y:=by
 simp only[ca,aa,aY]at h;obtain⟨rfl,rfl⟩:=h;obtain⟨K,f⟩:=gE;obtain⟨b,fY,k,oA,q⟩:=HU hF hS Q F B L W n C v U K (λr e=>(f r e).1);generalize u:(l.map λx=>eK d (iE (ev fr x)))=rows at f k q |-;have D:∀r∈rows,X r=t.size:=λr e=>(f r e).1;have m:w.grownBy (w.alloc (.cells b E)) Y:=World.grownBy_alloc w _ Y;obtain⟨R,N⟩:=hS.grown m;refine⟨_,_,fY,m,?_⟩;have p:∀i j x,gi rows i j=S x->(w.alloc (.cells b E)).cell? ⟨w.heap.size,0+i*t.size+j,Y⟩=S (b.getD (i*t.size+j) undef)/\VR w J μ x (b.getD (i*t.size+j) undef):=by intro i j x c;obtain⟨eX,hv⟩:=q i j x c;refine⟨?_,hv⟩;rw[World.cell?_alloc_new,aP];simp[eX]
 have:=VR.lit (w:=w.alloc (.cells b E)) (J:=J) (μ:=μ) t.size rows w.heap.size 0 (λi j=>b.getD (i*t.size+j) undef) (by rw[k];have:len<=len*t.size:=aqC _ n;unfold maxLen;omega) D (λi j x c=>⟨(p i j x c).1,λM=>?_,?_⟩) (λi j x c=>(p i j x c).2.mono N);.rwa [k]at this
 .obtain⟨id,g,I,h6,H⟩:=M;have s:g≠.dead:=by rintro rfl;exact H
  exact absurd (hS.xM I s h6).2 (Nat.lt_irrefl _)
 obtain⟨r,e,hj⟩:=jV c;exact(f r (bn e)).2 x (bn hj)
end eV
variable{N:Mem}{M D H:Nat}{F:V}{R:ai}{Q K:bF}{L:bl}
structure KS (w:bF) (J:ai) (μ:Mem) (xs:eJ) (sz:Nat) (v:Value):Prop where
 rows:∀r∈xs,r.length=sz
 len:xs.length<=maxLen
 here:(xs=[]/\∃a,v=.slice a 0 0)\/∃b off cap,v=.slice (some ⟨b,off,none⟩) xs.length cap /\
  ∀i j x,gi xs i j=some x->x.pure=true/\∃u,w.cell? ⟨b,off+i*sz+j,none⟩=some u/\VR w J μ x u
def sJ.agY{a:eJ}{o:Nat}{f:Nat->Nat->Value}(h:sJ Q R N a M D o f)(c:X a<=maxLen):KS Q R N a M (.slice (S ⟨D,o,Y⟩) (X a) H) :=⟨h.1,c,.inr ⟨D,o,H,rfl,λi j x b=>⟨(h.2.1 i j x b).2.2,f i j,(h.2.1 i j x b).1,h.2.2 i j x b⟩⟩⟩
def B2(hS:kN L M Q K R N){v:Value}(h:VR K R N F v){sz:Nat}{xs:eJ}(a:rowsOf R sz F=S xs):KS K R N xs sz v:=by
 unfold rowsOf at a;split at a;.simp only[aa]at a;subst a;exact⟨by simp,by simp,.inl ⟨rfl,_,h.nF⟩⟩
 .split at a<;>simp only[aa,reduceCtorEq]at a;rename_i u;subst u;subst a;rcases h.tm with⟨rfl,rfl⟩|⟨b,o,f,rfl,l,k⟩;.exact⟨by simp,by simp,.inl ⟨rfl,_,rfl⟩⟩
  exact k.agY l
 .split at a<;>simp only[aa,reduceCtorEq]at a;rename_i u;subst u;subst a;rcases h.G2 with⟨rfl,_,rfl⟩|⟨b,o,e,f,rfl,t,l,k⟩;.exact⟨by simp,by simp,.inl ⟨rfl,_,rfl⟩⟩
  exact k.agY (cE t l)
 .rename_i id g;split at a
  .rename_i E c C P T m p;split at a<;>simp only[aa,reduceCtorEq]at a;rename_i B;obtain⟨rfl,rfl⟩:=B;subst a;have s:=h.lP p;obtain⟨_,x,k⟩:=hS.rowAt p;rcases k with⟨l,D⟩|⟨b,e,w,l,_,t,H,_,k⟩;.subst D;exact⟨by simp,by simp,.inl ⟨rfl,_,s.trans l⟩⟩
   exact⟨x,cE t H,.inr ⟨b,0,e,s.trans l,λi j F a=>by rw[aP];exact k i j F a⟩⟩
  simp at a
 .rename_i id g d q;split at a
  .rename_i E c C P T m p;split at a<;>simp only[aa,reduceCtorEq]at a;rename_i B;obtain⟨rfl,rfl⟩:=B;subst a;obtain⟨U,J,s⟩:=h.tj p;obtain⟨_,x,k⟩:=hS.rowAt p;have n:∀r∈(m.drop d).take (q - d),X r=c:=λr k=>x r (dR (dB k));have y:X ((m.drop d).take (q - d))=q - d:=by simp;omega
   rcases k with⟨l,D⟩|⟨b,e,w,l,_,t,H,_,k⟩
   .subst D;refine⟨by simp,by simp,.inl ⟨by simp,Y,?_⟩⟩;simp only[aj]at J;rw[s,l];have z:d=0:=by omega
    have O:q=0:=by omega
    subst z;subst O;rfl
   refine⟨n,by rw[y];omega,?_⟩;rw[s,l];by_cases I:e=d
   .have z:q - d=0:=by omega
    refine .inr ⟨b,0,e - d,?_,?_⟩;.rw[y];simp[nO,I]
    intro i j F a;rw[z]at a;simp[gi]at a
   refine .inr ⟨b,d*c,e - d,?_,?_⟩;.rw[y];simp[nO,I,Addr.add_lit]
   intro i j F a;have:=k _ _ _ (ET a);rwa [show(d+i)*c+j=d*c+i*c+j by rw[du]]at this
  simp at a
 simp at a
def KS.cells{J:ai}{μ:Mem}{xs:eJ}{sz:Nat}{n:Nat}(h:KS Q J μ xs sz (.slice (S ⟨M,D,Y⟩) n H))(m:∀i j x,gi xs i j=S x->jK J x=G){B:Nat}(hS:kN L B K Q J μ): ∃b:List Value,X b=X xs*sz/\(∀(j:Nat) (u:Value),b[j]?=S u->Q.cell? ((⟨M,D,Y⟩:Addr).add j)=S u)/\(∀u∈b,u.oneCell'=G)/\lU Q J μ xs sz b:=by
 rcases h.here with⟨rfl,a,v⟩|⟨U,w,y,v,E⟩;.exact⟨[],by simp,by simp,by simp,by simp,by simp[gi]⟩
 simp only[Value.slice.injEq,aa,Addr.mk.injEq,dm]at v;obtain⟨⟨rfl,rfl⟩,rfl,rfl⟩:=v;have N:0<X xs*sz->0<sz:=λh=>aqB h;let f:Nat->Value:=λk=>(Q.cell? ⟨M,D+k,Y⟩).getD undef;have l:∀k,k<X xs*sz->∃x,gi xs (k / sz) (k % sz)=S x/\x.pure=G/\Q.cell? ⟨M,D+k,Y⟩=S (f k)/\VR Q J μ x (f k):=by
  intro k l;have O:0<sz:=N (by omega);have t:k / sz<X xs:=nc (by rw[iB];exact l);obtain⟨x,m⟩:=Jx h.rows t (sK k O);obtain⟨p,u,c,d⟩:=E _ _ _ m;have e:D+k / sz*sz+k % sz=D+k:=by have:=agS k sz;rw[iB]at this;omega
  rw[e]at c;have C:f k=u:=by simp[f,c]
  exact⟨x,m,p,by rw[C];exact c,by rw[C];exact d⟩
 refine⟨(List.range (X xs*sz)).map f,by simp,λj u o=>?_,λu F=>?_,h.rows,λi j x z=>?_⟩
 .rw[bP]at o;simp only[aH]at o;obtain⟨k,q,rfl⟩:=o;have I:j<X xs*sz:=by have:=(ag.1 q).1;simpa using this
  have:k=j:=by rw[kQ I]at q;simpa using q.symm
  subst this;rw[Addr.add_lit];obtain⟨_,_,_,c,_⟩:=l k I;exact c
 .simp only[cP,eD]at F;obtain⟨k,T,rfl⟩:=F;obtain⟨x,t,_,_,d⟩:=l k T;exact(sE hS d (m _ _ _ t)).1
 obtain⟨p,u,c,d⟩:=E _ _ _ z;obtain⟨r,g,s⟩:=jV z;have P:i<X xs:=(ag.1 g).1;have o:j<sz:=by rw[<- h.rows r (bn g)];exact(ag.1 s).1
 have R:i*sz+j<X xs*sz:=by have:(i+1)*sz<=X xs*sz:=bS _ P;rw[du]at this;omega
 refine⟨p,u,?_,d⟩;rw[bP,kQ R];have:D+i*sz+j=D+(i*sz+j):=by omega
 rw[this]at c;simp[f,c]
def s6(h:F.pure=G):jK R F=G:=by cases F<;>simp_all [V.pure,jK]
def foldl_push(a:bH):∀(s:ByteArray),(a.foldl (λ(r:ByteArray) n=>r.push (UInt8.ofNat n.toNat)) s).data.toList=s.data.toList++a.map λn=>UInt8.ofNat n.toNat:=by induction a with|nil=>intro s;simp|cons n a ih=>intro s;rw[bT,ih];simp[ByteArray.push]
def BF:∀(c:eJ) (l:aL),bytesOf c=S l->∃a:bH,c=a.map (λn=>[V.i .u8 n])/\l=a.map λn=>UInt8.ofNat n.toNat|[],l,h=>by simp only[bytesOf,aa]at h;subst h;exact⟨[],rfl,rfl⟩|r::rs,l,h=>by simp only[bytesOf]at h;split at h<;>simp only[aa,reduceCtorEq]at h;rename_i x e b d;subst h;obtain⟨a,g,f⟩:=BF rs e d;unfold uU at b;split at b<;>simp only[aa,reduceCtorEq]at b;rename_i n;subst b;exact⟨n::a,by simp[g],by simp[f]⟩
section eV
variable {P:bl} {o:Oper} {a:Act} {B:Nat} {w0 w:bF} {J:ai} {μ:Mem} {fr:ar} (hF:FR w J μ fr a) (hS:kN P B w0 w J μ)
include hF hS
theorem akX{s d e:TypeId}{x:Operand}{N:O}(Q:o.op=.convert s d x)(E:P.underlying s=S (.slice e))(I:P.underlying e=S (.int .u8))(B:P.underlying d=S .string)(hx:cO x=S N) {ob:Prop} {y:V} (h:ca fr J (.b2s N)=S (ob,y)):Yields P o a w J μ y:=by
 have W:=gx hF hx;simp only[ca]at h;split at h
 .rename_i m Bi;split at h
  .rename_i l hl;simp only[aa,aY]at h;obtain⟨_,rfl⟩:=h;have t:=B2 hS W Bi;obtain⟨c,g,L⟩:=BF m l hl;have R:X l=X m:=by rw[L,g];simp
   rcases t.here with⟨F,q,H⟩|⟨b,k,C,H,hr⟩
   .subst F;have:l=[]:=bQ (by simpa using R);subst this;refine .pure (v:=.string ByteArray.empty) ?_ (.s _ _ rfl (by simp));have T:(convert s d (.slice q 0 0)).run P w=.ok (.string ByteArray.empty) w:=by cases q with|none=>exact run_convert_bytes_nil (P:=P) (w:=w) s e E I 0 0 d B|some q =>rw[run_convert_bytes_string w s d e _ _ _ E I B,run_bytesToString w q 0 0 [] (run_loadCells_list w q [] (by simp))];rfl
    simp only[execOp,Q,H,Sem.run_bind,T,Result.andThen_ok,Sem.run_pure]
   have mD:∀j,j<X m->w.cell? ((⟨b,k,Y⟩:Addr).add j)=S (.int .u8 (c.getD j 0)):=by
    intro j z;have p:j<X c:=by rw[g]at z;simpa using z
    have U:gi m j 0=S (.i .u8 c[j]):=by rw[g];simp[gi,p]
    obtain⟨_,u,K,h3⟩:=hr j 0 _ U;rw[h3.jy]at K;rw[Addr.add_lit];simpa[p]using K
   have D:=run_loadCells (P:=P) w ⟨b,k,Y⟩ (X m) (λj=>.int .u8 (c.getD j 0)) mD;have f:(loadCells ⟨b,k,Y⟩ (X m)).run P w=.ok (c.map (Value.int .u8)).toArray w:=by
    rw[D];congr 2;apply jF;intro j;have M:X m=X c:=by rw[g];simp
    by_cases z:j<X c;.rw[bP,kQ (by omega),bP,aA z];simp[z]
    rw[cp (by simp;omega),cp (by simp;omega)]
   refine .pure (v:=.string (c.foldl (λr n=>r.push (UInt8.ofNat n.toNat)) ByteArray.empty)) ?_ (.s _ _ ?_ (by rw[R];exact t.len));.simp only[execOp,Q,H,Sem.run_bind,run_convert_bytes_string w s d e _ _ _ E I B,run_bytesToString w ⟨b,k,Y⟩ (X m) C c f,Result.andThen_ok,Sem.run_pure]
   rw[foldl_push,L];rfl
  simp at h
 simp at h
end eV
structure Src (P:bl) (w:bF) (U:TypeId) (x:Value) (size m:Nat) (news:List Value):Prop where
 ty:∃d,P.underlying U=some d/\∀k,d≠.int k
 len:∀w':bF,(Builtin.lenOf x).run P w'=.ok m w'
 first:(Builtin.firstCells size m x).run P w=.ok news.toArray w
 aj6:(Builtin.firstCells size m x).run P w.drew=.ok news.toArray w.drew
 Su:news.length=m*size
 one:∀u∈news,u.oneCell'=true
section
variable {P:bl} {w:bF} {T U ty E:TypeId} {t:TypeInfo} {z:Value} {x:Value} {m:Nat} {news:List Value}
def rn(g:P.underlying T=S (.slice E))(h:P.info? E=S t)(c:Src P w U x t.size 0 news)(a:Option Addr)(n b:Nat)(i:n<=b): (Builtin.append_ #[T,U] ty #[.slice a n b,x]).run P w=.ok (.slice a n b) w:=by
 obtain⟨d,e,k⟩:=c.ty;have j:news=[]:=bQ (by simpa using c.Su);have f:=c.first;subst j;cases a with
 |none=>simp[Builtin.append_,run_underlying g,run_underlying e,sizeOf,typeInfo,h,c.len,i,f]
 |some a=>simp[Builtin.append_,run_underlying g,run_underlying e,sizeOf,typeInfo,h,c.len,i,f,storeCells]
def Lg(i:P.underlying T=S (.slice E))(k:P.info? E=S t)(c:Src P w U x t.size m news)(g n b:Nat)(a:Array Value)(l:w.heap[g]?=S (.cells a E (0,0))) (j:n+m<=b) (o:n*t.size+X news<=a.size) : (Builtin.append_ #[T,U] ty #[.slice (S ⟨g,0,Y⟩) n b,x]).run P w =
   .ok (.slice (S ⟨g,0,Y⟩) (n+m) b) (w.setRow g (a.toList.take (n*t.size)++news++a.toList.drop (n*t.size+X news)).toArray):=by obtain⟨d,f,p⟩:=c.ty;have h:=c.first;have e:=run_storeCells_at P g (n*t.size) E news 0 a w l (by simpa using o) c.one;simp only[cg]at e;simp[Builtin.append_,run_underlying i,run_underlying f,sizeOf,typeInfo,k,c.len,j,h,Addr.add_lit,e]
def u7(C:P.underlying T=S (.slice E))(s:P.info? E=S t)(D:t.zero=S z)(h:Src P w U x t.size m news)(a:Option Addr)(n e:Nat)(c:List Value) (l:X c=n*t.size) (q:(a=Y/\n=0)\/∃b,a=S b/\∀j v,c[j]?=S v->w.cell? (b.add j)=S v) (y:e<n+m) (k:n+m<=maxLen) (F:(n+m)*t.bytes<=140737488355328) : (Builtin.append_ #[T,U] ty #[.slice a n e,x]).run P w = .ok (.slice (S ⟨w.heap.size,0,Y⟩) (n+m) (grownCap w (n+m) e E)) (w.drew.alloc (.cells (c.toArray++news.toArray++Builtin.zeroCells z.cells (grownCap w (n+m) e E - (n+m))) E)):=by
 obtain⟨d,o,H⟩:=h.ty;have p:=h.aj6;have B:¬(n+m<=e):=by omega
 have g:¬(9223372036854775807<((n:Int)+(m:Int))):=by unfold maxLen at k;omega
 have r:=growslice_fits y F;have f:¬(281474976710656<Builtin.nextslicecap (n+m) e*t.bytes):=by omega
 have i:(Builtin.firstCells t.size n (.slice a n e)).run P w.drew=.ok c.toArray w.drew:=by
  rcases q with⟨rfl,rfl⟩|⟨b,rfl,u⟩;.have:c=[]:=bQ (by simpa using l);subst this;simp[Builtin.firstCells]
  exact run_firstCells_some (P:=P) w.drew t.size n b n e c l (by simpa using u)
 simp[Builtin.append_,run_underlying C,run_underlying o,sizeOf,typeInfo,zeroValue,s,D,h.len,B,g,f,Question.forced,p,i,newRow,grownCap];congr 2;apply Array.ext';simp[aJ]
def wA(D:P.underlying T=S (.slice E))(C:P.info? E=S t)(O:t.zero=S z)(pD:z.cells.size=t.size)(p:Src P w U x t.size m news)(B:Nat)(v:Value)(n:Nat)(a:List Value) (o:w.ownsRow B E t.size v n a) (q:n+m<=maxLen) (V:(n+m)*t.bytes<=140737488355328) (hB:B<=w.heap.size) : ∃K F,(Builtin.append_ #[T,U] ty #[v,x]).run P w=.ok K F/\F.ownsRow B E t.size K (n+m) (a++news)/\w.grownBy F (l9 v) /\(∀b,l9 K=S b->l9 v=S b\/w.heap.size<=b)/\(∀b,l9 v=S b->∀j u,a[j]?=S u->F.cell? ⟨b,j,Y⟩=S u):=by
 have h:X (a++news)=(n+m)*t.size:=by rw[ae,o.1,p.Su,du]
 have grown:∀(f:Nat),f<n+m->∀(row:de),(w.drew.alloc (.cells (a.toArray++news.toArray++Builtin.zeroCells z.cells (grownCap w (n+m) f E - (n+m))) E)).ownsRow B E t.size (.slice (S ⟨w.heap.size,0,Y⟩) (n+m) (grownCap w (n+m) f E)) (n+m) (a++news) /\w.grownBy (w.drew.alloc (.cells (a.toArray++news.toArray++Builtin.zeroCells z.cells (grownCap w (n+m) f E - (n+m))) E)) row:=by
  intro f ho row;have SP:=grownCap_ge w (n+m) f E;have H:grownCap w (n+m) f E<=maxLen:=grownCap_le_maxLen w (n+m) f E q;refine⟨⟨h,.inr ⟨w.heap.size,_,_,rfl,hB,heap_alloc_new w.drew _,SP,H,?_,?_⟩⟩,⟨rfl,rfl,rfl,by simp,λk M _=>heap_alloc_old w.drew _ k M⟩⟩;.simp only[jG,fa,size_zeroCells,pD,o.1,p.Su,<- Nat.add_mul];congr 1;omega
  simp only[yF,aJ];rw[<- List.append_assoc,<- h];exact qf
 by_cases hm:m=0
 .subst hm;have Dw:news=[]:=bQ (by simpa using p.Su);subst Dw;have s:(Builtin.append_ #[T,U] ty #[v,x]).run P w=.ok v w:=by
   rcases o.2 with⟨rfl,rfl⟩|⟨g,c,i,rfl,_,_,R,_⟩;.exact rn D C p Y 0 0 (aB _)
   exact rn D C p _ n c R
  refine⟨v,w,s,by simpa using o,grownBy_refl w _,λb d=>.inl d,λb d j u y=>?_⟩;rcases o.2 with⟨rfl,rfl⟩|⟨g,c,i,rfl,_⟩;.simp[l9]at d
  simp only[l9,aa]at d;subst d;have:=o.cells (g:=g) rfl j u y;rwa [Addr.add_lit,aP]at this
 rcases o.2 with⟨rfl,rfl⟩|⟨g,c,i,rfl,I,L,R,H,W,Q⟩
 .have hx:a=[]:=bQ (by simpa using o.1);subst hx;have s:=u7 (ty:=ty) D C O p Y 0 0 [] (by simp) (.inl ⟨rfl,rfl⟩) (by omega) q V;have l:=grown 0 (by omega) (l9 (.slice Y 0 0));refine⟨_,_,s,l.1,l.2,λb d=>?_,λb d=>?_⟩;.simp only[l9,aa]at d;exact .inr (by omega)
  simp[l9]at d
 have holds:∀j u,a[j]?=S u->w.cell? ((⟨g,0,Y⟩:Addr).add j)=S u:=o.cells (g:=g) rfl;by_cases J:n+m<=c
 .have r:n*t.size+X news<=i.size:=by rw[p.Su,W,<- Nat.add_mul];exact bS _ J
  have s:=Lg (ty:=ty) D C p g n c i L J r;refine⟨_,_,s,⟨h,.inr ⟨g,c,_,rfl,I,setRow_heap w g i _ E _ L,J,H,?_,?_⟩⟩,⟨rfl,rfl,rfl,by simp,λk _ M=>setRow_other w g k _ (λe=>M (by simp[l9,e]))⟩,λb d=>.inl d,λb d j u y=>?_⟩;.simp only[fa,ae,aX,bN,aU];omega
  .rw[Q,<- h];exact qf
  simp only[l9,aa]at d;subst d;rw[cell_setRow_same w g j i _ E _ L];have uL:j<X a:=(ag.1 y).1;rw[Q];simp only[pC];rw[aJ,bc uL,y]
 have s:=u7 (ty:=ty) D C O p (S ⟨g,0,Y⟩) n c a o.1 (.inr ⟨_,rfl,holds⟩) (by omega) q V;have l:=grown c (by omega) (l9 (.slice (S ⟨g,0,Y⟩) n c));refine⟨_,_,s,l.1,l.2,λb d=>?_,λb d j u y=>?_⟩;.simp only[l9,aa]at d;exact .inr (by omega)
 simp only[l9,aa]at d;subst d;have N:=holds j u y;rw[Addr.add_lit,aP]at N;have eX:=World.block_lt_of_cell? w _ N;have:(w.drew.alloc (.cells (a.toArray++news.toArray++Builtin.zeroCells z.cells (grownCap w (n+m) c E - (n+m))) E)).cell? ⟨g,j,Y⟩=w.drew.cell? ⟨g,j,Y⟩ :=
  World.cell?_alloc_lt w.drew _ _ eX;rw[this,World.cell?_drew];exact N
def OI(C:P.underlying T=S (.slice E))(r:P.info? E=S t)(H:t.zero=S z)(F:z.cells.size=t.size)(h:Src P w U x t.size m news)(B:Nat)(a:Option Addr)(n:Nat)(c:List Value) (i:X c=n*t.size) (l:(a=Y/\n=0)\/∃b,a=S b/\∀j v,c[j]?=S v->w.cell? (b.add j)=S v) (I:0<m) (e:n+m<=maxLen) (u:(n+m)*t.bytes<=140737488355328) (D:B<=w.heap.size) : ∃g f,(Builtin.append_ #[T,U] ty #[.slice a n n,x]).run P w=.ok g f/\f.ownsRow B E t.size g (n+m) (c++news)/\w.grownBy f Y/\(∀b,l9 g=S b->w.heap.size<=b):=by
 have d:X (c++news)=(n+m)*t.size:=by rw[ae,i,h.Su,du]
 have p:=u7 (ty:=ty) C r H h a n n c i l (by omega) e u;have o:=grownCap_ge w (n+m) n E;have q:grownCap w (n+m) n E<=maxLen:=grownCap_le_maxLen w (n+m) n E e;refine⟨_,_,p,⟨d,.inr ⟨w.heap.size,_,_,rfl,D,heap_alloc_new w.drew _,o,q,?_,?_⟩⟩,⟨rfl,rfl,rfl,by simp,λk y _=>heap_alloc_old w.drew _ k y⟩,λb s=>?_⟩;.simp only[jG,fa,size_zeroCells,F,i,h.Su,<- Nat.add_mul];congr 1;omega
 .simp only[yF,aJ];rw[<- List.append_assoc,<- d];exact qf
 simp only[l9,aa]at s;omega
end
variable{R:Mem}{Q:Nat}{M:ai}{L:bF}{N:eJ}
def KS.src{P:bl}{w:bF}(hS:kN P Q L w M R){T E:TypeId}(n:P.underlying T=S (.slice E)){c:Nat}{v:Value}(h:KS w M R N c v): ∃news,Src P w T v c (X N) news/\lU w M R N c news:=by
 have e:∃d,P.underlying T=S d/\∀k,d≠.int k:=⟨_,n,λk=>by simp⟩;rcases h.here with⟨rfl,f,rfl⟩|⟨b,p,o,rfl,q⟩
 .cases f with
  |none=>exact⟨[],⟨e,λ_=>by simp[Builtin.lenOf],by simp[Builtin.firstCells],by simp[Builtin.firstCells],by simp,by simp⟩,by simp,by simp[gi]⟩
  |some f=>exact⟨[],⟨e,λ_=>by simp[Builtin.lenOf],run_firstCells_some w c _ f _ _ [] (by simp) (by simp),run_firstCells_some w.drew c _ f _ _ [] (by simp) (by simp),by simp,by simp⟩,by simp,by simp[gi]⟩
 obtain⟨a,g,l,r,m⟩:=h.cells (λi j x s=>s6 (q i j x s).1) hS;exact⟨a,⟨e,λ_=>by simp[Builtin.lenOf],run_firstCells_some w c _ _ _ _ a g l,run_firstCells_some w.drew c _ _ _ _ a g (by simpa using l),g,r⟩,m⟩
def Ry{P:bl}{w:bF}{J:ai}{μ:Mem}{U:TypeId}(g:P.underlying U=S .string)(s:ByteArray): Src P w U (.string s) 1 (X (aC s.data.toList)) (Lib.strCells s)/\lU w J μ (aC s.data.toList) 1 (Lib.strCells s):=by
 have a:X (aC s.data.toList)=s.size:=by rw[bsize];simp[aC]
 refine⟨⟨⟨_,g,λk=>by simp⟩,λ_=>?_,?_,?_,?_,Lib.strCells_oneCell s⟩,?_,?_⟩;.rw[a];simp[Builtin.lenOf]
 .rw[a];exact Lib.run_firstCells_string w 1 s
 .rw[a];exact Lib.run_firstCells_string w.drew 1 s
 .rw[a,Lib.strCells_length];simp
 .intro r d;simp only[aC,cP]at d;obtain⟨c,_,rfl⟩:=d;rfl
 intro i j x f;obtain⟨r,e,b⟩:=jV f;simp only[aC,bP,aH]at e;obtain⟨c,h,rfl⟩:=e;cases j with|zero =>simp only[aG,aa]at b;subst b;refine⟨rfl,.int .u8 c.toNat,?_,.i _ _⟩;simp[Lib.strCells,h]|succ j=>simp at b
def lU.append{l:eJ}{c n:List Value}(h:lU L M R N Q c)(k:lU L M R l Q n)(o:X c=X N*Q):lU L M R (N++l) Q (c++n):=by
 refine⟨λr a=>?_,λi j x q=>?_⟩
 .rcases bJ.1 a with a|a;.exact h.1 r a
  exact k.1 r a
 obtain⟨r,f,m⟩:=jV q;by_cases p:i<X N
 .rw[bc p]at f;have b:gi N i j=S x:=by rw[sG f];exact m
  obtain⟨g,v,d,a⟩:=h.2 i j x b;exact⟨g,v,by rw[bc (ag.1 d).1];exact d,a⟩
 rw[bB (by omega)]at f;have b:gi l (i - X N) j=S x:=by rw[sG f];exact m
 obtain⟨g,v,d,a⟩:=k.2 _ j x b;refine⟨g,v,?_,a⟩;have e:i*Q+j=X c+((i - X N)*Q+j):=by
  rw[o];have:i*Q=X N*Q+(i - X N)*Q:=by rw[<- Nat.add_mul];congr 1;omega
  omega
 rw[e,bB (by omega)];simpa using d

/- A part of a proof; the claim's last text says of what. -/
import Derived.ChangeKeysEq
import Derived.Test.YtlakkaamfadipaaGreatDoorM7
set_option linter.all false
open Option renaming some->N,none->Y
open Bool renaming true->A,false->Z
open List renaming length->F

namespace Go.Pm
open Go Go.RowKit
variable{p:Bool}{k:IntKind}
def toList_data(s:ByteArray):s.toList=s.data.toList:=ByteArray.toList_eq s
def A6{x y:V}(h:cA 0 x y=N p):∃k a b,x=.i k a/\y=.i k b/\(a==b)=p:=by cases x<;>(try (simp[cA]at h;done));cases y<;>(try (simp[cA]at h;done));simp only[cA]at h;split at h<;>simp only[aa,reduceCtorEq]at h;rename_i c;subst c;exact⟨_,_,_,rfl,rfl,h⟩
def G0{d e:ao}(h:fu [0,0] d e=N p):∃k l a b g f,d=[.i k a,.i l b]/\e=[.i k g,.i l f]/\(a==g&&b==f)=p:=by
 match d,e with
 |[],_=>simp[fu]at h
 |_::_,[]=>simp[fu]at h
 |[x],y::e =>simp only[fu]at h;split at h<;>simp_all [fu]
 |x::x2::d,[y] =>simp only[fu]at h;split at h<;>simp_all [fu]
 |x::x2::d,y::y2::e =>
  cases d with
  |cons u d=>simp only[fu]at h;repeat' (split at h)<;>simp_all [fu]
  |nil=>cases e with
   |cons v e=>simp only[fu]at h;repeat' (split at h)<;>simp_all [fu]
   |nil =>simp only[fu]at h;split at h<;>simp only[aa,reduceCtorEq]at h;rename_i c q r j;split at j<;>simp only[aa,reduceCtorEq]at j;rename_i t w n m;simp only[aa]at m;obtain⟨k,a,g,rfl,rfl,s⟩:=A6 r;obtain⟨l,b,f,rfl,rfl,o⟩:=A6 n;exact⟨k,l,a,b,g,f,rfl,rfl,by rw[<- h,<- j,<- m,s,o,dM]⟩
def VR.pair{w:aT}{J:ag}{μ:Mem}{l:IntKind}{a b:Int}{v:Value}(h:VR w J μ (.agg [.i k a,.i l b]) v):v=.agg #[.int k a,.int l b]:=by obtain⟨f,rfl,g,c⟩:=h.iZ;have e:=(c 0 _ rfl).fE;have d:=(c 1 _ rfl).fE;obtain⟨l⟩:=f;match l,g with|[x,y],_=>simp at e d;rw[e,d]
def uD{P:aM}{w:aT}{K e:TypeId}(p:P.underlying K=N (.array 2 e))(m:P.underlying e=N (.int k))(q:P.cellsOf e=1)(c l:IntKind)(a b f d:Int): (Op.equal K (.agg #[.int c a,.int l b]) (.agg #[.int c f,.int l d])).run P w=.ok (a==f&&b==d) w:=by
 have o:∃i,P.info? e=N i:=by unfold Program.underlying at m;cases h:P.info? e with|none=>simp[h]at m|some i=>exact⟨i,rfl⟩
 obtain⟨i,o⟩:=o;have r:fO P e=N Z:=by simp[fO,m]
 have g:∀(x y:Value) (j:Nat) (z:Value),#[x,y][j]?=N z->(part e #[x,y] j).run P w=.ok z w:=by intro x y j z s;simp only[part,Sem.run_bind,kV r,Result.andThen_ok,aI,aQ,s];rfl
 have gen:∀n,(Op.equalIn (n+2) K (.agg #[.int c a,.int l b]) (.agg #[.int c f,.int l d])).run P w=.ok (a==f&&b==d) w:=by
  intro n;rw[run_equalIn_array w (n+1) _ _ p o,q];simp only[show List.range 2=[0,1]from rfl,Op.eqItems,Sem.run_bind,g (.int c a) (.int l b) 0 (.int c a) rfl,g (.int c a) (.int l b) 1 (.int l b) rfl,g (.int c f) (.int l d) 0 (.int c f) rfl,g (.int c f) (.int l d) 1 (.int l d) rfl,Result.andThen_ok,
   run_equalIn_int w n e c k _ _ m,run_equalIn_int w n e l k _ _ m,G8];cases(a==f)<;>cases h:(b==d)<;>simp[g (.int c a) (.int l b) 1 (.int l b) rfl,g (.int c f) (.int l d) 1 (.int l d) rfl,run_equalIn_int w n e l k b d m,h]
 exact gen 9998
section de
variable {P:aM} {o:Oper} {a:Act} {B:Nat} {w0 w:aT} {J:ag} {μ:Mem} {fr:ao} (hF:FR w J μ fr a)
include hF
theorem Xx{d:BinOp}{T L:TypeId}{x y:Operand}{C D:O}(E:o.op=.binOp d T x y L)(R:cO x=N C)(M:cO y=N D) {B:Prop} {z:V} (h:ba fr J (.bin d C D)=N (B,z)) (j:B):Yields P o a w J μ z:=by
 have l:=dp hF R;have g:=dp hF M;simp only[ba,gK]at h;split at h
 .rename_i k p I q r n;rw[r]at l;rw[n]at g;have S:=l.fE;have K:=g.fE;have c:∀v,(binOp d T (.int k p) (.int I q)).run P w=.ok v w->(execOp a.eval o).run P w=.ok (.value v) w:=by intro v t;simp only[execOp,E,S,K,eqGuard_at_int,pure_bind,Sem.run_bind,t,Result.andThen_ok,Sem.run_pure]
  split at h
  .simp only[aa,aB]at h;obtain⟨rfl,rfl⟩:=h;have f:¬q<0:=by omega
   exact .pure (c _ (by simp[binOp_shl,Op.shift,f])) (.i _ _)
  .simp only[aa,aB]at h;obtain⟨rfl,rfl⟩:=h;have f:¬q<0:=by omega
   exact .pure (c _ (by simp[binOp_shr,Op.shift,f])) (.i _ _)
  split at h
  .rename_i H;subst H;split at h<;>simp only[aa,aB,reduceCtorEq]at h<;>obtain⟨rfl,rfl⟩:=h;.exact .pure (c _ (by simp[binOp_add,Op.intArith])) (.i _ _)
   .exact .pure (c _ (by simp[binOp_sub,Op.intArith])) (.i _ _)
   .exact .pure (c _ (by simp[binOp_mul,Op.intArith])) (.i _ _)
   .exact .pure (c _ (by simp[binOp_quo,Op.intDiv,j])) (.i _ _)
   .exact .pure (c _ (by simp[binOp_rem,Op.intDiv,j])) (.i _ _)
   .exact .pure (c _ (by simp only[binOp_and,Op.intBits];rfl)) (.i _ _)
   .exact .pure (c _ (by simp only[binOp_or,Op.intBits];rfl)) (.i _ _)
   .exact .pure (c _ (by simp only[binOp_xor,Op.intBits];rfl)) (.i _ _)
   .exact .pure (c _ (by simp[binOp_eql])) (.b _)
   .exact .pure (c _ (by simp[binOp_neq])) (.b _)
   .exact .pure (c _ (by simp[binOp_lss])) (.b _)
   .exact .pure (c _ (by simp[binOp_leq])) (.b _)
   .exact .pure (c _ (by simp[binOp_gtr])) (.b _)
   exact .pure (c _ (by simp[binOp_geq])) (.b _)
  simp at h
 .rename_i p q r n;rw[r]at l;rw[n]at g;obtain⟨s,Q,rfl,U⟩:=l.mi;obtain⟨e,m,rfl,u⟩:=g.mi;have c:∀v,(Op.stringOp d s e).run P w=.ok v w->(execOp a.eval o).run P w=.ok (.value v) w:=by
   intro v t;have G:binOp d T (.string s) (.string e)=Op.stringOp d s e:=by cases d<;>rfl
   simp only[execOp,E,Q,m,eqGuard_at_string,pure_bind,G,Sem.run_bind,t,Result.andThen_ok,Sem.run_pure]
  split at h<;>simp only[aa,aB,reduceCtorEq]at h<;>obtain⟨rfl,rfl⟩:=h
  .refine .pure (v:=.string (s++e)) (c _ ?_) (.s _ _ ?_ ?_)
   .have f:¬(s.size+e.size > 9223372036854775807):=by rw[bsize,bsize];unfold maxLen at j;omega
    rw[run_string_add_if,au f]
   .simp[ByteArray.data_append]
   rw[ai];exact j
  .exact .pure (c _ (by simp[Op.stringOp,toList_data])) (.b _)
  .exact .pure (c _ (by simp[Op.stringOp,toList_data])) (.b _)
  .exact .pure (c _ (by simp[Op.stringOp,toList_data])) (.b _)
  .exact .pure (c _ (by simp[Op.stringOp,toList_data])) (.b _)
  .exact .pure (c _ (by simp[Op.stringOp,toList_data])) (.b _)
  exact .pure (c _ (by simp[Op.stringOp,toList_data])) (.b _)
 simp at h
theorem abk{c:BinOp}{T n:TypeId}{x y:Operand}{k j:O}(d:o.op=.binOp c T x y n)(u:yp c=A)(hT:P.underlying T=N .bool)(s:cO x=N k)(r:cO y=N j) {B:Prop} {z:V} (h:ba fr J (.Yd (M9 c) k j)=N (B,z)):Yields P o a w J μ z:=by
 have i:=dp hF s;have e:=dp hF r;simp only[ba]at h;split at h
 .rename_i p q m t;rw[m]at i;rw[t]at e;have f:=i.oR;have l:=e.oR;simp only[aa,aB]at h;obtain⟨rfl,rfl⟩:=h;have g:=run_equal_bool (P:=P) (w:=w) T p q hT;cases c<;>simp only[yp,aI]at u;.refine .pure (v:=.bool (p==q)) ?_ (.b _);simp only[execOp,d,f,l,eqGuard_at_bool,pure_bind,Sem.run_bind,binOp,g,Result.andThen_ok,Sem.run_pure]
  refine .pure (v:=.bool (!(p==q))) ?_ (.b _);simp only[execOp,d,f,l,eqGuard_at_bool,pure_bind,Sem.run_bind,binOp,g,Result.andThen_ok,Sem.run_pure]
 simp at h
omit hF in
theorem rm:∀(t:List Field) (l:cy) (n:Nat) (g h:ao) (e c:Array Value) (r:Bool) (d:Nat),kp P n t=N l ->(∀j x,g[j]?=N x->VR w J μ x (e.getD (n+j) undef))->(∀j x,h[j]?=N x->VR w J μ x (c.getD (n+j) undef))->e.size=n+F g->c.size=n+F h->fu l g h=N r ->(Op.eqFields (d+1) e c t).run P w=.ok r w
 |[],l,n,g,h,e,c,r,d,hf,_,_,_,_,hc=>by
  simp only[kp,aa]at hf;subst hf;cases g with
  |nil=>cases h with
   |nil=>simp only[fu,aa]at hc;subst hc;rfl
   |cons y h=>simp[fu]at hc
  |cons x g=>simp[fu]at hc
 |f::t,l,n,g,h,e,c,r,d,hf,xB,Aw,hus,wI,hc=>by
  simp only[kp]at hf;split at hf
  .rename_i E;obtain⟨E,W⟩:=E;have T:∃k a,l=k::a/\kp P (n+1) t=N a/\fO P f.type=N Z /\
     ∀x y u v p,cA k x y=N p->VR w J μ x u->VR w J μ y v->(Op.equalIn (d+1) f.type u v).run P w=.ok p w:=by
    split at hf<;>simp only[aa,reduceCtorEq]at hf;.rename_i k a i o;refine⟨0,a,hf.symm,o,by simp[fO,i],λx y u v p b B m=>?_⟩;cases x<;>(try (simp[cA]at b;done));cases y<;>(try (simp[cA]at b;done));simp only[cA]at b;split at b<;>simp only[aa,reduceCtorEq]at b;rename_i V;subst V;subst b;rw[B.fE,m.fE];exact run_equalIn_int w d f.type _ k _ _ i
    .rename_i a i o;refine⟨1,a,hf.symm,o,by simp[fO,i],λx y u v p b B m=>?_⟩;cases x<;>(try (simp[cA]at b;done));cases y<;>(try (simp[cA]at b;done));simp only[cA,aa]at b;subst b;obtain⟨s,rfl,rfl,_⟩:=B.mi;obtain⟨R,rfl,rfl,_⟩:=m.mi;rw[run_equalIn_string w d f.type s R i,toList_data,toList_data]
    rename_i a i o;refine⟨2,a,hf.symm,o,by simp[fO,i],λx y u v p b B m=>?_⟩;cases x<;>(try (simp[cA]at b;done));cases y<;>(try (simp[cA]at b;done));simp only[cA,aa]at b;subst b;rw[B.oR,m.oR];exact run_equalIn_bool' w d f.type _ _ i
   obtain⟨k,a,rfl,S,Q,I⟩:=T;cases g with
   |nil=>simp[fu]at hc
   |cons x g =>
   cases h with
   |nil=>simp[fu]at hc
   |cons y h =>
   simp only[fu]at hc;split at hc<;>simp only[aa,reduceCtorEq]at hc;rename_i p q b U;have C:=xB 0 x rfl;have D:=Aw 0 y rfl;simp only[dQ]at C D;have G:n<e.size:=by simp at hus;omega
   have O:n<c.size:=by simp at wI;omega
   have H:(part f.type e f.offset).run P w=.ok (e.getD n undef) w:=by simp only[part,Sem.run_bind,kV Q,Result.andThen_ok,aI,aQ,E];rw[show e[n]?=N (e.getD n undef)by simp[G]];rfl
   have K:(part f.type c f.offset).run P w=.ok (c.getD n undef) w:=by simp only[part,Sem.run_bind,kV Q,Result.andThen_ok,aI,aQ,E];rw[show c[n]?=N (c.getD n undef)by simp[O]];rfl
   have L:=I x y _ _ p b C D;have ih:=rm t a (n+1) g h e c q d S
    (λj z M=>by have:=xB (j+1) z M;rwa [show n+(j+1)=n+1+j by omega]at this)
    (λj z M=>by have:=Aw (j+1) z M;rwa [show n+(j+1)=n+1+j by omega]at this)
    (by simp at hus;omega) (by simp at wI;omega) U;subst hc;simp only[Op.eqFields,fJ,W,dG,aU,Sem.run_bind,H,K,Result.andThen_ok,L];cases p;.simp
   simp[ih]
  simp at hf
theorem abj{c:BinOp}{T yT:TypeId}{C:cy}{x y:Operand}{M L:O}(t:o.op=.binOp c T x y yT)(K:yp c=A)(hT:LH P T=N C)(hx:cO x=N M)(hy:cO y=N L) {ob:Prop} {z:V} (h:ba fr J (.beq (M9 c) C M L)=N (ob,z)):Yields P o a w J μ z:=by
 have s:=dp hF hx;have n:=dp hF hy;unfold LH at hT;split at hT
 .rename_i S u;split at hT
  .rename_i m;simp only[ba]at h;split at h
   .rename_i R W G D;rw[G]at s;rw[D]at n;obtain⟨B,i,l1,v1⟩:=s.iZ;obtain⟨p,g,l2,v2⟩:=n.iZ;split at h
    .rename_i r H;simp only[aa,aB]at h;obtain⟨rfl,rfl⟩:=h;have Q:P.fieldsOf T=S:=by simp[Program.fieldsOf,u]
     have d:(Op.equalIn 10000 T (.agg B) (.agg p)).run P w=.ok r w:=by rw[run_equalIn_struct w 9999 T B p (by rw[Q];exact u) m.1,Q];exact rm S.toList C 0 R W B p r 9998 hT (λj z E=>by simpa using v1 j z E) (λj z E=>by simpa using v2 j z E) (by omega) (by omega) H
     have f:=run_eqGuard_agg (P:=P) w c T x y B p m.2;cases c<;>simp only[yp,aI]at K;.refine .pure (v:=.bool r) ?_ (.b _);simp only[execOp,t,i,g,Sem.run_bind,f,Result.andThen_ok,run_eql_struct,d,Sem.run_pure]
     refine .pure (v:=.bool (!r)) ?_ (.b _);simp only[execOp,t,i,g,Sem.run_bind,f,Result.andThen_ok,run_neq_struct,d,Sem.run_pure]
    simp at h
   simp at h
  simp at hT
 .rename_i e u;split at hT
  .rename_i m;split at hT<;>simp only[aa,reduceCtorEq]at hT;rename_i q he;subst hT;simp only[ba]at h;split at h
   .rename_i R W G D;rw[G]at s;rw[D]at n;split at h
    .rename_i r H;simp only[aa,aB]at h;obtain⟨rfl,rfl⟩:=h;obtain⟨k,l,X,I,a2,U,rfl,rfl,Sv⟩:=G0 H;have i:=s.pair;have g:=n.pair;have d:=uD (P:=P) (w:=w) u he m.2 k l X I a2 U;rw[Sv]at d;have f:=run_eqGuard_agg (P:=P) w c T x y #[.int k X,.int l I] #[.int k a2,.int l U] m.1;cases c<;>simp only[yp,aI]at K;.refine .pure (v:=.bool r) ?_ (.b _);simp only[execOp,t,i,g,Sem.run_bind,f,Result.andThen_ok,binOp,d,Sem.run_pure]
     refine .pure (v:=.bool (!r)) ?_ (.b _);simp only[execOp,t,i,g,Sem.run_bind,f,Result.andThen_ok,binOp,d,Sem.run_pure]
    simp at h
   simp at h
  simp at hT
 simp at hT
end de
variable{X:Mem}{U:Nat}{K:V}{R:Value}{L:aM}{S H:aT}{T:ag}{M:ao}{Q:cD}
def CR(w:aT)(J:ag)(μ:Mem)(xs:ao)(a:Array Value):Prop:=F xs=a.size/\∀i x,xs[i]?=N x->VR w J μ x (a.getD i undef)
def VR.nE{w:aT}{J:ag}{μ:Mem}{x:V}{v:Value}(h:VR w J μ x v)(s:bP):VR w J μ (nE s x) v:=by
 unfold Pm.nE;split;.rw[h.nz];exact .Dh _
 .rcases h.pL with⟨rfl,rfl⟩|⟨b,o,f,rfl,c,a⟩;.exact .Dh _
  exact .sl _ _ b o _ f (ax _) c a.1 a.2.1 a.2.2
 exact h
def CR.cZ{w:aT}{J:ag}{μ:Mem}:∀(b:List (bP)) {xs:ao} {a:Array Value},CR w J μ xs a->CR w J μ (cZ b xs) a:=by
 have d:∀(b:List (bP)) (xs:ao) (n:Nat) (a:Array Value),(∀i x,xs[i]?=N x->VR w J μ x (a.getD (n+i) undef)) ->F (Pm.cZ b xs)=F xs/\∀i x,(Pm.cZ b xs)[i]?=N x->VR w J μ x (a.getD (n+i) undef):=by
  intro b;induction b with
  |nil=>intro xs n a h;simpa[Pm.cZ]using h
  |cons s b ih =>
  intro xs n a h;cases xs with
  |nil=>simp[Pm.cZ]
  |cons x xs =>have f:=ih xs (n+1) a (λi y c=>by have:=h (i+1) y c;rwa [show n+(i+1)=n+1+i by omega]at this);refine⟨by simp[Pm.cZ,f.1],λi y c=>?_⟩;cases i with|zero =>simp only[Pm.cZ,aH,aa]at c;subst c;exact(h 0 x rfl).nE s|succ i =>simp only[Pm.cZ,bS]at c;have:=f.2 i y c;rwa [show n+1+i=n+(i+1)by omega]at this
 intro b xs a h;have:=d b xs 0 a (λi x e=>by simpa using h.2 i x e);exact⟨this.1.trans h.1,λi x e=>by simpa using this.2 i x e⟩
def oY(hS:gU L U S H T X)(h:VR H T X K R)(e:gA T K=A):R.oneCell'=A/\R.cells=#[R]:=by
 have d:∀a n c,(Value.slice a n c).oneCell'=A/\(Value.slice a n c).cells=#[.slice a n c]:=λ_ _ _=>⟨rfl,rfl⟩;cases h with
 |u R=>simp[gA]at e
 |own id g R o h =>
  simp only[gA]at e;split at e;.rename_i E t l s r p j;simp only[b9]at e;subst e;rw[(h _ _ _ _ _ _ j).2 rfl];rcases(hS.rowAt j).2.2 with⟨f,_⟩|⟨b,k,m,f,_⟩<;>rw[f]<;>exact d _ _ _
  simp at e
 |sub id g B v R o h =>
  simp only[gA]at e;split at e;.rename_i E t l s r p j;simp only[b9]at e;subst e;rw[((h _ _ _ _ _ _ j).2 rfl).2.2];rcases(hS.rowAt j).2.2 with⟨f,_⟩|⟨b,k,m,f,_⟩<;>rw[f]<;>exact d _ _ _
  simp at e
 |rp id g i x R o h =>
  simp only[gA]at e;split at e
  .rename_i E t l s r p j;simp only[b9]at e;subst e;obtain⟨v,q⟩:=(h _ _ _ _ _ _ j).2 rfl;rw[q];rcases(hS.rowAt j).2.2 with⟨_,z⟩|⟨b,k,m,f,_⟩;.subst z;simp at v
   rw[f];exact⟨rfl,rfl⟩
  simp at e
 |agg p w y q=>simp[gA]at e
 |gy p w y q=>simp[gA]at e
 |it id R h f=>simp[gA]at e
 |sy id n b h f=>simp[gA]at e
 |_=>exact⟨rfl,rfl⟩
def lC(hS:gU L U S H T X)(h:VR H T X K R)(e:gD T K=A): CR H T X (fH K) R.cells/\∀u∈R.cells,u.oneCell'=A:=by
 by_cases o:∃c,K=.agg c
 .obtain⟨c,rfl⟩:=o;obtain⟨g,rfl,k,n⟩:=h.iZ;refine⟨⟨k,n⟩,λu d=>?_⟩;obtain⟨i,l,rfl⟩:=Array.mem_iff_getElem.1 d;simp only[gD,cv]at e;have a:i<F c:=by rw[k];exact l
  have j:=n i c[i] (an a);have b:=(oY hS j (e _ (cS a))).1;have p:i<g.size:=l;have q:g.getD i undef=g[i]:=by simp[p]
  rw[q]at b;exact b
 have m:gD T K=gA T K/\fH K=[K]:=by cases K<;>first|exact⟨rfl,rfl⟩|exact absurd ⟨_,rfl⟩ o
 rw[m.1]at e;obtain⟨j,b⟩:=oY hS h e;rw[m.2,b];refine⟨⟨rfl,λi y f=>?_⟩,λu d=>by simp only[Array.mem_singleton]at d;subst d;exact j⟩;cases i with|zero=>simp only[aH,aa]at f;subst f;simpa using h|succ i=>simp at f
def uP:∀(l:List Value) (k a:Nat) (cells:Array Value),a+k+F l<=cells.size ->((l.zipIdx k).foldl (λ(c:Array Value) (p:Value×Nat)=>c.setIfInBounds (a+p.2) p.1) cells).size=cells.size /\∀i,((l.zipIdx k).foldl (λ(c:Array Value) (p:Value×Nat)=>c.setIfInBounds (a+p.2) p.1) cells).getD i undef =if a+k<=i/\i<a+k+F l then l.getD (i - (a+k)) undef else cells.getD i undef
 |[],k,a,cells,_=>by simp;intro i d b;omega
 |v::l,k,a,cells,h=>by
  simp only[ah]at h;have ih:=uP l (k+1) a (cells.setIfInBounds (a+k) v) (by simp;omega);simp only[List.zipIdx_cons,dK];refine⟨by rw[ih.1];simp,λi=>?_⟩;rw[ih.2 i];by_cases d:a+(k+1)<=i/\i<a+(k+1)+F l
  .rw[aK d,aK (by simp only[ah];omega)];have:i - (a+k)=(i - (a+(k+1)))+1:=by omega
   rw[this];simp
  rw[au d];by_cases b:i=a+k;.subst b;rw[aK (by simp only[ah];omega)];simp[show a+k<cells.size by omega]
  rw[au (by simp only[ah];omega)];simp only[bJ];rw[cT (λh=>b h.symm)]
def CR.fill{b:ao}{cells e:Array Value}(h:CR S T X M cells)(l:CR S T X b e)(a:Nat)(m:a+F b<=F M): CR S T X (M.take a++b++M.drop (a+F b)) (e.zipIdx.foldl (λg (c,j)=>g.setIfInBounds (a+j) c) cells):=by
 have f:=uP e.toList 0 a cells (by rw[aW,<- l.1,<- h.1];simpa using m);have o:e.zipIdx.foldl (λg (c,j)=>g.setIfInBounds (a+j) c) cells=(e.toList.zipIdx 0).foldl (λ(g:Array Value) (p:Value×Nat)=>g.setIfInBounds (a+p.2) p.1) cells:=by rw[<- Array.foldl_toList,Array.toList_zipIdx]
 rw[o];refine⟨?_,λi x d=>?_⟩;.rw[f.1,<- h.1];simp;omega
 rw[f.2 i];simp only[dQ,aW];rw[<- l.1];by_cases q:i<a;.rw[au (by omega)];rw[aS,aj (by simp;omega),bF q]at d;exact h.2 i x d
 by_cases r:i<a+F b
 .rw[aK (by omega)];rw[aj (by simp;omega),aD (by simp;omega)]at d;have k:F (M.take a)=a:=by simp;omega
  rw[k]at d;have:=l.2 _ x d;simpa using this
 rw[au (by omega)];have k:F (M.take a++b)=a+F b:=by simp;omega
 rw[aD (by omega),k,dV]at d;have n:a+F b+(i - (a+F b))=i:=by omega
 rw[n]at d;exact h.2 i x d
def AE{w:aT}{J:ag}{μ:Mem}(place:Nat->Option (Nat×Nat)):∀(parts:List (Nat×Value)) (b:List (Nat×Nat×ao)) (e d:ao) (cells:Array Value),CR w J μ e cells->uS e b=N d->F b=F parts->(∀(k:Nat) (p:Nat×Value) (q:Nat×Nat×ao),parts[k]?=N p->b[k]?=N q->place p.1=N (q.1,q.2.1)/\CR w J μ q.2.2 p.2.cells) ->∃a,Instr.fill place cells parts=N a/\CR w J μ d a
 |[],b,e,d,cells,h,hf,hl,_=>by have:b=[]:=aL hl;subst this;simp only[uS,aa]at hf;subst hf;exact⟨cells,rfl,h⟩
 |(i,v)::parts,b,e,d,cells,h,hf,hl,hp=>by
  cases b with
  |nil=>simp at hl
  |cons q b =>
  obtain⟨c,l,f⟩:=q;have j:=hp 0 (i,v) (c,l,f) rfl rfl;simp only[uS]at hf;split at hf
  .rename_i y;obtain⟨rfl,n⟩:=y;have g:=j.2;have r:v.cells.size=F f:=g.1.symm;have s:=h.fill g c n;obtain⟨a,x,m⟩:=AE place parts b _ d _ s hf (by simpa using hl) (λk p q o u=>hp (k+1) p q o u);refine⟨a,?_,m⟩;simp only[Instr.fill,j.1];have t:(decide (v.cells.size≠F f)||decide (c+v.cells.size > cells.size))=Z:=by rw[r,<- h.1];simp;omega
   simp only[t,aI,aQ];exact x
  simp at hf
def Cu{w:aT}{J:ag}{μ:Mem}:∀(l:List Value) (zs:ao),jr l=N zs->F zs=F l/\∀(i:Nat) (x:V),zs[i]?=N x->VR w J μ x (l.getD i undef)
 |[],zs,h=>by simp only[jr,aa]at h;subst h;simp
 |v::l,zs,h=>by simp only[jr]at h;split at h<;>simp only[aa,reduceCtorEq]at h;rename_i y d c f;subst h;obtain⟨e,b⟩:=Cu l d f;refine⟨by simp[e],λi x a=>?_⟩;cases i with|zero=>simp only[aH,aa]at a;subst a;exact yD c|succ i=>simpa using b i x a
def lS{w:aT}{J:ag}{μ:Mem}{cs:Array Value}{zs:ao}(h:jr cs.toList=N zs):CR w J μ zs cs:=by obtain⟨b,a⟩:=Cu (w:=w) (J:=J) (μ:=μ) _ _ h;refine⟨by simpa using b,λi x c=>?_⟩;have:=a i x c;simpa[aq]using this
def CR.QW{a:Array Value}(h:CR S T X M a):VR S T X (.agg M) (.agg a):=.agg M a h.1 h.2
def LG(b:∀r∈Q,F r=U):∀{i j:Nat} {x:V},gp Q i j=N x->Q.flatten[i*U+j]?=N x:=by
 induction Q with
 |nil=>intro i j x h;simp[gp]at h
 |cons r Q ih =>
 intro i j x h;have a:=b r (by simp);cases i with
 |zero =>simp only[gp,aH,iV]at h;have d:j<F r:=(ab.1 h).1;rw[Qq,Nat.zero_mul,bq,aj d,h]
 |succ i =>
 have c:gp Q i j=N x:=by simpa[gp]using h
 have:=ih (λr a=>b r (by simp[a])) c;rw[Qq,aD (by rw[a,cN];omega),a];have e:(i+1)*U+j - U=i*U+j:=by rw[cN];omega
 rw[e,this]
def Jk(a:∀r∈Q,F r=U):Q.flatten.length=F Q*U:=by induction Q with|nil=>simp|cons r Q ih=>rw[Qq,ai,a r (by simp),ih (λr b=>a r (by simp[b])),ah,cN];omega
def Cl(c:Nat):∀(b:cD) (pre:ao) (k:Nat) (a:ao),(∀r∈b,F r=c)->F pre=k*c->F a=F b*c ->uS (pre++a) ((b.zipIdx k).map λ(r,i)=>(i*c,c,r))=N (pre++b.flatten)
 |[],pre,k,a,_,_,ht=>by have:a=[]:=aL (by simpa using ht);subst this;simp[uS]
 |r::b,pre,k,a,hr,hp,ht=>by
  have d:=hr r (by simp);have h:c<=F a:=by rw[ht,ah,cN];omega
  simp only[List.zipIdx_cons,aC,uS];rw[aK ⟨d,by rw[ai,hp];omega⟩];have e:(pre++a).take (k*c)=pre:=by rw[<- hp];exact nu
  have f:(pre++a).drop (k*c+c)=a.drop c:=by rw[<- hp,List.drop_append];simp
  rw[e,f];have ih:=Cl c b (pre++r) (k+1) (a.drop c) (λx g=>hr x (by simp[g])) (by rw[ai,hp,d,cN];omega) (by rw[bY,ht,ah,cN];omega);rw[ih];simp
section de
variable {P:aM} {o:Oper} {a:Act} {B:Nat} {w0 w:aT} {J:ag} {μ:Mem} {fr:ao} (hF:FR w J μ fr a) (hS:gU P B w0 w J μ)
include hF hS
theorem yH{places:List (Nat×Nat)}:∀(parts:List (Nat×Operand)) (b:List (Nat×Nat×O)),tE places parts=N b->(∀p∈b,gD J (ev fr p.2.2)=A) ->F b=F parts/\∀(k:Nat) (p:Nat×Operand) (q:Nat×Nat×O),parts[k]?=N p->b[k]?=N q ->places[p.1]?=N (q.1,q.2.1)/\CR w J μ (fH (ev fr q.2.2)) (a.eval p.2).cells
 |[],b,h,_=>by simp only[tE,aa]at h;subst h;simp
 |(i,x)::r,b,h,jf=>by simp only[tE]at h;split at h<;>simp only[aa,reduceCtorEq]at h;rename_i d g y m f j o;subst h;obtain⟨n,l⟩:=yH r m o (λp c=>jf p (dw _ c));refine⟨by simp[n],λk p q c e=>?_⟩;cases k with|zero =>simp only[aH,aa]at c e;subst c;subst e;exact⟨f,(lC hS (dp hF j) (jf (d,g,y) ph)).1⟩|succ k=>exact l k p q (by simpa using c) (by simpa using e)
theorem UB{T:TypeId}{parts:Array (Nat×Operand)}{t:TypeInfo}{n:Array Field}{z:Value}{zs:ao}{places:List (Nat×Nat)}{c:List (Nat×Nat×O)}(M:o.op=.build T parts)(u:P.info? T=N t)(Q:P.underlying T=N (.struct n))(H:t.zero=N z) (S:jr z.cells.toList=N zs) (m:placesOf P n.toList=N places) (K:tE places parts.toList=N c) {l:Prop} {y:V} (h:ba fr J (.build zs c)=N (l,y)) (C:l):Yields P o a w J μ y:=by
 simp only[ba]at h;split at h;.rename_i E B;simp only[aa,aB]at h;obtain⟨rfl,rfl⟩:=h;obtain⟨G,s⟩:=yH hF hS parts.toList c K C;obtain⟨b,R,D⟩:=AE (w:=w) (J:=J) (μ:=μ) (λx=>places.toArray[x]?) (parts.toList.map λ(i,x)=>(i,a.eval x)) (c.map λ(g,L,x)=>(g,L,fH (ev fr x))) zs E z.cells (lS S) B (by simp[G]) (by intro k p q f e;rw[bu]at f e;simp only[al]at f e;obtain⟨U,d,rfl⟩:=f;obtain⟨W,j,rfl⟩:=e;obtain⟨I,X⟩:=s k U W d j;exact⟨by simpa using I,X⟩);refine .pure (v:=.agg b) ?_ D.QW;have r:=run_build (P:=P) w T (parts.map λ(i,x)=>(i,a.eval x)) b (by simp only[Program.built,u,Q,H,nO];unfold placesOf at m;simp only[m];exact R);simp only[execOp,M,Sem.run_bind,r,Result.andThen_ok,Sem.run_pure]
 simp at h
theorem QK{T E:TypeId}{n:Nat}{parts:Array (Nat×Operand)}{t te:TypeInfo}{z:Value}{zs:ao}{d:List (Nat×Nat×O)}(S:o.op=.build T parts)(C:P.info? T=N t)(U:P.underlying T=N (.array n E))(L:t.zero=N z)(g:P.info? E=N te) (nP:jr z.cells.toList=N zs) (M:tE ((List.range n).map λi=>(i*te.size,te.size)) parts.toList=N d) {r:Prop} {y:V} (h:ba fr J (.build zs d)=N (r,y)) (G:r):Yields P o a w J μ y:=by
 simp only[ba]at h;split at h
 .rename_i I D;simp only[aa,aB]at h;obtain⟨rfl,rfl⟩:=h;obtain⟨K,B⟩:=yH hF hS parts.toList d M G;obtain⟨b,W,H⟩:=AE (w:=w) (J:=J) (μ:=μ) (λi=>N (i*te.size,te.size)) (parts.toList.map λ(i,x)=>(i,a.eval x)) (d.map λ(l,Q,x)=>(l,Q,fH (ev fr x))) zs I z.cells (lS nP) D (by simp[K]) (by
   intro k p q j f;rw[bu]at j f;simp only[al]at j f;obtain⟨s,e,rfl⟩:=j;obtain⟨q',m,rfl⟩:=f;obtain⟨c,hc⟩:=B k s q' e m;rw[bu]at c;simp only[al]at c;obtain⟨i,X,c⟩:=c;have R:i=s.1:=by have:=(ab.1 X).2;simpa using this.symm
   subst R;exact⟨by rw[c],hc⟩);refine .pure (v:=.agg b) ?_ H.QW;have u:=run_build (P:=P) w T (parts.map λ(i,x)=>(i,a.eval x)) b (by simp only[Program.built,C,U,L,g,nO];exact W);simp only[execOp,S,Sem.run_bind,u,Result.andThen_ok,Sem.run_pure]
 simp at h
theorem EY:∀(parts:List (Nat×Operand)) (n:Nat) (b:List O),tD n parts=N b->(∀x∈b,gD J (ev fr x)=A) ->F b=F parts/\∀(k:Nat) (p:Nat×Operand) (x:O),parts[k]?=N p->b[k]?=N x->p.1=n+k/\CR w J μ (fH (ev fr x)) (a.eval p.2).cells
 |[],n,b,h,_=>by simp only[tD,aa]at h;subst h;simp
 |(i,x)::r,n,b,h,jf=>by
  simp only[tD]at h;split at h;.rename_i m;subst m;split at h<;>simp only[aa,reduceCtorEq]at h;rename_i y e f l;subst h;obtain⟨j,g⟩:=EY r _ e l (λp c=>jf p (dw _ c));refine⟨by simp[j],λk p q c d=>?_⟩;cases k with|zero =>simp only[aH,aa]at c d;subst c;subst d;exact⟨rfl,(lC hS (dp hF f) (jf y ph)).1⟩|succ k =>have:=g k p q (by simpa using c) (by simpa using d);exact⟨by omega,this.2⟩
  simp at h
theorem CF{T E:TypeId}{len:Nat}{parts:Array (Nat×Operand)}{t:TypeInfo}{z:Value}{e:List O}{d:List (bP)}(ho:o.op=.buildSlice T len parts)(hT:P.underlying T=N (.slice E))(M:P.info? E=N t)(X:t.zero=N z) (Q:parts.size=len) (gv:0<t.size) (Qw:z.cells.size=t.size) (Ws:len*t.size<=2^24) (mD:tD 0 parts.toList=N e) (jf:∀x∈e,gD J (ev fr x)=A) (B:∀r∈e.map λx=>cZ d (fH (ev fr x)),F r=t.size) : ∃b:Array Value,(execOp a.eval o).run P w=.ok (.value (.slice (N ⟨w.heap.size,0,Y⟩) len len)) (w.alloc (.cells b E))/\F (e.map λx=>cZ d (fH (ev fr x)))=len/\b.size=len*t.size /\∀i j x,gp (e.map λx=>cZ d (fH (ev fr x))) i j=N x->i*t.size+j<b.size/\VR w J μ x (b.getD (i*t.size+j) undef):=by
 obtain⟨W,U⟩:=EY hF hS parts.toList 0 e mD jf;have l:F e=len:=by rw[W];simpa using Q
 generalize g:(e.map λx=>cZ d (fH (ev fr x)))=rows at B |-;have v:F rows=len:=by rw[<- g];simp[l]
 let f:Array Value:=if len*t.size=0 then #[]else z.cells;let c:Array Value:=(Array.range (len*t.size)).map (f[· % f.size]!);have S6:CR w J μ (List.replicate (len*t.size) V.u) c:=by
  refine⟨by simp[c],λi x n=>?_⟩;have:x=.u:=(ab.1 n).2▸by simp
  subst this;exact .u _
 have R:=Cl t.size rows [] 0 (List.replicate (len*t.size) V.u) B (by simp) (by simp[v]);simp only[bg]at R;obtain⟨b,y,G⟩:=AE (w:=w) (J:=J) (μ:=μ) (λi=>N (i*t.size,t.size)) (parts.toList.map λ(i,x)=>(i,a.eval x)) _ _ _ c S6 R (by simp[v,Q]) (by intro k p q H D;rw[bu]at H;simp only[al]at H;obtain⟨p',C,rfl⟩:=H;rw[bu,List.getElem?_zipIdx]at D;simp only[Option.map_map,al]at D;obtain⟨r,I,rfl⟩:=D;rw[<- g,bu]at I;simp only[al]at I;obtain⟨x,n,rfl⟩:=I;obtain⟨s,hc⟩:=U k p' x C n;refine⟨?_,hc.cZ d⟩;simp[s]);have S:(execOp a.eval o).run P w=.ok (.value (.slice (N ⟨w.heap.size,0,Y⟩) len len)) (w.alloc (.cells b E)):=by
  have ac:¬(16777216<len*t.size):=by omega
  simp only[execOp,ho,Instr.buildSlice,Sem.run_bind,run_underlying hT,Result.andThen_ok,sizeOf,typeInfo,run_program,M,Sem.run_pure];have L:¬(len*t.size > 2^24):=by omega
  simp only[L,aQ];by_cases h:len*t.size=0
  .have K:f=#[]:=by simp[f,h]
   have s:c=(Array.range (len*t.size)).map ((#[]:Array Value)[· % (#[]:Array Value).size]!):=by simp only[c,K]
   simp only[h,aU,Sem.run_bind,Sem.run_pure,Result.andThen_ok];rw[s,h]at y;simp only[nO,y];simp[newRow]
  have K:f=z.cells:=by simp[f,h]
  have s:c=(Array.range (len*t.size)).map (z.cells[· % z.cells.size]!):=by simp only[c,K]
  simp only[h,aQ,zeroValue,typeInfo,Sem.run_bind,run_program,M,Result.andThen_ok,Sem.run_pure,X];rw[s]at y;simp only[nO,y];simp[newRow]
 refine⟨b,S,v,?_,λi j x n=>?_⟩;.rw[<- G.1];simp[Jk B,v]
 have m:=LG B n;exact⟨by rw[<- G.1];exact(ab.1 m).1,G.2 _ x m⟩
theorem QL{T E:TypeId}{len:Nat}{parts:Array (Nat×Operand)}{t:TypeInfo}{z:Value}{l:List O}{d:List (bP)}(M:o.op=.buildSlice T len parts)(hT:P.underlying T=some (.slice E))(B:P.info? E=some t)(H:t.zero=some z) (S:parts.size=len) (p:0<t.size) (Qw:z.cells.size=t.size) (Ws:len*t.size<=2^24) (L:tD 0 parts.toList=some l) {f:Prop} {y:V} (h:ba fr J (.bN t.size d l)=some (f,y)) (C:f):Yields P o a w J μ y:=by
 simp only[ba,aa,aB]at h;obtain⟨rfl,rfl⟩:=h;obtain⟨R,g⟩:=C;obtain⟨b,u,k,mE,m⟩:=CF hF hS M hT B H S p Qw Ws L R (λr e=>(g r e).1);generalize v:(l.map λx=>cZ d (fH (ev fr x)))=rows at g k m |-;have Su:∀r∈rows,F r=t.size:=λr e=>(g r e).1;have q:w.grownBy (w.alloc (.cells b E)) Y:=World.grownBy_alloc w _ Y;obtain⟨Q,K⟩:=hS.grown q;refine⟨_,_,u,q,?_⟩;have n:∀i j x,gp rows i j=some x->(w.alloc (.cells b E)).cell? ⟨w.heap.size,0+i*t.size+j,Y⟩=some (b.getD (i*t.size+j) undef)/\VR w J μ x (b.getD (i*t.size+j) undef):=by intro i j x c;obtain⟨W,X⟩:=m i j x c;refine⟨?_,X⟩;rw[World.cell?_alloc_new,bq];simp[W]
 have:=VR.lit (w:=w.alloc (.cells b E)) (J:=J) (μ:=μ) t.size rows w.heap.size 0 (λi j=>b.getD (i*t.size+j) undef) (by rw[k];have:len<=len*t.size:=afR _ p;unfold maxLen;omega) Su (λi j x c=>⟨(n i j x c).1,λI=>?_,?_⟩) (λi j x c=>(n i j x c).2.mono K);.rwa [k]at this
 .obtain⟨id,f,G,U,D⟩:=I;have s:f≠.dead:=by rintro rfl;exact D
  exact absurd (hS.rQ G s U).2 (Nat.lt_irrefl _)
 obtain⟨r,e,hj⟩:=iD c;exact(g r (bc e)).2 x (bc hj)
end de
variable{T:Mem}{S K M:Nat}{L:V}{R:aM}{U Q:aT}{X:ag}
structure E7 (w:aT) (J:ag) (μ:Mem) (xs:cD) (sz:Nat) (v:Value):Prop where
 rows:∀r∈xs,r.length=sz
 len:xs.length<=maxLen
 here:(xs=[]/\∃a,v=.slice a 0 0)\/∃b off cap,v=.slice (some ⟨b,off,none⟩) xs.length cap /\
  ∀i j x,gp xs i j=some x->x.pure=true/\∃u,w.cell? ⟨b,off+i*sz+j,none⟩=some u/\VR w J μ x u
def pc.XC{a:cD}{o:Nat}{f:Nat->Nat->Value}(h:pc U X T a S K o f)(c:F a<=maxLen):E7 U X T a S (.slice (N ⟨K,o,Y⟩) (F a) M) :=⟨h.1,c,.inr ⟨K,o,M,rfl,λi j x b=>⟨(h.2.1 i j x b).2.2,f i j,(h.2.1 i j x b).1,h.2.2 i j x b⟩⟩⟩
def xT(hS:gU R S U Q X T){v:Value}(h:VR Q X T L v){sz:Nat}{xs:cD}(a:rowsOf X sz L=N xs):E7 Q X T xs sz v:=by
 unfold rowsOf at a;split at a;.simp only[aa]at a;subst a;exact⟨by simp,by simp,.inl ⟨rfl,_,h.nz⟩⟩
 .split at a<;>simp only[aa,reduceCtorEq]at a;rename_i u;subst u;subst a;rcases h.pL with⟨rfl,rfl⟩|⟨b,o,f,rfl,l,k⟩;.exact⟨by simp,by simp,.inl ⟨rfl,_,rfl⟩⟩
  exact k.XC l
 .split at a<;>simp only[aa,reduceCtorEq]at a;rename_i u;subst u;subst a;rcases h.BS with⟨rfl,_,rfl⟩|⟨b,o,e,f,rfl,t,l,k⟩;.exact⟨by simp,by simp,.inl ⟨rfl,_,rfl⟩⟩
  exact k.XC (bX t l)
 .rename_i id g;split at a
  .rename_i E c C K M m p;split at a<;>simp only[aa,reduceCtorEq]at a;rename_i B;obtain⟨rfl,rfl⟩:=B;subst a;have s:=h.kE p;obtain⟨_,z,k⟩:=hS.rowAt p;rcases k with⟨l,D⟩|⟨b,e,w,l,_,t,H,_,k⟩;.subst D;exact⟨by simp,by simp,.inl ⟨rfl,_,s.trans l⟩⟩
   exact⟨z,bX t H,.inr ⟨b,0,e,s.trans l,λi j L a=>by rw[bq];exact k i j L a⟩⟩
  simp at a
 .rename_i id g d q;split at a
  .rename_i E c C K M m p;split at a<;>simp only[aa,reduceCtorEq]at a;rename_i B;obtain⟨rfl,rfl⟩:=B;subst a;obtain⟨O,I,s⟩:=h.pJ p;obtain⟨_,z,k⟩:=hS.rowAt p;have n:∀r∈(m.drop d).take (q - d),F r=c:=λr k=>z r (eU (dv k));have x:F ((m.drop d).take (q - d))=q - d:=by simp;omega
   rcases k with⟨l,D⟩|⟨b,e,w,l,_,t,H,_,k⟩
   .subst D;refine⟨by simp,by simp,.inl ⟨by simp,Y,?_⟩⟩;simp only[az]at I;rw[s,l];have y:d=0:=by omega
    have J:q=0:=by omega
    subst y;subst J;rfl
   refine⟨n,by rw[x];omega,?_⟩;rw[s,l];by_cases G:e=d
   .have y:q - d=0:=by omega
    refine .inr ⟨b,0,e - d,?_,?_⟩;.rw[x];simp[lk,G]
    intro i j L a;rw[y]at a;simp[gp]at a
   refine .inr ⟨b,d*c,e - d,?_,?_⟩;.rw[x];simp[lk,G,Addr.add_lit]
   intro i j L a;have:=k _ _ _ (AJ a);rwa [show(d+i)*c+j=d*c+i*c+j by rw[cN]]at this
  simp at a
 simp at a
def E7.cells{J:ag}{μ:Mem}{xs:cD}{sz:Nat}{n:Nat}(h:E7 U J μ xs sz (.slice (N ⟨S,K,Y⟩) n M))(l:∀i j x,gp xs i j=N x->gA J x=A){B:Nat}(hS:gU R B Q U J μ): ∃b:List Value,F b=F xs*sz/\(∀(j:Nat) (u:Value),b[j]?=N u->U.cell? ((⟨S,K,Y⟩:Addr).add j)=N u)/\(∀u∈b,u.oneCell'=A)/\lp U J μ xs sz b:=by
 rcases h.here with⟨rfl,a,s⟩|⟨T,t,w,s,z⟩;.exact⟨[],by simp,by simp,by simp,by simp,by simp[gp]⟩
 simp only[Value.slice.injEq,aa,Addr.mk.injEq,lq]at s;obtain⟨⟨rfl,rfl⟩,rfl,rfl⟩:=s;have G:0<F xs*sz->0<sz:=λh=>afQ h;let f:Nat->Value:=λk=>(U.cell? ⟨S,K+k,Y⟩).getD undef;have g:∀k,k<F xs*sz->∃x,gp xs (k / sz) (k % sz)=N x/\x.pure=A/\U.cell? ⟨S,K+k,Y⟩=N (f k)/\VR U J μ x (f k):=by
  intro k g;have I:0<sz:=G (by omega);have q:k / sz<F xs:=nr (by rw[gE];exact g);obtain⟨x,l⟩:=Ei h.rows q (vB k I);obtain⟨o,u,c,d⟩:=z _ _ _ l;have e:K+k / sz*sz+k % sz=K+k:=by have:=Xv k sz;rw[gE]at this;omega
  rw[e]at c;have y:f k=u:=by simp[f,c]
  exact⟨x,l,o,by rw[y];exact c,by rw[y];exact d⟩
 refine⟨(List.range (F xs*sz)).map f,by simp,λj u m=>?_,λu D=>?_,h.rows,λi j x E=>?_⟩
 .rw[bu]at m;simp only[al]at m;obtain⟨k,p,rfl⟩:=m;have C:j<F xs*sz:=by have:=(ab.1 p).1;simpa using this
  have:k=j:=by rw[lh C]at p;simpa using p.symm
  subst this;rw[Addr.add_lit];obtain⟨_,_,_,c,_⟩:=g k C;exact c
 .simp only[br,dt]at D;obtain⟨k,P,rfl⟩:=D;obtain⟨x,q,_,_,d⟩:=g k P;exact(oY hS d (l _ _ _ q)).1
 obtain⟨o,u,c,d⟩:=z _ _ _ E;obtain⟨r,v,H⟩:=iD E;have L:i<F xs:=(ab.1 v).1;have m:j<sz:=by rw[<- h.rows r (bc v)];exact(ab.1 H).1
 have O:i*sz+j<F xs*sz:=by have:(i+1)*sz<=F xs*sz:=bL _ L;rw[cN]at this;omega
 refine⟨o,u,?_,d⟩;rw[bu,lh O];have:K+i*sz+j=K+(i*sz+j):=by omega
 rw[this]at c;simp[f,c]
def pB(h:L.pure=A):gA X L=A:=by cases L<;>simp_all [V.pure,gA]
def foldl_push(a:bG):∀(s:ByteArray),(a.foldl (λ(r:ByteArray) n=>r.push (UInt8.ofNat n.toNat)) s).data.toList=s.data.toList++a.map λn=>UInt8.ofNat n.toNat:=by induction a with|nil=>intro s;simp|cons n a ih=>intro s;rw[dK,ih];simp[ByteArray.push]
def xp:∀(c:cD) (l:aJ),bytesOf c=N l->∃a:bG,c=a.map (λn=>[V.i .u8 n])/\l=a.map λn=>UInt8.ofNat n.toNat|[],l,h=>by simp only[bytesOf,aa]at h;subst h;exact⟨[],rfl,rfl⟩|r::rs,l,h=>by simp only[bytesOf]at h;split at h<;>simp only[aa,reduceCtorEq]at h;rename_i x d b g;subst h;obtain⟨a,f,e⟩:=xp rs d g;unfold qV at b;split at b<;>simp only[aa,reduceCtorEq]at b;rename_i n;subst b;exact⟨n::a,by simp[f],by simp[e]⟩
section de
variable {P:aM} {o:Oper} {a:Act} {B:Nat} {w0 w:aT} {J:ag} {μ:Mem} {fr:ao} (hF:FR w J μ fr a) (hS:gU P B w0 w J μ)
include hF hS
theorem abl{s d e:TypeId}{x:Operand}{L:O}(M:o.op=.convert s d x)(D:P.underlying s=N (.slice e))(H:P.underlying e=N (.int .u8))(z:P.underlying d=N .string)(hx:cO x=N L) {ob:Prop} {y:V} (h:ba fr J (.G5 L)=N (ob,y)):Yields P o a w J μ y:=by
 have X:=dp hF hx;simp only[ba]at h;split at h
 .rename_i k xB;split at h
  .rename_i l hl;simp only[aa,aB]at h;obtain⟨_,rfl⟩:=h;have S:=xT hS X xB;obtain⟨c,t,Q⟩:=xp k l hl;have R:F l=F k:=by rw[Q,t];simp
   rcases S.here with⟨E,p,G⟩|⟨b,g,B,G,hr⟩
   .subst E;have:l=[]:=aL (by simpa using R);subst this;refine .pure (v:=.string ByteArray.empty) ?_ (.s _ _ rfl (by simp));have W:(convert s d (.slice p 0 0)).run P w=.ok (.string ByteArray.empty) w:=by cases p with|none=>exact run_convert_bytes_nil (P:=P) (w:=w) s e D H 0 0 d z|some p =>rw[run_convert_bytes_string w s d e _ _ _ D H z,run_bytesToString w p 0 0 [] (run_loadCells_list w p [] (by simp))];rfl
    simp only[execOp,M,G,Sem.run_bind,W,Result.andThen_ok,Sem.run_pure]
   have U:∀j,j<F k->w.cell? ((⟨b,g,Y⟩:Addr).add j)=N (.int .u8 (c.getD j 0)):=by
    intro j q;have m:j<F c:=by rw[t]at q;simpa using q
    have T:gp k j 0=N (.i .u8 c[j]):=by rw[t];simp[gp,m]
    obtain⟨_,u,I,h3⟩:=hr j 0 _ T;rw[h3.fE]at I;rw[Addr.add_lit];simpa[m]using I
   have C:=run_loadCells (P:=P) w ⟨b,g,Y⟩ (F k) (λj=>.int .u8 (c.getD j 0)) U;have f:(loadCells ⟨b,g,Y⟩ (F k)).run P w=.ok (c.map (Value.int .u8)).toArray w:=by
    rw[C];congr 2;apply jw;intro j;have K:F k=F c:=by rw[t];simp
    by_cases q:j<F c;.rw[bu,lh (by omega),bu,an q];simp[q]
    rw[bK (by simp;omega),bK (by simp;omega)]
   refine .pure (v:=.string (c.foldl (λr n=>r.push (UInt8.ofNat n.toNat)) ByteArray.empty)) ?_ (.s _ _ ?_ (by rw[R];exact S.len));.simp only[execOp,M,G,Sem.run_bind,run_convert_bytes_string w s d e _ _ _ D H z,run_bytesToString w ⟨b,g,Y⟩ (F k) B c f,Result.andThen_ok,Sem.run_pure]
   rw[foldl_push,Q];rfl
  simp at h
 simp at h
end de
end Go.Pm

/- A part of a proof; the claim's last text says of what. -/
import Derived.ChangeKeysEq
import Derived.Test.YtlakkaamfadipaaGreatDoorB3
set_option linter.all false

namespace Go.Pm
open Go Go.RowKit
def toList_data(s:ByteArray):s.toList=s.data.toList:=ByteArray.toList_eq s
def IE{x y:V}{p:Bool}(h:dD 0 x y=some p):∃k a b,x=.i k a/\y=.i k b/\(a==b)=p:=by
 cases x<;>(try (simp[dD]at h;done));cases y<;>(try (simp[dD]at h;done));simp only[dD]at h;split at h<;>simp only[ae,reduceCtorEq]at h;rename_i c;subst c;exact⟨_,_,_,rfl,rfl,h⟩
def O5{xs ys:aB}{r:Bool}(h:gC [0,0] xs ys=some r):∃k l a b d c,xs=[.i k a,.i l b]/\ys=[.i k d,.i l c]/\(a==d&&b==c)=r:=by
 match xs,ys with
 |[],_=>simp[gC]at h
 |_::_,[]=>simp[gC]at h
 |[x],y::ys =>
  simp only[gC]at h;split at h<;>simp_all [gC]
 |x::x2::xs,[y] =>
  simp only[gC]at h;split at h<;>simp_all [gC]
 |x::x2::xs,y::y2::ys =>
  cases xs with
  |cons s xs=>simp only[gC]at h;repeat' (split at h)<;>simp_all [gC]
  |nil=>cases ys with
   |cons t ys=>simp only[gC]at h;repeat' (split at h)<;>simp_all [gC]
   |nil =>
    simp only[gC]at h;split at h<;>simp only[ae,reduceCtorEq]at h;rename_i p q m e;split at e<;>simp only[ae,reduceCtorEq]at e;rename_i o u g f;simp only[ae]at f;obtain⟨k,a,d,rfl,rfl,n⟩:=IE m;obtain⟨l,b,c,rfl,rfl,j⟩:=IE g;exact⟨k,l,a,b,d,c,rfl,rfl,by rw[<- h,<- e,<- f,n,j,df]⟩
def VR.pair{w:bD}{J:ak}{μ:Mem}{k l:IntKind}{a b:Int}{v:Value}(h:VR w J μ (.agg [.i k a,.i l b]) v):v=.agg #[.int k a,.int l b]:=by
 obtain⟨f,rfl,g,c⟩:=h.mi;have e:=(c 0 _ rfl).iF;have d:=(c 1 _ rfl).iF;obtain⟨l⟩:=f
 match l,g with
 |[x,y],_=>simp at e d;rw[e,d]
def Cf{P:bo}{w:bD}{K e:TypeId}{q:IntKind}(o:P.underlying K=some (.array 2 e))(g:P.underlying e=some (.int q))(p:P.cellsOf e=1)(k l:IntKind)(a b d c:Int):
  (Op.equal K (.agg #[.int k a,.int l b]) (.agg #[.int k d,.int l c])).run P w=.ok (a==d&&b==c) w:=by
 have m:∃i,P.info? e=some i:=by
  unfold Program.underlying at g;cases h:P.info? e with
  |none=>simp[h]at g
  |some i=>exact⟨i,rfl⟩
 obtain⟨i,m⟩:=m;have r:jC P e=some false:=by simp[jC,g]
 have f:∀(x y:Value) (j:Nat) (z:Value),#[x,y][j]?=some z->(part e #[x,y] j).run P w=.ok z w:=by
  intro x y j z s;simp only[part,Sem.run_bind,pE r,Result.andThen_ok,aI,aS,s];rfl
 have gen:∀n,(Op.equalIn (n+2) K (.agg #[.int k a,.int l b]) (.agg #[.int k d,.int l c])).run P w=.ok (a==d&&b==c) w:=by
  intro n;rw[run_equalIn_array w (n+1) _ _ o m,p]
  simp only[show List.range 2=[0,1]from rfl,Op.eqItems,Sem.run_bind,f (.int k a) (.int l b) 0 (.int k a) rfl,f (.int k a) (.int l b) 1 (.int l b) rfl,f (.int k d) (.int l c) 0 (.int k d) rfl,f (.int k d) (.int l c) 1 (.int l c) rfl,Result.andThen_ok,
   run_equalIn_int w n e k q _ _ g,run_equalIn_int w n e l q _ _ g,Pc]
  cases(a==d)<;>cases h:(b==c)<;>simp[f (.int k a) (.int l b) 1 (.int l b) rfl,f (.int k d) (.int l c) 1 (.int l c) rfl,run_equalIn_int w n e l q b c g,h]
 exact gen 9998
section fa
variable {P:bo} {o:Oper} {a:Act} {B:Nat} {w0 w:bD} {J:ak} {μ:Mem} {fr:aB} (hF:FR w J μ fr a)
include hF
theorem afO{d:BinOp}{T I:TypeId}{x y:Operand}{C B:O}(D:o.op=.binOp d T x y I)(M:cO x=some C)(K:cO y=some B)
  {A:Prop} {z:V} (h:bT fr J (.bin d C B)=some (A,z)) (j:A):Yields P o a w J μ z:=by
 have l:=fu hF M;have g:=fu hF K;simp only[bT,kM]at h;split at h
 .rename_i k p G q r n;rw[r]at l;rw[n]at g;have N:=l.iF;have H:=g.iF
  have c:∀v,(binOp d T (.int k p) (.int G q)).run P w=.ok v w->(execOp a.eval o).run P w=.ok (.value v) w:=by
   intro v t;simp only[execOp,D,N,H,eqGuard_at_int,pure_bind,Sem.run_bind,t,Result.andThen_ok,Sem.run_pure]
  split at h
  .simp only[ae,aQ]at h;obtain⟨rfl,rfl⟩:=h;have f:¬q<0:=by omega
   exact .pure (c _ (by simp[binOp_shl,Op.shift,f])) (.i _ _)
  .simp only[ae,aQ]at h;obtain⟨rfl,rfl⟩:=h;have f:¬q<0:=by omega
   exact .pure (c _ (by simp[binOp_shr,Op.shift,f])) (.i _ _)
  .split at h
   .rename_i F;subst F;split at h<;>simp only[ae,aQ,reduceCtorEq]at h<;>obtain⟨rfl,rfl⟩:=h
    .exact .pure (c _ (by simp[binOp_add,Op.intArith])) (.i _ _)
    .exact .pure (c _ (by simp[binOp_sub,Op.intArith])) (.i _ _)
    .exact .pure (c _ (by simp[binOp_mul,Op.intArith])) (.i _ _)
    .exact .pure (c _ (by simp[binOp_quo,Op.intDiv,j])) (.i _ _)
    .exact .pure (c _ (by simp[binOp_rem,Op.intDiv,j])) (.i _ _)
    .exact .pure (c _ (by simp only[binOp_and,Op.intBits];rfl)) (.i _ _)
    .exact .pure (c _ (by simp only[binOp_or,Op.intBits];rfl)) (.i _ _)
    .exact .pure (c _ (by simp only[binOp_xor,Op.intBits];rfl)) (.i _ _)
    .exact .pure (c _ (by simp[binOp_eql])) (.b _)
    .exact .pure (c _ (by simp[binOp_neq])) (.b _)
    .exact .pure (c _ (by simp[binOp_lss])) (.b _)
    .exact .pure (c _ (by simp[binOp_leq])) (.b _)
    .exact .pure (c _ (by simp[binOp_gtr])) (.b _)
    .exact .pure (c _ (by simp[binOp_geq])) (.b _)
   .simp at h
 .rename_i p q r n;rw[r]at l;rw[n]at g;obtain⟨s,L,rfl,Q⟩:=l.qf;obtain⟨e,m,rfl,u⟩:=g.qf
  have c:∀v,(Op.stringOp d s e).run P w=.ok v w->(execOp a.eval o).run P w=.ok (.value v) w:=by
   intro v t;have E:binOp d T (.string s) (.string e)=Op.stringOp d s e:=by cases d<;>rfl
   simp only[execOp,D,L,m,eqGuard_at_string,pure_bind,E,Sem.run_bind,t,Result.andThen_ok,Sem.run_pure]
  split at h<;>simp only[ae,aQ,reduceCtorEq]at h<;>obtain⟨rfl,rfl⟩:=h
  .refine .pure (v:=.string (s++e)) (c _ ?_) (.s _ _ ?_ ?_)
   .have f:¬(s.size+e.size > 9223372036854775807):=by rw[bsize,bsize];unfold maxLen at j;omega
    rw[run_string_add_if,an f]
   .simp[ByteArray.data_append]
   .rw[aj];exact j
  .exact .pure (c _ (by simp[Op.stringOp,toList_data])) (.b _)
  .exact .pure (c _ (by simp[Op.stringOp,toList_data])) (.b _)
  .exact .pure (c _ (by simp[Op.stringOp,toList_data])) (.b _)
  .exact .pure (c _ (by simp[Op.stringOp,toList_data])) (.b _)
  .exact .pure (c _ (by simp[Op.stringOp,toList_data])) (.b _)
  .exact .pure (c _ (by simp[Op.stringOp,toList_data])) (.b _)
 .simp at h
theorem ajR{c:BinOp}{T n:TypeId}{x y:Operand}{k j:O}(d:o.op=.binOp c T x y n)(u:FY c=true)(hT:P.underlying T=some .bool)(s:cO x=some k)(r:cO y=some j)
  {A:Prop} {z:V} (h:bT fr J (.bbq (VD c) k j)=some (A,z)):Yields P o a w J μ z:=by
 have i:=fu hF s;have e:=fu hF r;simp only[bT]at h;split at h
 .rename_i p q m t;rw[m]at i;rw[t]at e;have f:=i.vE;have l:=e.vE;simp only[ae,aQ]at h;obtain⟨rfl,rfl⟩:=h;have g:=run_equal_bool (P:=P) (w:=w) T p q hT;cases c<;>simp only[FY,aI]at u
  .refine .pure (v:=.bool (p==q)) ?_ (.b _);simp only[execOp,d,f,l,eqGuard_at_bool,pure_bind,Sem.run_bind,binOp,g,Result.andThen_ok,Sem.run_pure]
  .refine .pure (v:=.bool (!(p==q))) ?_ (.b _);simp only[execOp,d,f,l,eqGuard_at_bool,pure_bind,Sem.run_bind,binOp,g,Result.andThen_ok,Sem.run_pure]
 .simp at h
omit hF in
theorem ze:∀(m:List Field) (h:dK) (n:Nat) (xs ys:aB) (e c:Array Value) (r:Bool) (d:Nat),ot P n m=some h ->
  (∀j x,xs[j]?=some x->VR w J μ x (e.getD (n+j) undef))->(∀j x,ys[j]?=some x->VR w J μ x (c.getD (n+j) undef))->e.size=n+xs.length->c.size=n+ys.length->gC h xs ys=some r ->
  (Op.eqFields (d+1) e c m).run P w=.ok r w
 |[],h,n,xs,ys,e,c,r,d,hf,_,_,_,_,hc=>by
  simp only[ot,ae]at hf;subst hf;cases xs with
  |nil=>cases ys with
   |nil=>simp only[gC,ae]at hc;subst hc;rfl
   |cons y ys=>simp[gC]at hc
  |cons x xs=>simp[gC]at hc
 |f::m,h,n,xs,ys,e,c,r,d,hf,BZ,GY,hus,Eu,hc=>by
  simp only[ot]at hf;split at hf
  .rename_i A;obtain⟨A,I⟩:=A
   have O:∃k a,h=k::a/\ot P (n+1) m=some a/\jC P f.type=some false /\
     ∀x y u v p,dD k x y=some p->VR w J μ x u->VR w J μ y v->(Op.equalIn (d+1) f.type u v).run P w=.ok p w:=by
    split at hf<;>simp only[ae,reduceCtorEq]at hf
    .rename_i k a g l;refine⟨0,a,hf.symm,l,by simp[jC,g],λx y u v p b o i=>?_⟩;cases x<;>(try (simp[dD]at b;done));cases y<;>(try (simp[dD]at b;done));simp only[dD]at b;split at b<;>simp only[ae,reduceCtorEq]at b;rename_i R;subst R;subst b;rw[o.iF,i.iF];exact run_equalIn_int w d f.type _ k _ _ g
    .rename_i a g l;refine⟨1,a,hf.symm,l,by simp[jC,g],λx y u v p b o i=>?_⟩;cases x<;>(try (simp[dD]at b;done));cases y<;>(try (simp[dD]at b;done));simp only[dD,ae]at b;subst b;obtain⟨s,rfl,rfl,_⟩:=o.qf;obtain⟨N,rfl,rfl,_⟩:=i.qf;rw[run_equalIn_string w d f.type s N g,toList_data,toList_data]
    .rename_i a g l;refine⟨2,a,hf.symm,l,by simp[jC,g],λx y u v p b o i=>?_⟩;cases x<;>(try (simp[dD]at b;done));cases y<;>(try (simp[dD]at b;done));simp only[dD,ae]at b;subst b;rw[o.vE,i.vE];exact run_equalIn_bool' w d f.type _ _ g
   obtain⟨k,a,rfl,H,L,K⟩:=O;cases xs with
   |nil=>simp[gC]at hc
   |cons x xs =>
    cases ys with
    |nil=>simp[gC]at hc
    |cons y ys =>
     simp only[gC]at hc;split at hc<;>simp only[ae,reduceCtorEq]at hc;rename_i p q b Q;have M:=BZ 0 x rfl;have t:=GY 0 y rfl;simp only[de]at M t;have B:n<e.size:=by simp at hus;omega
     have G:n<c.size:=by simp at Eu;omega
     have C:(part f.type e f.offset).run P w=.ok (e.getD n undef) w:=by
      simp only[part,Sem.run_bind,pE L,Result.andThen_ok,aI,aS,A];rw[show e[n]?=some (e.getD n undef)by simp[B]];rfl
     have D:(part f.type c f.offset).run P w=.ok (c.getD n undef) w:=by
      simp only[part,Sem.run_bind,pE L,Result.andThen_ok,aI,aS,A];rw[show c[n]?=some (c.getD n undef)by simp[G]];rfl
     have E:=K x y _ _ p b M t
     have ih:=ze m a (n+1) xs ys e c q d H
      (λj z F=>by have:=BZ (j+1) z F;rwa [show n+(j+1)=n+1+j by omega]at this)
      (λj z F=>by have:=GY (j+1) z F;rwa [show n+(j+1)=n+1+j by omega]at this)
      (by simp at hus;omega) (by simp at Eu;omega) Q
     subst hc;simp only[Op.eqFields,fc,I,cP,aT,Sem.run_bind,C,D,Result.andThen_ok,E];cases p
     .simp
     .simp[ih]
  .simp at hf
theorem ajQ{c:BinOp}{T Z:TypeId}{B:dK}{x y:Operand}{L K:O}(t:o.op=.binOp c T x y Z)(I:FY c=true)(hT:Ug P T=some B)(hx:cO x=some L)(hy:cO y=some K)
  {X:Prop} {z:V} (h:bT fr J (.beq (VD c) B L K)=some (X,z)):Yields P o a w J μ z:=by
 have s:=fu hF hx;have n:=fu hF hy;unfold Ug at hT;split at hT
 .rename_i Q u;split at hT
  .rename_i m;simp only[bT]at h;split at h
   .rename_i N S E C;rw[E]at s;rw[C]at n;obtain⟨A,i,l1,Y⟩:=s.mi;obtain⟨p,g,l2,v2⟩:=n.mi;split at h
    .rename_i r G;simp only[ae,aQ]at h;obtain⟨rfl,rfl⟩:=h;have M:P.fieldsOf T=Q:=by simp[Program.fieldsOf,u]
     have d:(Op.equalIn 10000 T (.agg A) (.agg p)).run P w=.ok r w:=by
      rw[run_equalIn_struct w 9999 T A p (by rw[M];exact u) m.1,M];exact ze Q.toList B 0 N S A p r 9998 hT (λj z D=>by simpa using Y j z D) (λj z D=>by simpa using v2 j z D) (by omega) (by omega) G
     have f:=run_eqGuard_agg (P:=P) w c T x y A p m.2;cases c<;>simp only[FY,aI]at I
     .refine .pure (v:=.bool r) ?_ (.b _);simp only[execOp,t,i,g,Sem.run_bind,f,Result.andThen_ok,run_eql_struct,d,Sem.run_pure]
     .refine .pure (v:=.bool (!r)) ?_ (.b _);simp only[execOp,t,i,g,Sem.run_bind,f,Result.andThen_ok,run_neq_struct,d,Sem.run_pure]
    .simp at h
   .simp at h
  .simp at hT
 .rename_i e u;split at hT
  .rename_i m;split at hT<;>simp only[ae,reduceCtorEq]at hT;rename_i q he;subst hT;simp only[bT]at h;split at h
   .rename_i N S E C;rw[E]at s;rw[C]at n;split at h
    .rename_i r G;simp only[ae,aQ]at h;obtain⟨rfl,rfl⟩:=h;obtain⟨k,l,U,H,W,R,rfl,rfl,F⟩:=O5 G
     .have i:=s.pair;have g:=n.pair;have d:=Cf (P:=P) (w:=w) u he m.2 k l U H W R;rw[F]at d;have f:=run_eqGuard_agg (P:=P) w c T x y #[.int k U,.int l H] #[.int k W,.int l R] m.1;cases c<;>simp only[FY,aI]at I
      .refine .pure (v:=.bool r) ?_ (.b _);simp only[execOp,t,i,g,Sem.run_bind,f,Result.andThen_ok,binOp,d,Sem.run_pure]
      .refine .pure (v:=.bool (!r)) ?_ (.b _);simp only[execOp,t,i,g,Sem.run_bind,f,Result.andThen_ok,binOp,d,Sem.run_pure]
    .simp at h
   .simp at h
  .simp at hT
 .simp at hT
end fa
def CR(w:bD)(J:ak)(μ:Mem)(xs:aB)(a:Array Value):Prop:=xs.length=a.size/\∀i x,xs[i]?=some x->VR w J μ x (a.getD i undef)
def VR.tJ{w:bD}{J:ak}{μ:Mem}{x:V}{v:Value}(h:VR w J μ x v)(s:cU):VR w J μ (tJ s x) v:=by
 unfold Pm.tJ;split
 .rw[h.tl];exact .K4 _
 .rcases h.wZ with⟨rfl,rfl⟩|⟨b,o,f,rfl,c,a⟩
  .exact .K4 _
  .exact .sl _ _ b o _ f (aD _) c a.1 a.2.1 a.2.2
 .exact h
def CR.eT{w:bD}{J:ak}{μ:Mem}:∀(b:List (cU)) {xs:aB} {a:Array Value},CR w J μ xs a->CR w J μ (eT b xs) a:=by
 have d:∀(b:List (cU)) (xs:aB) (n:Nat) (a:Array Value),(∀i x,xs[i]?=some x->VR w J μ x (a.getD (n+i) undef)) ->
   (Pm.eT b xs).length=xs.length/\∀i x,(Pm.eT b xs)[i]?=some x->VR w J μ x (a.getD (n+i) undef):=by
  intro b
  induction b with
  |nil=>intro xs n a h;simpa[Pm.eT]using h
  |cons s b ih =>
   intro xs n a h;cases xs with
   |nil=>simp[Pm.eT]
   |cons x xs =>
    have f:=ih xs (n+1) a (λi y c=>by have:=h (i+1) y c;rwa [show n+(i+1)=n+1+i by omega]at this);refine⟨by simp[Pm.eT,f.1],λi y c=>?_⟩;cases i with
    |zero =>
     simp only[Pm.eT,aM,ae]at c;subst c;exact(h 0 x rfl).tJ s
    |succ i =>
     simp only[Pm.eT,bX]at c;have:=f.2 i y c
     rwa [show n+1+i=n+(i+1)by omega]at this
 intro b xs a h;have:=d b xs 0 a (λi x e=>by simpa using h.2 i x e);exact⟨this.1.trans h.1,λi x e=>by simpa using this.2 i x e⟩
def vU{P:bo}{B:Nat}{w0 w:bD}{J:ak}{μ:Mem}(hS:lj P B w0 w J μ){x:V}{v:Value}(h:VR w J μ x v)(e:kq J x=true):v.oneCell'=true/\v.cells=#[v]:=by
 have d:∀a n c,(Value.slice a n c).oneCell'=true/\(Value.slice a n c).cells=#[.slice a n c]:=λ_ _ _=>⟨rfl,rfl⟩;cases h with
 |u v=>simp[kq]at e
 |own id g v o h =>
  simp only[kq]at e;split at e
  .rename_i E t l s r p j;simp only[cE]at e;subst e;rw[(h _ _ _ _ _ _ j).2 rfl];rcases(hS.rowAt j).2.2 with⟨f,_⟩|⟨b,k,m,f,_⟩<;>rw[f]<;>exact d _ _ _
  .simp at e
 |sub id g F y v o h =>
  simp only[kq]at e;split at e
  .rename_i E t l s r p j;simp only[cE]at e;subst e;rw[((h _ _ _ _ _ _ j).2 rfl).2.2];rcases(hS.rowAt j).2.2 with⟨f,_⟩|⟨b,k,m,f,_⟩<;>rw[f]<;>exact d _ _ _
  .simp at e
 |rp id g i A v o h =>
  simp only[kq]at e;split at e
  .rename_i E t l s r p j;simp only[cE]at e;subst e;obtain⟨y,q⟩:=(h _ _ _ _ _ _ j).2 rfl;rw[q];rcases(hS.rowAt j).2.2 with⟨_,D⟩|⟨b,k,m,f,_⟩
   .subst D;simp at y
   .rw[f];exact⟨rfl,rfl⟩
  .simp at e
 |agg p z C q=>simp[kq]at e
 |iQ p z C q=>simp[kq]at e
 |it id v h f=>simp[kq]at e
 |Af id n b h f=>simp[kq]at e
 |_=>exact⟨rfl,rfl⟩
def pZ{P:bo}{B:Nat}{w0 w:bD}{J:ak}{μ:Mem}(hS:lj P B w0 w J μ){x:V}{v:Value}(h:VR w J μ x v)(e:kt J x=true):
  CR w J μ (jw x) v.cells/\∀u∈v.cells,u.oneCell'=true:=by
 by_cases o:∃c,x=.agg c
 .obtain⟨c,rfl⟩:=o;obtain⟨g,rfl,k,n⟩:=h.mi;refine⟨⟨k,n⟩,λu d=>?_⟩;obtain⟨i,l,rfl⟩:=Array.mem_iff_getElem.1 d;simp only[kt,bY]at e;have a:i<c.length:=by rw[k];exact l
  have j:=n i c[i] (ax a);have b:=(vU hS j (e _ (dC a))).1;have q:i<g.size:=l;have p:g.getD i undef=g[i]:=by simp[q]
  rw[p]at b;exact b
 .have m:kt J x=kq J x/\jw x=[x]:=by
   cases x<;>first|exact⟨rfl,rfl⟩|exact absurd ⟨_,rfl⟩ o
  rw[m.1]at e;obtain⟨j,b⟩:=vU hS h e;rw[m.2,b];refine⟨⟨rfl,λi y f=>?_⟩,λu d=>by simp only[Array.mem_singleton]at d;subst d;exact j⟩;cases i with
  |zero=>simp only[aM,ae]at f;subst f;simpa using h
  |succ i=>simp at f
def Cq:∀(l:List Value) (k off:Nat) (cells:Array Value),off+k+l.length<=cells.size ->
  ((l.zipIdx k).foldl (λ(cs:Array Value) (p:Value×Nat)=>cs.setIfInBounds (off+p.2) p.1) cells).size=cells.size /\
  ∀i,((l.zipIdx k).foldl (λ(cs:Array Value) (p:Value×Nat)=>cs.setIfInBounds (off+p.2) p.1) cells).getD i undef =
   if off+k<=i/\i<off+k+l.length then l.getD (i - (off+k)) undef else cells.getD i undef
 |[],k,off,cells,_=>by simp;intro i b a;omega
 |v::l,k,off,cells,h=>by
  simp only[ai]at h;have ih:=Cq l (k+1) off (cells.setIfInBounds (off+k) v) (by simp;omega);simp only[List.zipIdx_cons,dW];refine⟨by rw[ih.1];simp,λi=>?_⟩;rw[ih.2 i]
  by_cases b:off+(k+1)<=i/\i<off+(k+1)+l.length
  .rw[az b,az (by simp only[ai];omega)];have:i - (off+k)=(i - (off+(k+1)))+1:=by omega
   rw[this];simp
  .rw[an b]
   by_cases a:i=off+k
   .subst a;rw[az (by simp only[ai];omega)];simp[show off+k<cells.size by omega]
   .rw[an (by simp only[ai];omega)];simp only[cx];rw[eH (λh=>a h.symm)]
def CR.fill{w:bD}{J:ak}{μ:Mem}{xs ys:aB}{cells d:Array Value}(h:CR w J μ xs cells)(f:CR w J μ ys d)(off:Nat)(g:off+ys.length<=xs.length):
  CR w J μ (xs.take off++ys++xs.drop (off+ys.length)) (d.zipIdx.foldl (λcs (c,j)=>cs.setIfInBounds (off+j) c) cells):=by
 have b:=Cq d.toList 0 off cells (by rw[bh,<- f.1,<- h.1];simpa using g)
 have l:d.zipIdx.foldl (λcs (c,j)=>cs.setIfInBounds (off+j) c) cells=(d.toList.zipIdx 0).foldl (λ(cs:Array Value) (p:Value×Nat)=>cs.setIfInBounds (off+p.2) p.1) cells:=by
  rw[<- Array.foldl_toList,Array.toList_zipIdx]
 rw[l];refine⟨?_,λi x a=>?_⟩
 .rw[b.1,<- h.1];simp;omega
 .rw[b.2 i];simp only[de,bh];rw[<- f.1]
  by_cases m:i<off
  .rw[an (by omega)];rw[bk,ay (by simp;omega),cz m]at a;exact h.2 i x a
  .by_cases n:i<off+ys.length
   .rw[az (by omega)];rw[ay (by simp;omega),aU (by simp;omega)]at a;have e:(xs.take off).length=off:=by simp;omega
    rw[e]at a;have:=f.2 _ x a;simpa using this
   .rw[an (by omega)];have e:(xs.take off++ys).length=off+ys.length:=by simp;omega
    rw[aU (by omega),e,db]at a;have k:off+ys.length+(i - (off+ys.length))=i:=by omega
    rw[k]at a;exact h.2 i x a
def H5{w:bD}{J:ak}{μ:Mem}(place:Nat->Option (Nat×Nat)):∀(parts:List (Nat×Value)) (b:List (Nat×Nat×aB)) (xs cs:aB) (cells:Array Value),
  CR w J μ xs cells->Ct xs b=some cs->b.length=parts.length->(∀(k:Nat) (p:Nat×Value) (q:Nat×Nat×aB),parts[k]?=some p->b[k]?=some q->place p.1=some (q.1,q.2.1)/\CR w J μ q.2.2 p.2.cells) ->
  ∃a,Instr.fill place cells parts=some a/\CR w J μ cs a
 |[],b,xs,cs,cells,h,hf,hl,_=>by
  have:b=[]:=aW hl;subst this;simp only[Ct,ae]at hf;subst hf;exact⟨cells,rfl,h⟩
 |(i,v)::parts,b,xs,cs,cells,h,hf,hl,hp=>by
  cases b with
  |nil=>simp at hl
  |cons q b =>
   obtain⟨c,g,d⟩:=q;have f:=hp 0 (i,v) (c,g,d) rfl rfl;simp only[Ct]at hf;split at hf
   .rename_i u;obtain⟨rfl,o⟩:=u;have e:=f.2;have m:v.cells.size=d.length:=e.1.symm;have n:=h.fill e c o;obtain⟨a,t,j⟩:=H5 place parts b _ cs _ n hf (by simpa using hl) (λk p q l r=>hp (k+1) p q l r);refine⟨a,?_,j⟩;simp only[Instr.fill,f.1]
    have s:(decide (v.cells.size≠d.length)||decide (c+v.cells.size > cells.size))=false:=by
     rw[m,<- h.1];simp;omega
    simp only[s,aI,aS];exact t
   .simp at hf
def Ks{w:bD}{J:ak}{μ:Mem}:∀(l:List Value) (zs:aB),mP l=some zs->zs.length=l.length/\∀(i:Nat) (x:V),zs[i]?=some x->VR w J μ x (l.getD i undef)
 |[],zs,h=>by simp only[mP,ae]at h;subst h;simp
 |v::l,zs,h=>by
  simp only[mP]at h;split at h<;>simp only[ae,reduceCtorEq]at h;rename_i y d c f;subst h;obtain⟨e,b⟩:=Ks l d f;refine⟨by simp[e],λi x a=>?_⟩;cases i with
  |zero=>simp only[aM,ae]at a;subst a;exact Gg c
  |succ i=>simpa using b i x a
def qQ{w:bD}{J:ak}{μ:Mem}{cs:Array Value}{zs:aB}(h:mP cs.toList=some zs):CR w J μ zs cs:=by
 obtain⟨b,a⟩:=Ks (w:=w) (J:=J) (μ:=μ) _ _ h;refine⟨by simpa using b,λi x c=>?_⟩;have:=a i x c;simpa[aq]using this
def CR.Zi{w:bD}{J:ak}{μ:Mem}{xs:aB}{a:Array Value}(h:CR w J μ xs a):VR w J μ (.agg xs) (.agg a):=.agg xs a h.1 h.2
def Uf{xs:dF}{sz:Nat}(b:∀r∈xs,r.length=sz):∀{i j:Nat} {x:V},gj xs i j=some x->xs.flatten[i*sz+j]?=some x:=by
 induction xs with
 |nil=>intro i j x h;simp[gj]at h
 |cons r xs ih =>
  intro i j x h;have a:=b r (by simp);cases i with
  |zero =>
   simp only[gj,aM,gv]at h;have d:j<r.length:=(ah.1 h).1;rw[YI,YC,aY,ay d,h]
  |succ i =>
   have c:gj xs i j=some x:=by simpa[gj]using h
   have:=ih (λr a=>b r (by simp[a])) c;rw[YI,aU (by rw[a,cJ];omega),a];have e:(i+1)*sz+j - sz=i*sz+j:=by rw[cJ];omega
   rw[e,this]
def RO{xs:dF}{sz:Nat}(a:∀r∈xs,r.length=sz):xs.flatten.length=xs.length*sz:=by
 induction xs with
 |nil=>simp
 |cons r xs ih=>rw[YI,aj,a r (by simp),ih (λr b=>a r (by simp[b])),ai,cJ];omega
def Ke(sz:Nat):∀(rows:dF) (pre:aB) (k:Nat) (a:aB),(∀r∈rows,r.length=sz)->pre.length=k*sz->a.length=rows.length*sz ->
  Ct (pre++a) ((rows.zipIdx k).map λ(r,i)=>(i*sz,sz,r))=some (pre++rows.flatten)
 |[],pre,k,a,_,_,ht=>by
  have:a=[]:=aW (by simpa using ht);subst this;simp[Ct]
 |r::rows,pre,k,a,hr,hp,ht=>by
  have b:=hr r (by simp);have f:sz<=a.length:=by rw[ht,ai,cJ];omega
  simp only[List.zipIdx_cons,aH,Ct];rw[az ⟨b,by rw[aj,hp];omega⟩];have c:(pre++a).take (k*sz)=pre:=by rw[<- hp];exact jT
  have d:(pre++a).drop (k*sz+sz)=a.drop sz:=by rw[<- hp,List.drop_append];simp
  rw[c,d];have ih:=Ke sz rows (pre++r) (k+1) (a.drop sz) (λx e=>hr x (by simp[e])) (by rw[aj,hp,b,cJ];omega) (by rw[bA,ht,ai,cJ];omega);rw[ih];simp
section fa
variable {P:bo} {o:Oper} {a:Act} {B:Nat} {w0 w:bD} {J:ak} {μ:Mem} {fr:aB} (hF:FR w J μ fr a) (hS:lj P B w0 w J μ)
include hF hS
theorem Gk{places:List (Nat×Nat)}:∀(parts:List (Nat×Operand)) (b:List (Nat×Nat×O)),Ba places parts=some b->(∀p∈b,kt J (ev fr p.2.2)=true) ->
  b.length=parts.length/\∀(k:Nat) (p:Nat×Operand) (q:Nat×Nat×O),parts[k]?=some p->b[k]?=some q ->
   places[p.1]?=some (q.1,q.2.1)/\CR w J μ (jw (ev fr q.2.2)) (a.eval p.2).cells
 |[],b,h,_=>by simp only[Ba,ae]at h;subst h;simp
 |(i,x)::r,b,h,ll=>by
  simp only[Ba]at h;split at h<;>simp only[ae,reduceCtorEq]at h;rename_i d g y m f j o;subst h;obtain⟨n,l⟩:=Gk r m o (λp c=>ll p (eV _ c));refine⟨by simp[n],λk p q c e=>?_⟩;cases k with
  |zero =>
   simp only[aM,ae]at c e;subst c;subst e;exact⟨f,(pZ hS (fu hF j) (ll (d,g,y) wc)).1⟩
  |succ k=>exact l k p q (by simpa using c) (by simpa using e)
theorem acZ{T:TypeId}{parts:Array (Nat×Operand)}{t:TypeInfo}{n:Array Field}{z:Value}{zs:aB}{places:List (Nat×Nat)}{c:List (Nat×Nat×O)}(I:o.op=.build T parts)(u:P.info? T=some t)(K:P.underlying T=some (.struct n))(F:t.zero=some z)
  (A:mP z.cells.toList=some zs) (l:placesOf P n.toList=some places) (N:Ba places parts.toList=some c) {m:Prop} {y:V} (h:bT fr J (.build zs c)=some (m,y)) (C:m):Yields P o a w J μ y:=by
 simp only[bT]at h;split at h
 .rename_i D M;simp only[ae,aQ]at h;obtain⟨rfl,rfl⟩:=h;obtain⟨E,r⟩:=Gk hF hS parts.toList c N C
  obtain⟨b,L,B⟩:=H5 (w:=w) (J:=J) (μ:=μ) (λx=>places.toArray[x]?) (parts.toList.map λ(i,x)=>(i,a.eval x)) (c.map λ(g,H,x)=>(g,H,jw (ev fr x))) zs D z.cells (qQ A) M (by simp[E]) (by
   intro k p q f e;rw[ck]at f e;simp only[aF]at f e;obtain⟨Q,d,rfl⟩:=f;obtain⟨R,j,rfl⟩:=e;obtain⟨G,S⟩:=r k Q R d j;exact⟨by simpa using G,S⟩)
  refine .pure (v:=.agg b) ?_ B.Zi
  have s:=run_build (P:=P) w T (parts.map λ(i,x)=>(i,a.eval x)) b (by
   simp only[Program.built,u,K,F,mh];unfold placesOf at l;simp only[l];exact L)
  simp only[execOp,I,Sem.run_bind,s,Result.andThen_ok,Sem.run_pure]
 .simp at h
theorem Y3{T E:TypeId}{n:Nat}{parts:Array (Nat×Operand)}{t te:TypeInfo}{z:Value}{zs:aB}{d:List (Nat×Nat×O)}(M:o.op=.build T parts)(B:P.info? T=some t)(N:P.underlying T=some (.array n E))(K:t.zero=some z)(g:P.info? E=some te)
  (C:mP z.cells.toList=some zs) (U:Ba ((List.range n).map λi=>(i*te.size,te.size)) parts.toList=some d) {r:Prop} {y:V} (h:bT fr J (.build zs d)=some (r,y)) (F:r):Yields P o a w J μ y:=by
 simp only[bT]at h;split at h
 .rename_i G S;simp only[ae,aQ]at h;obtain⟨rfl,rfl⟩:=h;obtain⟨H,u⟩:=Gk hF hS parts.toList d U F
  obtain⟨b,Q,D⟩:=H5 (w:=w) (J:=J) (μ:=μ) (λi=>some (i*te.size,te.size)) (parts.toList.map λ(i,x)=>(i,a.eval x)) (d.map λ(l,L,x)=>(l,L,jw (ev fr x))) zs G z.cells (qQ C) S (by simp[H]) (by
   intro k p q j f;rw[ck]at j f;simp only[aF]at j f;obtain⟨s,e,rfl⟩:=j;obtain⟨W,m,rfl⟩:=f;obtain⟨c,X⟩:=u k s W e m;rw[ck]at c;simp only[aF]at c;obtain⟨i,R,c⟩:=c
   have I:i=s.1:=by
    have:=(ah.1 R).2;simpa using this.symm
   subst I;exact⟨by rw[c],X⟩)
  refine .pure (v:=.agg b) ?_ D.Zi
  have A:=run_build (P:=P) w T (parts.map λ(i,x)=>(i,a.eval x)) b (by
   simp only[Program.built,B,N,K,g,mh];exact Q)
  simp only[execOp,M,Sem.run_bind,A,Result.andThen_ok,Sem.run_pure]
 .simp at h
theorem M6:∀(parts:List (Nat×Operand)) (n:Nat) (xs:List O),A9 n parts=some xs->(∀x∈xs,kt J (ev fr x)=true) ->
  xs.length=parts.length/\∀(k:Nat) (p:Nat×Operand) (x:O),parts[k]?=some p->xs[k]?=some x->p.1=n+k/\CR w J μ (jw (ev fr x)) (a.eval p.2).cells
 |[],n,xs,h,_=>by simp only[A9,ae]at h;subst h;simp
 |(i,x)::r,n,xs,h,ll=>by
  simp only[A9]at h;split at h
  .rename_i l;subst l;split at h<;>simp only[ae,reduceCtorEq]at h;rename_i y d e j;subst h;obtain⟨g,f⟩:=M6 r _ d j (λp b=>ll p (eV _ b));refine⟨by simp[g],λk p q b c=>?_⟩;cases k with
   |zero =>
    simp only[aM,ae]at b c;subst b;subst c;exact⟨rfl,(pZ hS (fu hF e) (ll y wc)).1⟩
   |succ k =>
    have:=f k p q (by simpa using b) (by simpa using c);exact⟨by omega,this.2⟩
  .simp at h
theorem KF{T E:TypeId}{len:Nat}{parts:Array (Nat×Operand)}{t:TypeInfo}{z:Value}{xs:List O}{d:List (cU)}(U:o.op=.buildSlice T len parts)(hT:P.underlying T=some (.slice E))(L:P.info? E=some t)(S:t.zero=some z)
  (M:parts.size=len) (jD:0<t.size) (YP:z.cells.size=t.size) (W:len*t.size<=2^24) (Z:A9 0 parts.toList=some xs) (ll:∀x∈xs,kt J (ev fr x)=true) (y:∀r∈xs.map λx=>eT d (jw (ev fr x)),r.length=t.size) :
  ∃b:Array Value,(execOp a.eval o).run P w=.ok (.value (.slice (some ⟨w.heap.size,0,none⟩) len len)) (w.alloc (.cells b E))/\(xs.map λx=>eT d (jw (ev fr x))).length=len/\b.size=len*t.size /\
   ∀i j x,gj (xs.map λx=>eT d (jw (ev fr x))) i j=some x->i*t.size+j<b.size/\VR w J μ x (b.getD (i*t.size+j) undef):=by
 obtain⟨R,N⟩:=M6 hF hS parts.toList 0 xs Z ll;have m:xs.length=len:=by rw[R];simpa using M
 generalize g:(xs.map λx=>eT d (jw (ev fr x)))=rows at y |-;have B:rows.length=len:=by rw[<- g];simp[m]
 let f:Array Value:=if len*t.size=0 then #[]else z.cells
 let c:Array Value:=(Array.range (len*t.size)).map (f[· % f.size]!)
 have C:CR w J μ (List.replicate (len*t.size) V.u) c:=by
  refine⟨by simp[c],λi x s=>?_⟩;have:x=.u:=(ah.1 s).2▸by simp
  subst this;exact .u _
 have l:=Ke t.size rows [] 0 (List.replicate (len*t.size) V.u) y (by simp) (by simp[B]);simp only[bc]at l
 obtain⟨b,A,G⟩:=H5 (w:=w) (J:=J) (μ:=μ) (λi=>some (i*t.size,t.size)) (parts.toList.map λ(i,x)=>(i,a.eval x)) _ _ _ c C l (by simp[B,M]) (by
  intro k p q H F;rw[ck]at H;simp only[aF]at H;obtain⟨X,D,rfl⟩:=H;rw[ck,List.getElem?_zipIdx]at F;simp only[Option.map_map,aF]at F;obtain⟨r,I,rfl⟩:=F;rw[<- g,ck]at I;simp only[aF]at I;obtain⟨x,s,rfl⟩:=I;obtain⟨v,hc⟩:=N k X x D s;refine⟨?_,hc.eT d⟩;simp[v])
 have Q:(execOp a.eval o).run P w=.ok (.value (.slice (some ⟨w.heap.size,0,none⟩) len len)) (w.alloc (.cells b E)):=by
  have Y:¬(16777216<len*t.size):=by omega
  simp only[execOp,U,Instr.buildSlice,Sem.run_bind,run_underlying hT,Result.andThen_ok,sizeOf,typeInfo,run_program,L,Sem.run_pure];have K:¬(len*t.size > 2^24):=by omega
  simp only[K,aS]
  by_cases h:len*t.size=0
  .have e:f=#[]:=by simp[f,h]
   have v:c=(Array.range (len*t.size)).map ((#[]:Array Value)[· % (#[]:Array Value).size]!):=by simp only[c,e]
   simp only[h,aT,Sem.run_bind,Sem.run_pure,Result.andThen_ok];rw[v,h]at A;simp only[mh,A];simp[newRow]
  .have e:f=z.cells:=by simp[f,h]
   have v:c=(Array.range (len*t.size)).map (z.cells[· % z.cells.size]!):=by simp only[c,e]
   simp only[h,aS,zeroValue,typeInfo,Sem.run_bind,run_program,L,Result.andThen_ok,Sem.run_pure,S];rw[v]at A;simp only[mh,A];simp[newRow]
 refine⟨b,Q,B,?_,λi j x s=>?_⟩
 .rw[<- G.1];simp[RO y,B]
 .have n:=Uf y s;exact⟨by rw[<- G.1];exact(ah.1 n).1,G.2 _ x n⟩
theorem Y4{T E:TypeId}{len:Nat}{parts:Array (Nat×Operand)}{t:TypeInfo}{z:Value}{xs:List O}{d:List (cU)}(M:o.op=.buildSlice T len parts)(hT:P.underlying T=some (.slice E))(B:P.info? E=some t)(I:t.zero=some z)
  (Q:parts.size=len) (p:0<t.size) (C:z.cells.size=t.size) (l:len*t.size<=2^24) (X:A9 0 parts.toList=some xs) {f:Prop} {y:V} (h:bT fr J (.dH t.size d xs)=some (f,y)) (D:f):Yields P o a w J μ y:=by
 simp only[bT,ae,aQ]at h;obtain⟨rfl,rfl⟩:=h;obtain⟨W,g⟩:=D;obtain⟨b,A,k,Y,n⟩:=KF hF hS M hT B I Q p C l X W (λr e=>(g r e).1);generalize v:(xs.map λx=>eT d (jw (ev fr x)))=rows at g k n |-;have F:∀r∈rows,r.length=t.size:=λr e=>(g r e).1;have m:w.grownBy (w.alloc (.cells b E)) none:=World.grownBy_alloc w _ none;obtain⟨N,L⟩:=hS.grown m;refine⟨_,_,A,m,?_⟩
 have q:∀i j x,gj rows i j=some x->(w.alloc (.cells b E)).cell? ⟨w.heap.size,0+i*t.size+j,none⟩=some (b.getD (i*t.size+j) undef)/\VR w J μ x (b.getD (i*t.size+j) undef):=by
  intro i j x c;obtain⟨u,S⟩:=n i j x c;refine⟨?_,S⟩;rw[World.cell?_alloc_new,aY];simp[u]
 have:=VR.lit (w:=w.alloc (.cells b E)) (J:=J) (μ:=μ) t.size rows w.heap.size 0 (λi j=>b.getD (i*t.size+j) undef) (by
   rw[k];have:len<=len*t.size:=aoZ _ p;unfold maxLen;omega) F (λi j x c=>⟨(q i j x c).1,λK=>?_,?_⟩) (λi j x c=>(q i j x c).2.mono L)
 .rwa [k]at this
 .obtain⟨id,f,H,R,G⟩:=K;have s:f≠.dead:=by rintro rfl;exact G
  exact absurd (hS.zO H s R).2 (Nat.lt_irrefl _)
 .obtain⟨r,e,U⟩:=jz c;exact(g r (bE e)).2 x (bE U)
end fa
structure Nd (w:bD) (J:ak) (μ:Mem) (xs:dF) (sz:Nat) (v:Value):Prop where
 rows:∀r∈xs,r.length=sz
 len:xs.length<=maxLen
 here:(xs=[]/\∃a,v=.slice a 0 0)\/∃b off cap,v=.slice (some ⟨b,off,none⟩) xs.length cap /\
  ∀i j x,gj xs i j=some x->x.pure=true/\∃u,w.cell? ⟨b,off+i*sz+j,none⟩=some u/\VR w J μ x u
def v7.afU{w:bD}{J:ak}{μ:Mem}{xs:dF}{sz b o a:Nat}{f:Nat->Nat->Value}(h:v7 w J μ xs sz b o f)(d:xs.length<=maxLen):Nd w J μ xs sz (.slice (some ⟨b,o,none⟩) xs.length a) :=
 ⟨h.1,d,.inr ⟨b,o,a,rfl,λi j x c=>⟨(h.2.1 i j x c).2.2,f i j,(h.2.1 i j x c).1,h.2.2 i j x c⟩⟩⟩
def FA{P:bo}{B:Nat}{w0 w:bD}{J:ak}{μ:Mem}(hS:lj P B w0 w J μ){x:V}{v:Value}(h:VR w J μ x v){sz:Nat}{xs:dF}(a:rowsOf J sz x=some xs):Nd w J μ xs sz v:=by
 unfold rowsOf at a;split at a
 .simp only[ae]at a;subst a;exact⟨by simp,by simp,.inl ⟨rfl,_,h.tl⟩⟩
 .split at a<;>simp only[ae,reduceCtorEq]at a;rename_i A;subst A;subst a;rcases h.wZ with⟨rfl,rfl⟩|⟨b,o,f,rfl,l,k⟩
  .exact⟨by simp,by simp,.inl ⟨rfl,_,rfl⟩⟩
  .exact k.afU l
 .split at a<;>simp only[ae,reduceCtorEq]at a;rename_i A;subst A;subst a;rcases h.JC with⟨rfl,_,rfl⟩|⟨b,o,e,f,rfl,t,l,k⟩
  .exact⟨by simp,by simp,.inl ⟨rfl,_,rfl⟩⟩
  .exact k.afU (cu t l)
 .rename_i id g;split at a
  .rename_i E c D M N m p;split at a<;>simp only[ae,reduceCtorEq]at a;rename_i C;obtain⟨rfl,rfl⟩:=C;subst a;have s:=h.mK p;obtain⟨_,G,k⟩:=hS.rowAt p;rcases k with⟨l,F⟩|⟨b,e,u,l,_,t,H,_,k⟩
   .subst F;exact⟨by simp,by simp,.inl ⟨rfl,_,s.trans l⟩⟩
   .exact⟨G,cu t H,.inr ⟨b,0,e,s.trans l,λi j x a=>by rw[aY];exact k i j x a⟩⟩
  .simp at a
 .rename_i id g d q;split at a
  .rename_i E c D M N m p;split at a<;>simp only[ae,reduceCtorEq]at a;rename_i C;obtain⟨rfl,rfl⟩:=C;subst a;obtain⟨O,K,s⟩:=h.wX p;obtain⟨_,G,k⟩:=hS.rowAt p;have n:∀r∈(m.drop d).take (q - d),r.length=c:=λr k=>G r (cH (cF k));have y:((m.drop d).take (q - d)).length=q - d:=by simp;omega
   rcases k with⟨l,F⟩|⟨b,e,u,l,_,t,H,_,k⟩
   .subst F;refine⟨by simp,by simp,.inl ⟨by simp,none,?_⟩⟩;simp only[al]at K;rw[s,l];have z:d=0:=by omega
    have L:q=0:=by omega
    subst z;subst L;rfl
   .refine⟨n,by rw[y];omega,?_⟩;rw[s,l]
    by_cases I:e=d
    .have z:q - d=0:=by omega
     refine .inr ⟨b,0,e - d,?_,?_⟩
     .rw[y];simp[pO,I]
     .intro i j x a;rw[z]at a;simp[gj]at a
    .refine .inr ⟨b,d*c,e - d,?_,?_⟩
     .rw[y];simp[pO,I,Addr.add_lit]
     .intro i j x a;have:=k _ _ _ (Ia a)
      rwa [show(d+i)*c+j=d*c+i*c+j by rw[cJ]]at this
  .simp at a
 .simp at a
def Nd.cells{w:bD}{J:ak}{μ:Mem}{xs:dF}{sz:Nat}{b off n q:Nat}(h:Nd w J μ xs sz (.slice (some ⟨b,off,none⟩) n q))(l:∀i j x,gj xs i j=some x->kq J x=true){P:bo}{B:Nat}{w0:bD}(hS:lj P B w0 w J μ):
  ∃vals:List Value,vals.length=xs.length*sz/\(∀(j:Nat) (u:Value),vals[j]?=some u->w.cell? ((⟨b,off,none⟩:Addr).add j)=some u)/\(∀u∈vals,u.oneCell'=true)/\kN w J μ xs sz vals:=by
 rcases h.here with⟨rfl,a,t⟩|⟨N,z,A,t,D⟩
 .exact⟨[],by simp,by simp,by simp,by simp,by simp[gj]⟩
 .simp only[Value.slice.injEq,ae,Addr.mk.injEq,kP]at t;obtain⟨⟨rfl,rfl⟩,rfl,rfl⟩:=t;have M:0<xs.length*sz->0<sz:=λh=>aoY h;let f:Nat->Value:=λk=>(w.cell? ⟨b,off+k,none⟩).getD undef
  have g:∀k,k<xs.length*sz->∃x,gj xs (k / sz) (k % sz)=some x/\x.pure=true/\w.cell? ⟨b,off+k,none⟩=some (f k)/\VR w J μ x (f k):=by
   intro k g;have I:0<sz:=M (by omega);have p:k / sz<xs.length:=td (by rw[kD];exact g);obtain⟨x,l⟩:=Mo h.rows p (tc k I);obtain⟨o,u,c,d⟩:=D _ _ _ l;have e:off+k / sz*sz+k % sz=off+k:=by have:=afK k sz;rw[kD]at this;omega
   rw[e]at c;have C:f k=u:=by simp[f,c]
   exact⟨x,l,o,by rw[C];exact c,by rw[C];exact d⟩
  refine⟨(List.range (xs.length*sz)).map f,by simp,λj u m=>?_,λu E=>?_,h.rows,λi j x v=>?_⟩
  .rw[ck]at m;simp only[aF]at m;obtain⟨k,s,rfl⟩:=m
   have y:j<xs.length*sz:=by
    have:=(ah.1 s).1;simpa using this
   have:k=j:=by rw[np y]at s;simpa using s.symm
   subst this;rw[Addr.add_lit];obtain⟨_,_,_,c,_⟩:=g k y;exact c
  .simp only[bF,eC]at E;obtain⟨k,H,rfl⟩:=E;obtain⟨x,p,_,_,d⟩:=g k H;exact(vU hS d (l _ _ _ p)).1
  .obtain⟨o,u,c,d⟩:=D _ _ _ v;obtain⟨r,F,K⟩:=jz v;have L:i<xs.length:=(ah.1 F).1;have m:j<sz:=by rw[<- h.rows r (bE F)];exact(ah.1 K).1
   have G:i*sz+j<xs.length*sz:=by
    have:(i+1)*sz<=xs.length*sz:=bI _ L;rw[cJ]at this;omega
   refine⟨o,u,?_,d⟩;rw[ck,np G];have:off+i*sz+j=off+(i*sz+j):=by omega
   rw[this]at c;simp[f,c]
def wI{J:ak}{x:V}(h:x.pure=true):kq J x=true:=by cases x<;>simp_all [V.pure,kq]
def foldl_push(a:bH):∀(s:ByteArray),(a.foldl (λ(r:ByteArray) n=>r.push (UInt8.ofNat n.toNat)) s).data.toList=s.data.toList++a.map λn=>UInt8.ofNat n.toNat:=by
 induction a with
 |nil=>intro s;simp
 |cons n a ih=>intro s;rw[dW,ih];simp[ByteArray.push]
def E8:∀(xs:dF) (l:aG),bytesOf xs=some l->∃a:bH,xs=a.map (λn=>[V.i .u8 n])/\l=a.map λn=>UInt8.ofNat n.toNat
 |[],l,h=>by simp only[bytesOf,ae]at h;subst h;exact⟨[],rfl,rfl⟩
 |r::rs,l,h=>by
  simp only[bytesOf]at h;split at h<;>simp only[ae,reduceCtorEq]at h;rename_i x c b f;subst h;obtain⟨a,e,d⟩:=E8 rs c f;unfold yK at b;split at b<;>simp only[ae,reduceCtorEq]at b;rename_i n;subst b;exact⟨n::a,by simp[e],by simp[d]⟩
section fa
variable {P:bo} {o:Oper} {a:Act} {B:Nat} {w0 w:bD} {J:ak} {μ:Mem} {fr:aB} (hF:FR w J μ fr a) (hS:lj P B w0 w J μ)
include hF hS
theorem ajS{s d e:TypeId}{x:Operand}{H:O}(K:o.op=.convert s d x)(B:P.underlying s=some (.slice e))(D:P.underlying e=some (.int .u8))(z:P.underlying d=some .string)(Y:cO x=some H)
  {T:Prop} {y:V} (h:bT fr J (.b2s H)=some (T,y)):Yields P o a w J μ y:=by
 have S:=fu hF Y;simp only[bT]at h;split at h
 .rename_i k Q;split at h
  .rename_i l U;simp only[ae,aQ]at h;obtain⟨_,rfl⟩:=h;have L:=FA hS S Q;obtain⟨c,t,M⟩:=E8 k l U;have I:l.length=k.length:=by rw[M,t];simp
   rcases L.here with⟨YR,p,C⟩|⟨b,g,A,C,W⟩
   .subst YR;have:l=[]:=aW (by simpa using I);subst this;refine .pure (v:=.string ByteArray.empty) ?_ (.s _ _ rfl (by simp))
    have R:(convert s d (.slice p 0 0)).run P w=.ok (.string ByteArray.empty) w:=by
     cases p with
     |none=>exact run_convert_bytes_nil (P:=P) (w:=w) s e B D 0 0 d z
     |some p =>
      rw[run_convert_bytes_string w s d e _ _ _ B D z,run_bytesToString w p 0 0 [] (run_loadCells_list w p [] (by simp))];rfl
    simp only[execOp,K,C,Sem.run_bind,R,Result.andThen_ok,Sem.run_pure]
   .have Z:∀j,j<k.length->w.cell? ((⟨b,g,none⟩:Addr).add j)=some (.int .u8 (c.getD j 0)):=by
     intro j q;have m:j<c.length:=by rw[t]at q;simpa using q
     have N:gj k j 0=some (.i .u8 c[j]):=by rw[t];simp[gj,m]
     obtain⟨_,u,F,X⟩:=W j 0 _ N;rw[X.iF]at F;rw[Addr.add_lit];simpa[m]using F
    have E:=run_loadCells (P:=P) w ⟨b,g,none⟩ k.length (λj=>.int .u8 (c.getD j 0)) Z
    have f:(loadCells ⟨b,g,none⟩ k.length).run P w=.ok (c.map (Value.int .u8)).toArray w:=by
     rw[E];congr 2;apply mS;intro j;have G:k.length=c.length:=by rw[t];simp
     by_cases q:j<c.length
     .rw[ck,np (by omega),ck,ax q];simp[q]
     .rw[cI (by simp;omega),cI (by simp;omega)]
    refine .pure (v:=.string (c.foldl (λr n=>r.push (UInt8.ofNat n.toNat)) ByteArray.empty)) ?_ (.s _ _ ?_ (by rw[I];exact L.len))
    .simp only[execOp,K,C,Sem.run_bind,run_convert_bytes_string w s d e _ _ _ B D z,run_bytesToString w ⟨b,g,none⟩ k.length A c f,Result.andThen_ok,Sem.run_pure]
    .rw[foldl_push,M];rfl
  .simp at h
 .simp at h
end fa
end Go.Pm

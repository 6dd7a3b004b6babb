/- A part of a proof; the claim's last text says of what. -/
import Derived.ChangeKeysEq
import Derived.Test.YtfeddmfijllgmaaGreatDoorB3
set_option linter.all false
open Option renaming some->S,none->Z
open Bool renaming true->θ
open List renaming length->Y

namespace Go.Pm
open Go Go.RowKit
variable{p:Bool}{k:IntKind}
theorem toList_data(s:ByteArray):s.toList=s.data.toList:=ByteArray.toList_eq s
theorem Iw{x y:V}(h:eQ 0 x y=S p):∃k a b,x=.i k a/\y=.i k b/\(a==b)=p:=by cases x<;>(try (simp[eQ]at h;done));cases y<;>(try (simp[eQ]at h;done));simp only[eQ]at h;split at h<;>simp only[ab,reduceCtorEq]at h;rename_i c;subst c;exact⟨_,_,_,rfl,rfl,h⟩
theorem Qy{d e:aB}(h:iF [0,0] d e=S p):∃k l a b g j,d=[.i k a,.i l b]/\e=[.i k g,.i l j]/\(a==g&&b==j)=p:=by
 match d,e with
 |[],_=>simp[iF]at h
 |_::_,[]=>simp[iF]at h
 |[x],y::e =>simp only[iF]at h;split at h<;>simp_all [iF]
 |x::x2::d,[y] =>simp only[iF]at h;split at h<;>simp_all [iF]
 |x::x2::d,y::y2::e =>
  cases d with
  |cons t d=>simp only[iF]at h;repeat' (split at h)<;>simp_all [iF]
  |nil=>cases e with
   |cons v e=>simp only[iF]at h;repeat' (split at h)<;>simp_all [iF]
   |nil =>simp only[iF]at h;split at h<;>simp only[ab,reduceCtorEq]at h;rename_i c q o m;split at m<;>simp only[ab,reduceCtorEq]at m;rename_i w u s f;simp only[ab]at f;obtain⟨k,a,g,rfl,rfl,r⟩:=Iw o;obtain⟨l,b,j,rfl,rfl,n⟩:=Iw s;exact⟨k,l,a,b,g,j,rfl,rfl,by rw[<- h,<- m,<- f,r,n,dB]⟩
theorem VR.pair{w:bQ}{J:aj}{μ:Mem}{l:IntKind}{a b:Int}{v:Value}(h:VR w J μ (.agg [.i k a,.i l b]) v):v=.agg #[.int k a,.int l b]:=by obtain⟨f,rfl,g,d⟩:=h.wO;have e:=(d 0 _ rfl).kK;have c:=(d 1 _ rfl).kK;obtain⟨l⟩:=f;match l,g with|[x,y],_=>simp at e c;rw[e,c]
theorem B7{P:bG}{w:bQ}{K e:TypeId}(r:P.underlying K=S (.array 2 e))(g:P.underlying e=S (.int k))(s:P.cellsOf e=1)(c l:IntKind)(a b f d:Int): (Op.equal K (.agg #[.int c a,.int l b]) (.agg #[.int c f,.int l d])).run P w=.ok (a==f&&b==d) w:=by
 have o:∃i,P.info? e=S i:=by unfold Program.underlying at g;cases h:P.info? e with|none=>simp[h]at g|some i=>exact⟨i,rfl⟩
 obtain⟨i,o⟩:=o;have q:mo P e=S false:=by simp[mo,g]
 have m:∀(x y:Value) (j:Nat) (z:Value),#[x,y][j]?=S z->(part e #[x,y] j).run P w=.ok z w:=by intro x y j z p;simp only[part,Sem.run_bind,uV q,Result.andThen_ok,aP,bw,p];rfl
 have gen:∀n,(Op.equalIn (n+2) K (.agg #[.int c a,.int l b]) (.agg #[.int c f,.int l d])).run P w=.ok (a==f&&b==d) w:=by
  intro n;rw[run_equalIn_array w (n+1) _ _ r o,s];simp only[show List.range 2=[0,1]from rfl,Op.eqItems,Sem.run_bind,m (.int c a) (.int l b) 0 (.int c a) rfl,m (.int c a) (.int l b) 1 (.int l b) rfl,m (.int c f) (.int l d) 0 (.int c f) rfl,m (.int c f) (.int l d) 1 (.int l d) rfl,Result.andThen_ok,
   run_equalIn_int w n e c k _ _ g,run_equalIn_int w n e l k _ _ g,QD];cases(a==f)<;>cases h:(b==d)<;>simp[m (.int c a) (.int l b) 1 (.int l b) rfl,m (.int c f) (.int l d) 1 (.int l d) rfl,run_equalIn_int w n e l k b d g,h]
 exact gen 9998
section fD
variable {P:bG} {o:Oper} {a:Act} {B:Nat} {w0 w:bQ} {J:aj} {μ:Mem} {fr:aB} (hF:FR w J μ fr a)
include hF
theorem aiQ{d:BinOp}{T F:TypeId}{x y:Operand}{u B:O}(D:o.op=.binOp d T x y F)(L:cO x=S u)(N:cO y=S B) {A:Prop} {z:V} (h:ct fr J (.bin d u B)=S (A,z)) (j:A):Yields P o a w J μ z:=by
 have l:=ix hF L;have g:=ix hF N;simp only[ct,lI]at h;split at h
 .rename_i k p K q t n;rw[t]at l;rw[n]at g;have Q:=l.kK;have I:=g.kK;have c:∀v,(binOp d T (.int k p) (.int K q)).run P w=.ok v w->(execOp a.eval o).run P w=.ok (.value v) w:=by intro v r;simp only[execOp,D,Q,I,eqGuard_at_int,pure_bind,Sem.run_bind,r,Result.andThen_ok,Sem.run_pure]
  split at h
  .simp only[ab,bm]at h;obtain⟨rfl,rfl⟩:=h;have e:¬q<0:=by omega
   exact .pure (c _ (by simp[binOp_shl,Op.shift,e])) (.i _ _)
  .simp only[ab,bm]at h;obtain⟨rfl,rfl⟩:=h;have e:¬q<0:=by omega
   exact .pure (c _ (by simp[binOp_shr,Op.shift,e])) (.i _ _)
  split at h
  .rename_i H;subst H;split at h<;>simp only[ab,bm,reduceCtorEq]at h<;>obtain⟨rfl,rfl⟩:=h;.exact .pure (c _ (by simp[binOp_add,Op.intArith])) (.i _ _)
   .exact .pure (c _ (by simp[binOp_sub,Op.intArith])) (.i _ _)
   .exact .pure (c _ (by simp[binOp_mul,Op.intArith])) (.i _ _)
   .exact .pure (c _ (by simp[binOp_quo,Op.intDiv,j])) (.i _ _)
   .exact .pure (c _ (by simp[binOp_rem,Op.intDiv,j])) (.i _ _)
   .exact .pure (c _ (by simp only[binOp_and,Op.intBits];rfl)) (.i _ _)
   .exact .pure (c _ (by simp only[binOp_or,Op.intBits];rfl)) (.i _ _)
   .exact .pure (c _ (by simp only[binOp_xor,Op.intBits];rfl)) (.i _ _)
   .exact .pure (c _ (by simp[binOp_eql])) (.b _)
   .exact .pure (c _ (by simp[binOp_neq])) (.b _)
   .exact .pure (c _ (by simp[binOp_lss])) (.b _)
   .exact .pure (c _ (by simp[binOp_leq])) (.b _)
   .exact .pure (c _ (by simp[binOp_gtr])) (.b _)
   exact .pure (c _ (by simp[binOp_geq])) (.b _)
  simp at h
 .rename_i p q t n;rw[t]at l;rw[n]at g;obtain⟨s,M,rfl,R⟩:=l.sG;obtain⟨f,m,rfl,C⟩:=g.sG;have c:∀v,(Op.stringOp d s f).run P w=.ok v w->(execOp a.eval o).run P w=.ok (.value v) w:=by
   intro v r;have E:binOp d T (.string s) (.string f)=Op.stringOp d s f:=by cases d<;>rfl
   simp only[execOp,D,M,m,eqGuard_at_string,pure_bind,E,Sem.run_bind,r,Result.andThen_ok,Sem.run_pure]
  split at h<;>simp only[ab,bm,reduceCtorEq]at h<;>obtain⟨rfl,rfl⟩:=h
  .refine .pure (v:=.string (s++f)) (c _ ?_) (.s _ _ ?_ ?_)
   .have e:¬(s.size+f.size > 9223372036854775807):=by rw[bsize,bsize];unfold maxLen at j;omega
    rw[run_string_add_if,aw e]
   .simp[ByteArray.data_append]
   rw[ah];exact j
  .exact .pure (c _ (by simp[Op.stringOp,toList_data])) (.b _)
  .exact .pure (c _ (by simp[Op.stringOp,toList_data])) (.b _)
  .exact .pure (c _ (by simp[Op.stringOp,toList_data])) (.b _)
  .exact .pure (c _ (by simp[Op.stringOp,toList_data])) (.b _)
  .exact .pure (c _ (by simp[Op.stringOp,toList_data])) (.b _)
  exact .pure (c _ (by simp[Op.stringOp,toList_data])) (.b _)
 simp at h
theorem amY{c:BinOp}{T n:TypeId}{x y:Operand}{j l:O}(k:o.op=.binOp c T x y n)(s:Fm c=θ)(m:P.underlying T=S .bool)(t:cO x=S j)(B:cO y=S l) {u:Prop} {z:V} (h:ct fr J (.bbq (XP c) j l)=S (u,z)):Yields P o a w J μ z:=by
 have e:=ix hF t;have i:=ix hF B;simp only[ct]at h;split at h
 .rename_i p q A r;rw[A]at e;rw[r]at i;have g:=e.xU;have f:=i.xU;simp only[ab,bm]at h;obtain⟨rfl,rfl⟩:=h;have d:=run_equal_bool (P:=P) (w:=w) T p q m;cases c<;>simp only[Fm,aP]at s;.refine .pure (v:=.bool (p==q)) ?_ (.b _);simp only[execOp,k,g,f,eqGuard_at_bool,pure_bind,Sem.run_bind,binOp,d,Result.andThen_ok,Sem.run_pure]
  refine .pure (v:=.bool (!(p==q))) ?_ (.b _);simp only[execOp,k,g,f,eqGuard_at_bool,pure_bind,Sem.run_bind,binOp,d,Result.andThen_ok,Sem.run_pure]
 simp at h
omit hF in
theorem Dv:∀(o:List Field) (B:fb) (n:Nat) (g h:aB) (e c:Array Value) (r:Bool) (d:Nat),yd P n o=S B ->(∀j x,g[j]?=S x->VR w J μ x (e.getD (n+j) undef))->(∀j x,h[j]?=S x->VR w J μ x (c.getD (n+j) undef))->e.size=n+Y g->c.size=n+Y h->iF B g h=S r ->(Op.eqFields (d+1) e c o).run P w=.ok r w
 |[],B,n,g,h,e,c,r,d,hf,_,_,_,_,hc=>by
  simp only[yd,ab]at hf;subst hf;cases g with
  |nil=>cases h with
   |nil=>simp only[iF,ab]at hc;subst hc;rfl
   |cons y h=>simp[iF]at hc
  |cons x g=>simp[iF]at hc
 |f::o,B,n,g,h,e,c,r,d,hf,zu,HR,hus,GA,hc=>by
  simp only[yd]at hf;split at hf
  .rename_i i;obtain⟨i,K⟩:=i;have T:∃k a,B=k::a/\yd P (n+1) o=S a/\mo P f.type=S false /\
     ∀x y u v p,eQ k x y=S p->VR w J μ x u->VR w J μ y v->(Op.equalIn (d+1) f.type u v).run P w=.ok p w:=by
    split at hf<;>simp only[ab,reduceCtorEq]at hf;.rename_i k a l D;refine⟨0,a,hf.symm,D,by simp[mo,l],λx y u v p b m A=>?_⟩;cases x<;>(try (simp[eQ]at b;done));cases y<;>(try (simp[eQ]at b;done));simp only[eQ]at b;split at b<;>simp only[ab,reduceCtorEq]at b;rename_i V;subst V;subst b;rw[m.kK,A.kK];exact run_equalIn_int w d f.type _ k _ _ l
    .rename_i a l D;refine⟨1,a,hf.symm,D,by simp[mo,l],λx y u v p b m A=>?_⟩;cases x<;>(try (simp[eQ]at b;done));cases y<;>(try (simp[eQ]at b;done));simp only[eQ,ab]at b;subst b;obtain⟨s,rfl,rfl,_⟩:=m.sG;obtain⟨U,rfl,rfl,_⟩:=A.sG;rw[run_equalIn_string w d f.type s U l,toList_data,toList_data]
    rename_i a l D;refine⟨2,a,hf.symm,D,by simp[mo,l],λx y u v p b m A=>?_⟩;cases x<;>(try (simp[eQ]at b;done));cases y<;>(try (simp[eQ]at b;done));simp only[eQ,ab]at b;subst b;rw[m.xU,A.xU];exact run_equalIn_bool' w d f.type _ _ l
   obtain⟨k,a,rfl,M,Q,N⟩:=T;cases g with
   |nil=>simp[iF]at hc
   |cons x g =>
   cases h with
   |nil=>simp[iF]at hc
   |cons y h =>
   simp only[iF]at hc;split at hc<;>simp only[ab,reduceCtorEq]at hc;rename_i p q b R;have C:=zu 0 x rfl;have t:=HR 0 y rfl;simp only[cu]at C t;have L:n<e.size:=by simp at hus;omega
   have I:n<c.size:=by simp at GA;omega
   have F:(part f.type e f.offset).run P w=.ok (e.getD n undef) w:=by simp only[part,Sem.run_bind,uV Q,Result.andThen_ok,aP,bw,i];rw[show e[n]?=S (e.getD n undef)by simp[L]];rfl
   have O:(part f.type c f.offset).run P w=.ok (c.getD n undef) w:=by simp only[part,Sem.run_bind,uV Q,Result.andThen_ok,aP,bw,i];rw[show c[n]?=S (c.getD n undef)by simp[I]];rfl
   have H:=N x y _ _ p b C t;have ih:=Dv o a (n+1) g h e c q d M
    (λj z E=>by have:=zu (j+1) z E;rwa [show n+(j+1)=n+1+j by omega]at this)
    (λj z E=>by have:=HR (j+1) z E;rwa [show n+(j+1)=n+1+j by omega]at this)
    (by simp at hus;omega) (by simp at GA;omega) R;subst hc;simp only[Op.eqFields,gA,K,fi,aU,Sem.run_bind,F,O,Result.andThen_ok,H];cases p;.simp
   simp[ih]
  simp at hf
theorem amX{d:BinOp}{T yT:TypeId}{H:fb}{x y:Operand}{Q X:O}(B:o.op=.binOp d T x y yT)(jU:Fm d=θ)(c:VE P T=S H)(hx:cO x=S Q)(hy:cO y=S X) {ob:Prop} {z:V} (h:ct fr J (.beq (XP d) H Q X)=S (ob,z)):Yields P o a w J μ z:=by
 have u:=ix hF hx;have t:=ix hF hy;unfold VE at c;split at c
 .rename_i N A;split at c
  .rename_i n;simp only[ct]at h;split at h
   .rename_i U W F E;rw[F]at u;rw[E]at t;obtain⟨s,m,l1,v1⟩:=u.wO;obtain⟨p,g,l2,v2⟩:=t.wO;split at h
    .rename_i r I;simp only[ab,bm]at h;obtain⟨rfl,rfl⟩:=h;have L:P.fieldsOf T=N:=by simp[Program.fieldsOf,A]
     have f:(Op.equalIn 10000 T (.agg s) (.agg p)).run P w=.ok r w:=by rw[run_equalIn_struct w 9999 T s p (by rw[L];exact A) n.1,L];exact Dv N.toList H 0 U W s p r 9998 c (λj z C=>by simpa using v1 j z C) (λj z C=>by simpa using v2 j z C) (by omega) (by omega) I
     have i:=run_eqGuard_agg (P:=P) w d T x y s p n.2;cases d<;>simp only[Fm,aP]at jU;.refine .pure (v:=.bool r) ?_ (.b _);simp only[execOp,B,m,g,Sem.run_bind,i,Result.andThen_ok,run_eql_struct,f,Sem.run_pure]
     refine .pure (v:=.bool (!r)) ?_ (.b _);simp only[execOp,B,m,g,Sem.run_bind,i,Result.andThen_ok,run_neq_struct,f,Sem.run_pure]
    simp at h
   simp at h
  simp at c
 .rename_i e A;split at c
  .rename_i n;split at c<;>simp only[ab,reduceCtorEq]at c;rename_i q he;subst c;simp only[ct]at h;split at h
   .rename_i U W F E;rw[F]at u;rw[E]at t;split at h
    .rename_i r I;simp only[ab,bm]at h;obtain⟨rfl,rfl⟩:=h;obtain⟨k,l,K,R,a2,M,rfl,rfl,D⟩:=Qy I;have m:=u.pair;have g:=t.pair;have f:=B7 (P:=P) (w:=w) A he n.2 k l K R a2 M;rw[D]at f;have i:=run_eqGuard_agg (P:=P) w d T x y #[.int k K,.int l R] #[.int k a2,.int l M] n.1;cases d<;>simp only[Fm,aP]at jU;.refine .pure (v:=.bool r) ?_ (.b _);simp only[execOp,B,m,g,Sem.run_bind,i,Result.andThen_ok,binOp,f,Sem.run_pure]
     refine .pure (v:=.bool (!r)) ?_ (.b _);simp only[execOp,B,m,g,Sem.run_bind,i,Result.andThen_ok,binOp,f,Sem.run_pure]
    simp at h
   simp at h
  simp at c
 simp at c
end fD
variable{X:Mem}{U:Nat}{x:V}{v:Value}{N:aB}{T:aj}{M:bG}{R L:bQ}{Q:fx}
def CR(w:bQ)(J:aj)(μ:Mem)(xs:aB)(a:Array Value):Prop:=Y xs=a.size/\∀i x,xs[i]?=S x->VR w J μ x (a.getD i undef)
theorem VR.tL{w:bQ}{J:aj}{μ:Mem}{x:V}{v:Value}(h:VR w J μ x v)(s:dE):VR w J μ (tL s x) v:=by
 unfold Pm.tL;split;.rw[h.pJ];exact .FX _
 .rcases h.wN with⟨rfl,rfl⟩|⟨b,o,f,rfl,c,a⟩;.exact .FX _
  exact .sl _ _ b o _ f (aM _) c a.1 a.2.1 a.2.2
 exact h
theorem CR.fu{w:bQ}{J:aj}{μ:Mem}:∀(b:List (dE)) {xs:aB} {a:Array Value},CR w J μ xs a->CR w J μ (fu b xs) a:=by
 have e:∀(b:List (dE)) (xs:aB) (n:Nat) (a:Array Value),(∀i x,xs[i]?=S x->VR w J μ x (a.getD (n+i) undef)) ->Y (Pm.fu b xs)=Y xs/\∀i x,(Pm.fu b xs)[i]?=S x->VR w J μ x (a.getD (n+i) undef):=by
  intro b;induction b with
  |nil=>intro xs n a h;simpa[Pm.fu]using h
  |cons s b ih =>
  intro xs n a h;cases xs with
  |nil=>simp[Pm.fu]
  |cons x xs =>have f:=ih xs (n+1) a (λi y c=>by have:=h (i+1) y c;rwa [show n+(i+1)=n+1+i by omega]at this);refine⟨by simp[Pm.fu,f.1],λi y c=>?_⟩;cases i with|zero =>simp only[Pm.fu,aC,ab]at c;subst c;exact(h 0 x rfl).tL s|succ i =>simp only[Pm.fu,bY]at c;have:=f.2 i y c;rwa [show n+1+i=n+(i+1)by omega]at this
 intro b xs a h;have:=e b xs 0 a (λi x d=>by simpa using h.2 i x d);exact⟨this.1.trans h.1,λi x d=>by simpa using this.2 i x d⟩
theorem vX(hS:l8 M U R L T X)(h:VR L T X x v)(e:kZ T x=θ):v.oneCell'=θ/\v.cells=#[v]:=by
 have d:∀a n c,(Value.slice a n c).oneCell'=θ/\(Value.slice a n c).cells=#[.slice a n c]:=λ_ _ _=>⟨rfl,rfl⟩;cases h with
 |u v=>simp[kZ]at e
 |own id g v l h =>
  simp only[kZ]at e;split at e;.rename_i E s m w t p f;simp only[ez]at e;subst e;rw[(h _ _ _ _ _ _ f).2 rfl];rcases(hS.rowAt f).2.2 with⟨j,_⟩|⟨b,o,k,j,_⟩<;>rw[j]<;>exact d _ _ _
  simp at e
 |sub id g C r v l h =>
  simp only[kZ]at e;split at e;.rename_i E s m w t p f;simp only[ez]at e;subst e;rw[((h _ _ _ _ _ _ f).2 rfl).2.2];rcases(hS.rowAt f).2.2 with⟨j,_⟩|⟨b,o,k,j,_⟩<;>rw[j]<;>exact d _ _ _
  simp at e
 |rp id g i y v l h =>
  simp only[kZ]at e;split at e
  .rename_i E s m w t p f;simp only[ez]at e;subst e;obtain⟨r,q⟩:=(h _ _ _ _ _ _ f).2 rfl;rw[q];rcases(hS.rowAt f).2.2 with⟨_,A⟩|⟨b,o,k,j,_⟩;.subst A;simp at r
   rw[j];exact⟨rfl,rfl⟩
  simp at e
 |agg p z B q=>simp[kZ]at e
 |jg p z B q=>simp[kZ]at e
 |_=>exact⟨rfl,rfl⟩
theorem qk(hS:l8 M U R L T X)(h:VR L T X x v)(d:lf T x=θ): CR L T X (jC x) v.cells/\∀u∈v.cells,u.oneCell'=θ:=by
 by_cases n:∃e,x=.agg e
 .obtain⟨e,rfl⟩:=n;obtain⟨g,rfl,o,l⟩:=h.wO;refine⟨⟨o,l⟩,λu c=>?_⟩;obtain⟨i,k,rfl⟩:=Array.mem_iff_getElem.1 c;simp only[lf,df]at d;have a:i<Y e:=by rw[o];exact k
  have f:=l i e[i] (aD a);have b:=(vX hS f (d _ (eJ a))).1;have p:i<g.size:=k;have q:g.getD i undef=g[i]:=by simp[p]
  rw[q]at b;exact b
 have m:lf T x=kZ T x/\jC x=[x]:=by cases x<;>first|exact⟨rfl,rfl⟩|exact absurd ⟨_,rfl⟩ n
 rw[m.1]at d;obtain⟨f,b⟩:=vX hS h d;rw[m.2,b];refine⟨⟨rfl,λi y j=>?_⟩,λu c=>by simp only[Array.mem_singleton]at c;subst c;exact f⟩;cases i with|zero=>simp only[aC,ab]at j;subst j;simpa using h|succ i=>simp at j
theorem Cy:∀(l:List Value) (k a:Nat) (cells:Array Value),a+k+Y l<=cells.size ->((l.zipIdx k).foldl (λ(b:Array Value) (p:Value×Nat)=>b.setIfInBounds (a+p.2) p.1) cells).size=cells.size /\∀i,((l.zipIdx k).foldl (λ(b:Array Value) (p:Value×Nat)=>b.setIfInBounds (a+p.2) p.1) cells).getD i undef =if a+k<=i/\i<a+k+Y l then l.getD (i - (a+k)) undef else cells.getD i undef
 |[],k,a,cells,_=>by simp;intro i c d;omega
 |v::l,k,a,cells,h=>by
  simp only[ae]at h;have ih:=Cy l (k+1) a (cells.setIfInBounds (a+k) v) (by simp;omega);simp only[List.zipIdx_cons,bH];refine⟨by rw[ih.1];simp,λi=>?_⟩;rw[ih.2 i];by_cases c:a+(k+1)<=i/\i<a+(k+1)+Y l
  .rw[aQ c,aQ (by simp only[ae];omega)];have:i - (a+k)=(i - (a+(k+1)))+1:=by omega
   rw[this];simp
  rw[aw c];by_cases d:i=a+k;.subst d;rw[aQ (by simp only[ae];omega)];simp[show a+k<cells.size by omega]
  rw[aw (by simp only[ae];omega)];simp only[cZ];rw[gP (λh=>d h.symm)]
theorem CR.fill{b:aB}{cells f:Array Value}(h:CR R T X N cells)(l:CR R T X b f)(a:Nat)(q:a+Y b<=Y N): CR R T X (N.take a++b++N.drop (a+Y b)) (f.zipIdx.foldl (λg (c,j)=>g.setIfInBounds (a+j) c) cells):=by
 have e:=Cy f.toList 0 a cells (by rw[bf,<- l.1,<- h.1];simpa using q);have m:f.zipIdx.foldl (λg (c,j)=>g.setIfInBounds (a+j) c) cells=(f.toList.zipIdx 0).foldl (λ(g:Array Value) (p:Value×Nat)=>g.setIfInBounds (a+p.2) p.1) cells:=by rw[<- Array.foldl_toList,Array.toList_zipIdx]
 rw[m];refine⟨?_,λi x d=>?_⟩;.rw[e.1,<- h.1];simp;omega
 rw[e.2 i];simp only[cu,bf];rw[<- l.1];by_cases n:i<a;.rw[aw (by omega)];rw[aO,bg (by simp;omega),cD n]at d;exact h.2 i x d
 by_cases r:i<a+Y b
 .rw[aQ (by omega)];rw[bg (by simp;omega),bn (by simp;omega)]at d;have k:Y (N.take a)=a:=by simp;omega
  rw[k]at d;have:=l.2 _ x d;simpa using this
 rw[aw (by omega)];have k:Y (N.take a++b)=a+Y b:=by simp;omega
 rw[bn (by omega),k,ei]at d;have o:a+Y b+(i - (a+Y b))=i:=by omega
 rw[o]at d;exact h.2 i x d
theorem HX{w:bQ}{J:aj}{μ:Mem}(place:Nat->Option (Nat×Nat)):∀(parts:List (Nat×Value)) (b:List (Nat×Nat×aB)) (e d:aB) (cells:Array Value),CR w J μ e cells->CA e b=S d->Y b=Y parts->(∀(k:Nat) (p:Nat×Value) (q:Nat×Nat×aB),parts[k]?=S p->b[k]?=S q->place p.1=S (q.1,q.2.1)/\CR w J μ q.2.2 p.2.cells) ->∃a,Instr.fill place cells parts=S a/\CR w J μ d a
 |[],b,e,d,cells,h,hf,hl,_=>by have:b=[]:=cd hl;subst this;simp only[CA,ab]at hf;subst hf;exact⟨cells,rfl,h⟩
 |(i,v)::parts,b,e,d,cells,h,hf,hl,hp=>by
  cases b with
  |nil=>simp at hl
  |cons q b =>
  obtain⟨c,o,g⟩:=q;have j:=hp 0 (i,v) (c,o,g) rfl rfl;simp only[CA]at hf;split at hf
  .rename_i x;obtain⟨rfl,y⟩:=x;have l:=j.2;have r:v.cells.size=Y g:=l.1.symm;have f:=h.fill l c y;obtain⟨a,m,n⟩:=HX place parts b _ d _ f hf (by simpa using hl) (λk p q s t=>hp (k+1) p q s t);refine⟨a,?_,n⟩;simp only[Instr.fill,j.1];have u:(decide (v.cells.size≠Y g)||decide (c+v.cells.size > cells.size))=false:=by rw[r,<- h.1];simp;omega
   simp only[u,aP,bw];exact m
  simp at hf
theorem KG{w:bQ}{J:aj}{μ:Mem}:∀(l:List Value) (zs:aB),nC l=S zs->Y zs=Y l/\∀(i:Nat) (x:V),zs[i]?=S x->VR w J μ x (l.getD i undef)
 |[],zs,h=>by simp only[nC,ab]at h;subst h;simp
 |v::l,zs,h=>by simp only[nC]at h;split at h<;>simp only[ab,reduceCtorEq]at h;rename_i y b f e;subst h;obtain⟨c,d⟩:=KG l b e;refine⟨by simp[c],λi x a=>?_⟩;cases i with|zero=>simp only[aC,ab]at a;subst a;exact FD f|succ i=>simpa using d i x a
theorem qJ{w:bQ}{J:aj}{μ:Mem}{cs:Array Value}{zs:aB}(h:nC cs.toList=S zs):CR w J μ zs cs:=by obtain⟨a,b⟩:=KG (w:=w) (J:=J) (μ:=μ) _ _ h;refine⟨by simpa using a,λi x c=>?_⟩;have:=b i x c;simpa[aA]using this
theorem CR.aa5{a:Array Value}(h:CR R T X N a):VR R T X (.agg N) (.agg a):=.agg N a h.1 h.2
theorem VD(b:∀r∈Q,Y r=U):∀{i j:Nat} {x:V},gv Q i j=S x->Q.flatten[i*U+j]?=S x:=by
 induction Q with
 |nil=>intro i j x h;simp[gv]at h
 |cons r Q ih =>
 intro i j x h;have a:=b r (by simp);cases i with
 |zero =>simp only[gv,aC,kz]at h;have d:j<Y r:=(ag.1 h).1;rw[EO,aaE,aG,bg d,h]
 |succ i =>
 have c:gv Q i j=S x:=by simpa[gv]using h
 have:=ih (λr a=>b r (by simp[a])) c;rw[EO,bn (by rw[a,dK];omega),a];have e:(i+1)*U+j - U=i*U+j:=by rw[dK];omega
 rw[e,this]
theorem Th(a:∀r∈Q,Y r=U):Q.flatten.length=Y Q*U:=by induction Q with|nil=>simp|cons r Q ih=>rw[EO,ah,a r (by simp),ih (λr b=>a r (by simp[b])),ae,dK];omega
theorem Kv(d:Nat):∀(b:fx) (c:aB) (k:Nat) (a:aB),(∀r∈b,Y r=d)->Y c=k*d->Y a=Y b*d ->CA (c++a) ((b.zipIdx k).map λ(r,i)=>(i*d,d,r))=S (c++b.flatten)
 |[],c,k,a,_,_,ht=>by have:a=[]:=cd (by simpa using ht);subst this;simp[CA]
 |r::b,c,k,a,hr,hp,ht=>by
  have e:=hr r (by simp);have j:d<=Y a:=by rw[ht,ae,dK];omega
  simp only[List.zipIdx_cons,aI,CA];rw[aQ ⟨e,by rw[ah,hp];omega⟩];have g:(c++a).take (k*d)=c:=by rw[<- hp];exact pZ
  have f:(c++a).drop (k*d+d)=a.drop d:=by rw[<- hp,List.drop_append];simp
  rw[g,f];have ih:=Kv d b (c++r) (k+1) (a.drop d) (λx h=>hr x (by simp[h])) (by rw[ah,hp,e,dK];omega) (by rw[ca,ht,ae,dK];omega);rw[ih];simp
section fD
variable {P:bG} {o:Oper} {a:Act} {B:Nat} {w0 w:bQ} {J:aj} {μ:Mem} {fr:aB} (hF:FR w J μ fr a) (hS:l8 P B w0 w J μ)
include hF hS
theorem FI{places:List (Nat×Nat)}:∀(parts:List (Nat×Operand)) (b:List (Nat×Nat×O)),A3 places parts=S b->(∀p∈b,lf J (ev fr p.2.2)=θ) ->Y b=Y parts/\∀(k:Nat) (p:Nat×Operand) (q:Nat×Nat×O),parts[k]?=S p->b[k]?=S q ->places[p.1]?=S (q.1,q.2.1)/\CR w J μ (jC (ev fr q.2.2)) (a.eval p.2).cells
 |[],b,h,_=>by simp only[A3,ab]at h;subst h;simp
 |(i,x)::r,b,h,iu=>by simp only[A3]at h;split at h<;>simp only[ab,reduceCtorEq]at h;rename_i e l y n g o m;subst h;obtain⟨f,j⟩:=FI r n m (λp c=>iu p (bJ _ c));refine⟨by simp[f],λk p q c d=>?_⟩;cases k with|zero =>simp only[aC,ab]at c d;subst c;subst d;exact⟨g,(qk hS (ix hF o) (iu (e,l,y) cU)).1⟩|succ k=>exact j k p q (by simpa using c) (by simpa using d)
theorem afl{T:TypeId}{parts:Array (Nat×Operand)}{t:TypeInfo}{m:Array Field}{z:Value}{zs:aB}{places:List (Nat×Nat)}{c:List (Nat×Nat×O)}(N:o.op=.build T parts)(H:P.info? T=S t)(M:P.underlying T=S (.struct m))(r:t.zero=S z) (A:nC z.cells.toList=S zs) (l:placesOf P m.toList=S places) (u:A3 places parts.toList=S c) {n:Prop} {y:V} (h:ct fr J (.build zs c)=S (n,y)) (I:n):Yields P o a w J μ y:=by
 simp only[ct]at h;split at h;.rename_i U E;simp only[ab,bm]at h;obtain⟨rfl,rfl⟩:=h;obtain⟨L,C⟩:=FI hF hS parts.toList c u I;obtain⟨b,F,Q⟩:=HX (w:=w) (J:=J) (μ:=μ) (λx=>places.toArray[x]?) (parts.toList.map λ(i,x)=>(i,a.eval x)) (c.map λ(e,D,x)=>(e,D,jC (ev fr x))) zs U z.cells (qJ A) E (by simp[L]) (by intro k p q f d;rw[bR]at f d;simp only[aL]at f d;obtain⟨W,g,rfl⟩:=f;obtain⟨s,j,rfl⟩:=d;obtain⟨B,R⟩:=C k W s g j;exact⟨by simpa using B,R⟩);refine .pure (v:=.agg b) ?_ Q.aa5;have K:=run_build (P:=P) w T (parts.map λ(i,x)=>(i,a.eval x)) b (by simp only[Program.built,H,M,r,qd];unfold placesOf at l;simp only[l];exact F);simp only[execOp,N,Sem.run_bind,K,Result.andThen_ok,Sem.run_pure]
 simp at h
theorem aaX{T E:TypeId}{n:Nat}{parts:Array (Nat×Operand)}{t d:TypeInfo}{z:Value}{zs:aB}{e:List (Nat×Nat×O)}(X:o.op=.build T parts)(M:P.info? T=S t)(U:P.underlying T=S (.array n E))(A:t.zero=S z)(j:P.info? E=S d) (F:nC z.cells.toList=S zs) (C:A3 ((List.range n).map λi=>(i*d.size,d.size)) parts.toList=S e) {s:Prop} {y:V} (h:ct fr J (.build zs e)=S (s,y)) (N:s):Yields P o a w J μ y:=by
 simp only[ct]at h;split at h
 .rename_i cs K;simp only[ab,bm]at h;obtain⟨rfl,rfl⟩:=h;obtain⟨R,H⟩:=FI hF hS parts.toList e C N;obtain⟨b,L,h4⟩:=HX (w:=w) (J:=J) (μ:=μ) (λi=>S (i*d.size,d.size)) (parts.toList.map λ(i,x)=>(i,a.eval x)) (e.map λ(g,I,x)=>(g,I,jC (ev fr x))) zs cs z.cells (qJ F) K (by simp[R]) (by
   intro k p q l f;rw[bR]at l f;simp only[aL]at l f;obtain⟨u,m,rfl⟩:=l;obtain⟨B,r,rfl⟩:=f;obtain⟨c,hc⟩:=H k u B m r;rw[bR]at c;simp only[aL]at c;obtain⟨i,D,c⟩:=c;have W:i=u.1:=by have:=(ag.1 D).2;simpa using this.symm
   subst W;exact⟨by rw[c],hc⟩);refine .pure (v:=.agg b) ?_ h4.aa5;have Q:=run_build (P:=P) w T (parts.map λ(i,x)=>(i,a.eval x)) b (by simp only[Program.built,M,U,A,j,qd];exact L);simp only[execOp,X,Sem.run_bind,Q,Result.andThen_ok,Sem.run_pure]
 simp at h
theorem NF:∀(parts:List (Nat×Operand)) (n:Nat) (b:List O),A2 n parts=S b->(∀x∈b,lf J (ev fr x)=θ) ->Y b=Y parts/\∀(k:Nat) (p:Nat×Operand) (x:O),parts[k]?=S p->b[k]?=S x->p.1=n+k/\CR w J μ (jC (ev fr x)) (a.eval p.2).cells
 |[],n,b,h,_=>by simp only[A2,ab]at h;subst h;simp
 |(i,x)::r,n,b,h,iu=>by
  simp only[A2]at h;split at h;.rename_i e;subst e;split at h<;>simp only[ab,reduceCtorEq]at h;rename_i y l m j;subst h;obtain⟨f,g⟩:=NF r _ l j (λp c=>iu p (bJ _ c));refine⟨by simp[f],λk p q c d=>?_⟩;cases k with|zero =>simp only[aC,ab]at c d;subst c;subst d;exact⟨rfl,(qk hS (ix hF m) (iu y cU)).1⟩|succ k =>have:=g k p q (by simpa using c) (by simpa using d);exact⟨by omega,this.2⟩
  simp at h
theorem KR{T E:TypeId}{len:Nat}{parts:Array (Nat×Operand)}{t:TypeInfo}{z:Value}{e:List O}{d:List (dE)}(ho:o.op=.buildSlice T len parts)(U:P.underlying T=S (.slice E))(N:P.info? E=S t)(R:t.zero=S z) (Q:parts.size=len) (jl:0<t.size) (Vj:z.cells.size=t.size) (LQ:len*t.size<=2^24) (W:A2 0 parts.toList=S e) (iu:∀x∈e,lf J (ev fr x)=θ) (B:∀r∈e.map λx=>fu d (jC (ev fr x)),Y r=t.size) : ∃b:Array Value,(execOp a.eval o).run P w=.ok (.value (.slice (S ⟨w.heap.size,0,Z⟩) len len)) (w.alloc (.cells b E))/\Y (e.map λx=>fu d (jC (ev fr x)))=len/\b.size=len*t.size /\∀i j x,gv (e.map λx=>fu d (jC (ev fr x))) i j=S x->i*t.size+j<b.size/\VR w J μ x (b.getD (i*t.size+j) undef):=by
 obtain⟨h1,X⟩:=NF hF hS parts.toList 0 e W iu;have v:Y e=len:=by rw[h1];simpa using Q
 generalize l:(e.map λx=>fu d (jC (ev fr x)))=rows at B |-;have C:Y rows=len:=by rw[<- l];simp[v]
 let g:Array Value:=if len*t.size=0 then #[]else z.cells;let c:Array Value:=(Array.range (len*t.size)).map (g[· % g.size]!);have M:CR w J μ (List.replicate (len*t.size) V.u) c:=by
  refine⟨by simp[c],λi x h=>?_⟩;have:x=.u:=(ag.1 h).2▸by simp
  subst this;exact .u _
 have m:=Kv t.size rows [] 0 (List.replicate (len*t.size) V.u) B (by simp) (by simp[C]);simp only[ay]at m;obtain⟨b,A,L⟩:=HX (w:=w) (J:=J) (μ:=μ) (λi=>S (i*t.size,t.size)) (parts.toList.map λ(i,x)=>(i,a.eval x)) _ _ _ c M m (by simp[C,Q]) (by intro k p q H D;rw[bR]at H;simp only[aL]at H;obtain⟨p',I,rfl⟩:=H;rw[bR,List.getElem?_zipIdx]at D;simp only[Option.map_map,aL]at D;obtain⟨r,K,rfl⟩:=D;rw[<- l,bR]at K;simp only[aL]at K;obtain⟨x,h,rfl⟩:=K;obtain⟨n,hc⟩:=X k p' x I h;refine⟨?_,hc.fu d⟩;simp[n]);have gQ:(execOp a.eval o).run P w=.ok (.value (.slice (S ⟨w.heap.size,0,Z⟩) len len)) (w.alloc (.cells b E)):=by
  have ac:¬(16777216<len*t.size):=by omega
  simp only[execOp,ho,Instr.buildSlice,Sem.run_bind,run_underlying U,Result.andThen_ok,sizeOf,typeInfo,run_program,N,Sem.run_pure];have F:¬(len*t.size > 2^24):=by omega
  simp only[F,bw];by_cases s:len*t.size=0
  .have f:g=#[]:=by simp[g,s]
   have n:c=(Array.range (len*t.size)).map ((#[]:Array Value)[· % (#[]:Array Value).size]!):=by simp only[c,f]
   simp only[s,aU,Sem.run_bind,Sem.run_pure,Result.andThen_ok];rw[n,s]at A;simp only[qd,A];simp[newRow]
  have f:g=z.cells:=by simp[g,s]
  have n:c=(Array.range (len*t.size)).map (z.cells[· % z.cells.size]!):=by simp only[c,f]
  simp only[s,bw,zeroValue,typeInfo,Sem.run_bind,run_program,N,Result.andThen_ok,Sem.run_pure,R];rw[n]at A;simp only[qd,A];simp[newRow]
 refine⟨b,gQ,C,?_,λi j x h=>?_⟩;.rw[<- L.1];simp[Th B,C]
 have y:=VD B h;exact⟨by rw[<- L.1];exact(ag.1 y).1,L.2 _ x y⟩
theorem aaY{T E:TypeId}{len:Nat}{parts:Array (Nat×Operand)}{t:TypeInfo}{z:Value}{k:List O}{d:List (dE)}(ho:o.op=.buildSlice T len parts)(u:P.underlying T=S (.slice E))(H:P.info? E=S t)(s:t.zero=S z) (K:parts.size=len) (q:0<t.size) (B:z.cells.size=t.size) (D:len*t.size<=2^24) (v:A2 0 parts.toList=S k) {f:Prop} {y:V} (h:ct fr J (.gM t.size d k)=S (f,y)) (I:f):Yields P o a w J μ y:=by
 simp only[ct,ab,bm]at h;obtain⟨rfl,rfl⟩:=h;obtain⟨iu,g⟩:=I;obtain⟨b,N,l,qF,p⟩:=KR hF hS ho u H s K q B D v iu (λr e=>(g r e).1);generalize C:(k.map λx=>fu d (jC (ev fr x)))=rows at g l p |-;have U:∀r∈rows,Y r=t.size:=λr e=>(g r e).1;have n:w.grownBy (w.alloc (.cells b E)) Z:=World.grownBy_alloc w _ Z;obtain⟨R,M⟩:=hS.grown n;refine⟨_,_,N,n,?_⟩;have m:∀i j x,gv rows i j=S x->(w.alloc (.cells b E)).cell? ⟨w.heap.size,0+i*t.size+j,Z⟩=S (b.getD (i*t.size+j) undef)/\VR w J μ x (b.getD (i*t.size+j) undef):=by intro i j x c;obtain⟨X,A⟩:=p i j x c;refine⟨?_,A⟩;rw[World.cell?_alloc_new,aG];simp[X]
 have:=VR.lit (w:=w.alloc (.cells b E)) (J:=J) (μ:=μ) t.size rows w.heap.size 0 (λi j=>b.getD (i*t.size+j) undef) (by rw[l];have:len<=len*t.size:=asR _ q;unfold maxLen;omega) U (λi j x c=>⟨(m i j x c).1,λQ=>?_,?_⟩) (λi j x c=>(m i j x c).2.mono M);.rwa [l]at this
 .obtain⟨id,f,L,h6,F⟩:=Q;have W:f≠.dead:=by rintro rfl;exact F
  exact absurd (hS.A6 L W h6).2 (Nat.lt_irrefl _)
 obtain⟨r,e,hj⟩:=ln c;exact(g r (aS e)).2 x (aS hj)
end fD
variable{T:Mem}{R K M:Nat}{L:V}{X:aj}{Q:bG}{U N:bQ}
structure NM (w:bQ) (J:aj) (μ:Mem) (xs:fx) (sz:Nat) (v:Value):Prop where
 rows:∀r∈xs,r.length=sz
 len:xs.length<=maxLen
 here:(xs=[]/\∃a,v=.slice a 0 0)\/∃b off cap,v=.slice (some ⟨b,off,none⟩) xs.length cap /\
  ∀i j x,gv xs i j=some x->x.pure=true/\∃u,w.cell? ⟨b,off+i*sz+j,none⟩=some u/\VR w J μ x u
theorem we.aiS{a:fx}{o:Nat}{f:Nat->Nat->Value}(h:we U X T a R K o f)(c:Y a<=maxLen):NM U X T a R (.slice (S ⟨K,o,Z⟩) a.length M) :=⟨h.1,c,.inr ⟨K,o,M,rfl,λi j x b=>⟨(h.2.1 i j x b).2.2,f i j,(h.2.1 i j x b).1,h.2.2 i j x b⟩⟩⟩
theorem E6(hS:l8 Q R U N X T){v:Value}(h:VR N X T L v){sz:Nat}{xs:fx}(a:rowsOf X sz L=S xs):NM N X T xs sz v:=by
 unfold rowsOf at a;split at a;.simp only[ab]at a;subst a;exact⟨by simp,by simp,.inl ⟨rfl,_,h.pJ⟩⟩
 .split at a<;>simp only[ab,reduceCtorEq]at a;rename_i z;subst z;subst a;rcases h.wN with⟨rfl,rfl⟩|⟨b,o,f,rfl,l,d⟩;.exact⟨by simp,by simp,.inl ⟨rfl,_,rfl⟩⟩
  exact d.aiS l
 .split at a<;>simp only[ab,reduceCtorEq]at a;rename_i z;subst z;subst a;rcases h.JX with⟨rfl,_,rfl⟩|⟨b,o,k,f,rfl,t,l,d⟩;.exact⟨by simp,by simp,.inl ⟨rfl,_,rfl⟩⟩
  exact d.aiS (cE t l)
 .rename_i id g;split at a
  .rename_i E c A H J m s;split at a<;>simp only[ab,reduceCtorEq]at a;rename_i w;obtain⟨rfl,rfl⟩:=w;subst a;have p:=h.nv s;obtain⟨_,B,d⟩:=hS.rowAt s;rcases d with⟨l,y⟩|⟨b,k,u,l,_,t,D,_,d⟩;.subst y;exact⟨by simp,by simp,.inl ⟨rfl,_,p.trans l⟩⟩
   exact⟨B,cE t D,.inr ⟨b,0,k,p.trans l,λi j L a=>by rw[aG];exact d i j L a⟩⟩
  simp at a
 .rename_i id g e q;split at a
  .rename_i E c A H J m s;split at a<;>simp only[ab,reduceCtorEq]at a;rename_i w;obtain⟨rfl,rfl⟩:=w;subst a;obtain⟨M,I,p⟩:=h.wM s;obtain⟨_,B,d⟩:=hS.rowAt s;have n:∀r∈(m.drop e).take (q - e),Y r=c:=λr d=>B r (eO (dY d));have C:Y ((m.drop e).take (q - e))=q - e:=by simp;omega
   rcases d with⟨l,y⟩|⟨b,k,u,l,_,t,D,_,d⟩
   .subst y;refine⟨by simp,by simp,.inl ⟨by simp,Z,?_⟩⟩;simp only[ai]at I;rw[p,l];have x:e=0:=by omega
    have K:q=0:=by omega
    subst x;subst K;rfl
   refine⟨n,by rw[C];omega,?_⟩;rw[p,l];by_cases F:k=e
   .have x:q - e=0:=by omega
    refine .inr ⟨b,0,k - e,?_,?_⟩;.rw[C];simp[pS,F]
    intro i j L a;rw[x]at a;simp[gv]at a
   refine .inr ⟨b,e*c,k - e,?_,?_⟩;.rw[C];simp[pS,F,Addr.add_lit]
   intro i j L a;have:=d _ _ _ (H0 a);rwa [show(e+i)*c+j=e*c+i*c+j by rw[dK]]at this
  simp at a
 simp at a
theorem NM.cells{J:aj}{μ:Mem}{xs:fx}{sz:Nat}{n:Nat}(h:NM U J μ xs sz (.slice (S ⟨R,K,Z⟩) n M))(m:∀i j x,gv xs i j=S x->kZ J x=θ){B:Nat}(hS:l8 Q B N U J μ): ∃b:List Value,Y b=Y xs*sz/\(∀(j:Nat) (u:Value),b[j]?=S u->U.cell? ((⟨R,K,Z⟩:Addr).add j)=S u)/\(∀u∈b,u.oneCell'=θ)/\nD U J μ xs sz b:=by
 rcases h.here with⟨rfl,a,q⟩|⟨P,z,A,q,D⟩;.exact⟨[],by simp,by simp,by simp,by simp,by simp[gv]⟩
 simp only[Value.slice.injEq,ab,Addr.mk.injEq,cK]at q;obtain⟨⟨rfl,rfl⟩,rfl,rfl⟩:=q;have I:0<Y xs*sz->0<sz:=λh=>asQ h;let f:Nat->Value:=λk=>(U.cell? ⟨R,K+k,Z⟩).getD undef;have l:∀k,k<Y xs*sz->∃x,gv xs (k / sz) (k % sz)=S x/\x.pure=θ/\U.cell? ⟨R,K+k,Z⟩=S (f k)/\VR U J μ x (f k):=by
  intro k l;have H:0<sz:=I (by omega);have t:k / sz<Y xs:=o7 (by rw[ju];exact l);obtain⟨x,m⟩:=Mq h.rows t (wg k H);obtain⟨p,u,c,g⟩:=D _ _ _ m;have e:K+k / sz*sz+k % sz=K+k:=by have:=aiM k sz;rw[ju]at this;omega
  rw[e]at c;have y:f k=u:=by simp[f,c]
  exact⟨x,m,p,by rw[y];exact c,by rw[y];exact g⟩
 refine⟨(List.range (Y xs*sz)).map f,by simp,λj u o=>?_,λu C=>?_,h.rows,λi j x E=>?_⟩
 .rw[bR]at o;simp only[aL]at o;obtain⟨k,s,rfl⟩:=o;have w:j<Y xs*sz:=by have:=(ag.1 s).1;simpa using this
  have:k=j:=by rw[kP w]at s;simpa using s.symm
  subst this;rw[Addr.add_lit];obtain⟨_,_,_,c,_⟩:=l k w;exact c
 .simp only[cv,eU]at C;obtain⟨k,L,rfl⟩:=C;obtain⟨x,t,_,_,g⟩:=l k L;exact(vX hS g (m _ _ _ t)).1
 obtain⟨p,u,c,g⟩:=D _ _ _ E;obtain⟨r,d,v⟩:=ln E;have F:i<Y xs:=(ag.1 d).1;have o:j<sz:=by rw[<- h.rows r (aS d)];exact(ag.1 v).1
 have O:i*sz+j<Y xs*sz:=by have:(i+1)*sz<=Y xs*sz:=cg _ F;rw[dK]at this;omega
 refine⟨p,u,?_,g⟩;rw[bR,kP O];have:K+i*sz+j=K+(i*sz+j):=by omega
 rw[this]at c;simp[f,c]
theorem wD(h:L.pure=θ):kZ X L=θ:=by cases L<;>simp_all [V.pure,kZ]
theorem foldl_push(a:bU):∀(s:ByteArray),(a.foldl (λ(r:ByteArray) n=>r.push (UInt8.ofNat n.toNat)) s).data.toList=s.data.toList++a.map λn=>UInt8.ofNat n.toNat:=by induction a with|nil=>intro s;simp|cons n a ih=>intro s;rw[bH,ih];simp[ByteArray.push]
theorem EB:∀(c:fx) (l:aR),bytesOf c=S l->∃a:bU,c=a.map (λn=>[V.i .u8 n])/\l=a.map λn=>UInt8.ofNat n.toNat|[],l,h=>by simp only[bytesOf,ab]at h;subst h;exact⟨[],rfl,rfl⟩|r::rs,l,h=>by simp only[bytesOf]at h;split at h<;>simp only[ab,reduceCtorEq]at h;rename_i x g b d;subst h;obtain⟨a,e,f⟩:=EB rs g d;unfold yf at b;split at b<;>simp only[ab,reduceCtorEq]at b;rename_i n;subst b;exact⟨n::a,by simp[e],by simp[f]⟩
section fD
variable {P:bG} {o:Oper} {a:Act} {B:Nat} {w0 w:bQ} {J:aj} {μ:Mem} {fr:aB} (hF:FR w J μ fr a) (hS:l8 P B w0 w J μ)
include hF hS
theorem amZ{s d e:TypeId}{x:Operand}{K:O}(Q:o.op=.convert s d x)(B:P.underlying s=S (.slice e))(D:P.underlying e=S (.int .u8))(E:P.underlying d=S .string)(R:cO x=S K) {X:Prop} {y:V} (h:ct fr J (.b2s K)=S (X,y)):Yields P o a w J μ y:=by
 have h1:=ix hF R;simp only[ct]at h;split at h
 .rename_i m zu;split at h
  .rename_i l hl;simp only[ab,bm]at h;obtain⟨_,rfl⟩:=h;have t:=E6 hS h1 zu;obtain⟨g,f,N⟩:=EB m l hl;have L:Y l=Y m:=by rw[N,f];simp
   rcases t.here with⟨F,p,A⟩|⟨b,c,H,A,hr⟩
   .subst F;have:l=[]:=cd (by simpa using L);subst this;refine .pure (v:=.string ByteArray.empty) ?_ (.s _ _ rfl (by simp));have h0:(convert s d (.slice p 0 0)).run P w=.ok (.string ByteArray.empty) w:=by cases p with|none=>exact run_convert_bytes_nil (P:=P) (w:=w) s e B D 0 0 d E|some p =>rw[run_convert_bytes_string w s d e _ _ _ B D E,run_bytesToString w p 0 0 [] (run_loadCells_list w p [] (by simp))];rfl
    simp only[execOp,Q,A,Sem.run_bind,h0,Result.andThen_ok,Sem.run_pure]
   have T:∀j,j<Y m->w.cell? ((⟨b,c,Z⟩:Addr).add j)=S (.int .u8 (g.getD j 0)):=by
    intro j z;have q:j<Y g:=by rw[f]at z;simpa using z
    have W:gv m j 0=S (.i .u8 g[j]):=by rw[f];simp[gv,q]
    obtain⟨_,u,I,U⟩:=hr j 0 _ W;rw[U.kK]at I;rw[Addr.add_lit];simpa[q]using I
   have C:=run_loadCells (P:=P) w ⟨b,c,Z⟩ m.length (λj=>.int .u8 (g.getD j 0)) T;have k:(loadCells ⟨b,c,Z⟩ (Y m)).run P w=.ok (g.map (Value.int .u8)).toArray w:=by
    rw[C];congr 2;apply kR;intro j;have M:Y m=Y g:=by rw[f];simp
    by_cases z:j<Y g;.rw[bR,kP (by omega),bR,aD z];simp[z]
    rw[cH (by simp;omega),cH (by simp;omega)]
   refine .pure (v:=.string (g.foldl (λr n=>r.push (UInt8.ofNat n.toNat)) ByteArray.empty)) ?_ (.s _ _ ?_ (by rw[L];exact t.len));.simp only[execOp,Q,A,Sem.run_bind,run_convert_bytes_string w s d e _ _ _ B D E,run_bytesToString w ⟨b,c,Z⟩ m.length H g k,Result.andThen_ok,Sem.run_pure]
   rw[foldl_push,N];rfl
  simp at h
 simp at h
end fD
end Go.Pm

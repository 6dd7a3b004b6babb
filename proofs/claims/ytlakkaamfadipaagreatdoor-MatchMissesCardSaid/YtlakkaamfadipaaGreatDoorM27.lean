/- A part of a proof; the claim's last text says of what. -/
import Derived.Laws.CopyRow
import Derived.Shelf.Spec.SlicesInsertGrow
import Derived.Test.YtlakkaamfadipaaGreatDoorM24
set_option linter.all false
open List renaming length->F

namespace Go.Pm
open Go Go.RowKit
variable{f:Nat}{P:aM}{J:ag}{X:ao}{T:cD}
def tU{P:aM}(w:aT)(p C u e:TypeId)(g o b h:Nat)(a:Addr)(d l:Nat)(c:Array Value)(t:TypeId)(f:List Value)(k:Nat) (s:P.underlying p=some (.slice e)) (n:(P.info? e).map (·.size)=some k) (y:w.heap[g]?=some (.cells c t (0,0))) (z:F f=Nat.min d b*k) (B:∀j v,f[j]?=some v->w.cell? (a.add j)=some v) (D:o+F f<=c.size) (h1:∀v∈f,v.oneCell'=true) : (Builtin.copy_ #[p,C] u #[.slice (some ⟨g,o,none⟩) b h,.slice (some a) d l]).run P w = .ok (goInt (Nat.min d b:Nat)) (w.setRow g (c.toList.take o++f++c.toList.drop (o+F f)).toArray):=by
 have r:=run_loadCells_list (P:=P) w a f B;have q:=run_storeCells_at P g o t f 0 c w y (by simpa using D) h1;cases m:P.info? e with
 |none=>simp[m]at n
 |some i =>
 have x:i.size=k:=by simpa[m]using n
 simp[Builtin.copy_,run_underlying s,Builtin.lenOf,Builtin.firstCells,sizeOf,typeInfo,m,x,<- z,r,q]
def PC.ady{J:ag}{id E sz by' g:Nat}{xs xs':cD}(i:J[id]?=some (.row E sz by' g false xs)) (h:∀(B:Nat) (d w:aT) (μ:Mem) (c:Array Value),gU P B d w J μ->Uw w J μ X c->Calls P f c w λe a=>∃v' vals',e=.returned v'/\w.grownBy a (js (μ id))/\(∀b,js v'=some b->js (μ id)=some b\/w.heap.size<=b)/\a.ownsRow B E sz v' (F xs') vals'/\lp w J μ xs' sz vals') :
  PC P f X J (λr l=>r=.own id (g+1)/\l=J.set id (.row E sz by' (g+1) false xs')):=by intro B d w μ c n v;refine(h B d w μ c n v).mono ?_;rintro e a ⟨v',vals',rfl,o,s,x,q⟩;have t:id<F J:=(ab.1 i).1;have m:=n.grow i (sh':=false) (xs':=xs') (v':=v') (vals:=[]) (vals':=vals') o s (λb _ j u h=>by simp at h) (.inr rfl) (λh=>by simp at h) (λh=>by simp at h) x (λl p k=>q.fU k);have:=VR.nR (w:=a) (J:=J.set id (.row E sz by' (g+1) false xs')) (μ:=r7 μ id v') (id:=id) (E:=E) (sz:=sz) (by':=by') (g:=g+1) (sh:=false) (xs:=xs') (aw t);rw[eH]at this;exact⟨_,v',_,_,rfl,⟨rfl,rfl⟩,m.1,this,m.2.fU⟩
def lp.one{m w:aT}{d:Mem}(r:gU P f m w J d){b:Nat}{a:List Value}(h:lp w J d T b a)(j:F a=F T*b):∀v∈a,v.oneCell'=true:=by
 intro v p;obtain⟨k,g⟩:=eC.1 p;have i:k<F T*b:=by rw[<- j];exact(ab.1 g).1
 have n:0<b:=afQ (pg (eR _) i);have s:k / b<F T:=nr (by rw[gE];exact i);obtain⟨x,o⟩:=Ei h.1 s (vB k n);obtain⟨l,u,c,q⟩:=h.2 _ _ _ o;have e:k / b*b+k % b=k:=by have:=Xv k b;rw[gE]at this;exact this
 rw[e,g]at c;simp only[aa]at c;subst c;exact(oY r q (pB l)).1
def PC.YL{id E n m g:Nat}{d:cD}(l:J[id]?=some (.row E n m g false T))(Q:F d=F T) (h:∀(B:Nat) (t w:aT) (k:Mem) (p:Array Value),gU P B t w J k->Uw w J k X p->Calls P f p w λe w'=>∃c,e=.returned (.tuple #[])/\w.grownBy w' (js (k id))/\w'.ownsRow B E n (k id) (F d) c/\lp w J k d n c) : PC P f X J (λr J'=>r=.gy []/\J'=J.set id (.row E n m g false d)):=by
 intro B t w k p v U;refine(h B t w k p v U).mono ?_;rintro e w' ⟨c,rfl,C,gi,S⟩;have y:id<F J:=(ab.1 l).1;have x:=v.update (w':=w') (J':=J.set id (.row E n m g false d)) (μ':=k) id (js (k id)) C (λb s=>⟨_,l,by simp,s⟩) (by simp) (λj V=>aN (λe=>V e.symm)) (λ_ _=>rfl)
  (λb s=>.inl ⟨_,l,by simp,s⟩)
  (λb O u o q _ z _ H=>absurd ⟨id,o,q,z,by rw[l]at q;simp only[aa]at q;subst q;intro L;simp at L⟩ H)
  (λa cs i=>by rw[l]at i;simp at i)
  (λK E es i=>by rw[l]at i;simp at i)
  (λE2 D W g2 R M _ i=>by
   simp only[aw y,aa,Ob.row.injEq]at i;obtain⟨rfl,rfl,rfl,rfl,rfl,rfl⟩:=i;exact⟨g,false,T,l,ax _,λ_=>⟨Q.symm,rfl⟩⟩)
  (λI o i=>by simp only[aw y,aa]at i;subst i;obtain⟨G,_⟩:=v.obj id _ l;exact⟨G,c,gi,S.fU I.fU⟩);exact⟨.gy [],.tuple #[],_,k,rfl,⟨rfl,rfl⟩,x.1,.gy [] #[] rfl (by simp),x.2.fU⟩
end Go.Pm

/- A part of a proof; the claim's last text says of what. -/
import Derived.Laws.CopyRow
import Derived.Shelf.Spec.SlicesInsertGrow
import Derived.Test.YtfeddmfijllgmaaGreatDoorB22
set_option linter.all false
open List renaming length->Y

namespace Go.Pm
open Go Go.RowKit
variable{f:Nat}{X:aB}{J:aj}{P:bG}{T:fx}
def qQ{P:bG}(w:bQ)(p A x c:TypeId)(g o b h:Nat)(a:Addr)(d l:Nat)(e:Array Value)(t:TypeId)(f:List Value)(k:Nat) (s:P.underlying p=some (.slice c)) (n:(P.info? c).map (·.size)=some k) (y:w.heap[g]?=some (.cells e t (0,0))) (B:Y f=Nat.min d b*k) (z:∀j v,f[j]?=some v->w.cell? (a.add j)=some v) (r:o+Y f<=e.size) (h1:∀v∈f,v.oneCell'=true) : (Builtin.copy_ #[p,A] x #[.slice (some ⟨g,o,none⟩) b h,.slice (some a) d l]).run P w = .ok (goInt (Nat.min d b:Nat)) (w.setRow g (e.toList.take o++f++e.toList.drop (o+Y f)).toArray):=by
 have C:=run_loadCells_list (P:=P) w a f z;have u:=run_storeCells_at P g o t f 0 e w y (by simpa using r) h1;cases m:P.info? c with
 |none=>simp[m]at n
 |some i =>
 have q:i.size=k:=by simpa[m]using n
 simp[Builtin.copy_,run_underlying s,Builtin.lenOf,Builtin.firstCells,sizeOf,typeInfo,m,q,<- B,C,u]
def PC.acp{J:aj}{id E sz by' g:Nat}{xs xs':fx}(i:J[id]?=some (.row E sz by' g false xs)) (h:∀(B:Nat) (d w:bQ) (μ:Mem) (c:Array Value),l8 P B d w J μ->VRs w J μ X c->Calls P f c w λe a=>∃v' vals',e=.returned v'/\w.grownBy a (nQ (μ id))/\(∀b,nQ v'=some b->nQ (μ id)=some b\/w.heap.size<=b)/\a.ownsRow B E sz v' xs'.length vals'/\nD w J μ xs' sz vals') :
  PC P f X J (λr n=>r=.own id (g+1)/\n=J.set id (.row E sz by' (g+1) false xs')):=by intro B d w μ c l o;refine(h B d w μ c l o).mono ?_;rintro e a ⟨v',vals',rfl,p,x,q,v⟩;have t:id<J.length:=(ag.1 i).1;have m:=l.grow i (sh':=false) (xs':=xs') (v':=v') (vals:=[]) (vals':=vals') p x (λb _ j u h=>by simp at h) (.inr rfl) (λh=>by simp at h) (λh=>by simp at h) q (λn s k=>v.eY k);have:=VR.ue (w:=a) (J:=J.set id (.row E sz by' (g+1) false xs')) (μ:=Bh μ id v') (id:=id) (E:=E) (sz:=sz) (by':=by') (g:=g+1) (sh:=false) (xs:=xs') (aT t);rw[iy]at this;exact⟨_,v',_,_,rfl,⟨rfl,rfl⟩,m.1,this,m.2.eY⟩
def nD.one{j w:bQ}{d:Mem}(m:l8 P f j w J d){b:Nat}{a:List Value}(h:nD w J d T b a)(s:Y a=Y T*b):∀v∈a,v.oneCell'=true:=by
 intro v n;obtain⟨k,g⟩:=cm.1 n;have i:k<Y T*b:=by rw[<- s];exact(ag.1 g).1
 have q:0<b:=asQ (wh (jK _) i);have l:k / b<Y T:=o7 (by rw[ju];exact i);obtain⟨x,p⟩:=Mq h.1 l (wg k q);obtain⟨o,u,c,r⟩:=h.2 _ _ _ p;have e:k / b*b+k % b=k:=by have:=aiM k b;rw[ju]at this;exact this
 rw[e,g]at c;simp only[ab]at c;subst c;exact(vX m r (wD o)).1
def PC.aj5{id E n m g:Nat}{d:fx}(l:J[id]?=some (.row E n m g false T))(W:d.length=T.length) (h:∀(B:Nat) (v w:bQ) (k:Mem) (p:Array Value),l8 P B v w J k->VRs w J k X p->Calls P f p w λe w'=>∃c,e=.returned (.tuple #[])/\w.grownBy w' (nQ (k id))/\w'.ownsRow B E n (k id) d.length c/\nD w J k d n c) : PC P f X J (λr J'=>r=.jg []/\J'=J.set id (.row E n m g false d)):=by
 intro B v w k p s z;refine(h B v w k p s z).mono ?_;rintro e w' ⟨c,rfl,F,I,Q⟩;have y:id<J.length:=(ag.1 l).1;have x:=s.update (w':=w') (J':=J.set id (.row E n m g false d)) (μ':=k) id (nQ (k id)) F (λb t=>⟨_,l,by simp,t⟩) (by simp) (λj O=>bN (λe=>O e.symm)) (λ_ _=>rfl)
  (λb t=>.inl ⟨_,l,by simp,t⟩)
  (λb C u o q _ D _ U=>absurd ⟨id,o,q,D,by rw[l]at q;simp only[ab]at q;subst q;intro A;simp at A⟩ U)
  (λa cs i=>by rw[l]at i;simp at i)
  (λK E es i=>by rw[l]at i;simp at i)
  (λE2 V N g2 M H _ i=>by
   simp only[aT y,ab,Ob.row.injEq]at i;obtain⟨rfl,rfl,rfl,rfl,rfl,rfl⟩:=i;exact⟨g,false,T,l,aM _,λ_=>⟨W.symm,rfl⟩⟩)
  (λL o i=>by simp only[aT y,ab]at i;subst i;obtain⟨R,_⟩:=s.obj id _ l;exact⟨R,c,I,Q.eY L.eY⟩);exact⟨.jg [],.tuple #[],_,k,rfl,⟨rfl,rfl⟩,x.1,.jg [] #[] rfl (by simp),x.2.eY⟩
end Go.Pm

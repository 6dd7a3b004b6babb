/- Part of a proof. -/
import Derived.Laws.CopyRow
import Derived.Shelf.Spec.SlicesInsertGrow
import Derived.Test.YtfeddmfijllgmaaGreatDoorZ16
set_option linter.all false
open List renaming length->X
namespace Go.Pm
open Go Go.RowKit
variable{f:Nat}{J:ai}{U:ar}{P:bl}{R:eJ}
def oJ{P:bl}(w:bF)(p C u e:TypeId)(g o b h:Nat)(a:Addr)(d l:Nat)(c:Array Value)(t:TypeId)(f:List Value)(k:Nat) (s:P.underlying p=some (.slice e)) (n:(P.info? e).map (·.size)=some k) (y:w.heap[g]?=some (.cells c t (0,0))) (z:X f=Nat.min d b*k) (q:∀j v,f[j]?=some v->w.cell? (a.add j)=some v) (B:o+X f<=c.size) (h1:∀v∈f,v.oneCell'=true) : (Builtin.copy_ #[p,C] u #[.slice (some ⟨g,o,none⟩) b h,.slice (some a) d l]).run P w = .ok (goInt (Nat.min d b:Nat)) (w.setRow g (c.toList.take o++f++c.toList.drop (o+X f)).toArray):=by
 have r:=run_loadCells_list (P:=P) w a f q;have D:=run_storeCells_at P g o t f 0 c w y (by simpa using B) h1;cases m:P.info? e with
 |none=>simp[m]at n
 |some i =>
 have x:i.size=k:=by simpa[m]using n
 simp[Builtin.copy_,run_underlying s,Builtin.lenOf,Builtin.firstCells,sizeOf,typeInfo,m,x,<- z,r,D]
def PC.aac{J:ai}{id E sz by' g:Nat}{xs xs':eJ}(i:J[id]?=some (.row E sz by' g false xs)) (h:∀(B:Nat) (d w:bF) (μ:Mem) (c:Array Value),kN P B d w J μ->VRs w J μ U c->Calls P f c w λe a=>∃v' vals',e=.returned v'/\w.grownBy a (l9 (μ id))/\(∀b,l9 v'=some b->l9 (μ id)=some b\/w.heap.size<=b)/\a.ownsRow B E sz v' xs'.length vals'/\lU w J μ xs' sz vals') :
  PC P f U J (λr l=>r=.own id (g+1)/\l=J.set id (.row E sz by' (g+1) false xs')):=by intro B d w μ c n x;refine(h B d w μ c n x).mono ?_;rintro e a ⟨v',vals',rfl,p,t,o,s⟩;have v:id<J.length:=(ag.1 i).1;have m:=n.grow i (sh':=false) (xs':=xs') (v':=v') (vals:=[]) (vals':=vals') p t (λb _ j u h=>by simp at h) (.inr rfl) (λh=>by simp at h) (λh=>by simp at h) o (λl q k=>s.dX k);have:=VR.qT (w:=a) (J:=J.set id (.row E sz by' (g+1) false xs')) (μ:=xX μ id v') (id:=id) (E:=E) (sz:=sz) (by':=by') (g:=g+1) (sh:=false) (xs:=xs') (aN v);rw[gy]at this;exact⟨_,v',_,_,rfl,⟨rfl,rfl⟩,m.1,this,m.2.dX⟩
def lU.one{m w:bF}{d:Mem}(r:kN P f m w J d){b:Nat}{a:List Value}(h:lU w J d R b a)(j:X a=X R*b):∀v∈a,v.oneCell'=true:=by
 intro v p;obtain⟨k,g⟩:=df.1 p;have i:k<X R*b:=by rw[<- j];exact(ag.1 g).1
 have n:0<b:=aqB (sL (iP _) i);have s:k / b<X R:=nc (by rw[iB];exact i);obtain⟨x,o⟩:=Jx h.1 s (sK k n);obtain⟨l,u,c,q⟩:=h.2 _ _ _ o;have e:k / b*b+k % b=k:=by have:=agS k b;rw[iB]at this;exact this
 rw[e,g]at c;simp only[aa]at c;subst c;exact(sE r q (s6 l)).1
def PC.aic{id E m l g:Nat}{c:eJ}(k:J[id]?=some (.row E m l g false R))(O:c.length=R.length) (h:∀(B:Nat) (q w:bF) (i:Mem) (n:Array Value),kN P B q w J i->VRs w J i U n->Calls P f n w λe w'=>∃a,e=.returned (.tuple #[])/\w.grownBy w' (l9 (i id))/\w'.ownsRow B E m (i id) c.length a/\lU w J i c m a) : PC P f U J (λr J'=>r=.iS []/\J'=J.set id (.row E m l g false c)):=by
 intro B q w i n s W;refine(h B q w i n s W).mono ?_;rintro e w' ⟨a,rfl,C,z,I⟩;have x:id<J.length:=(ag.1 k).1;have v:=s.update (w':=w') (J':=J.set id (.row E m l g false c)) (μ':=i) id (l9 (i id)) C (λb t=>⟨_,k,by simp,t⟩) (by simp) (λj hj=>bD (λe=>hj e.symm)) (λ_ _=>rfl)
  (λb t=>.inl ⟨_,k,by simp,t⟩)
  (λb N u o p _ y _ F=>absurd ⟨id,o,p,y,by rw[k]at p;simp only[aa]at p;subst p;intro L;simp at L⟩ F)
  (λT cs d=>by rw[k]at d;simp at d)
  (λK E es d=>by rw[k]at d;simp at d)
  (λE2 D ac g2 Q M _ d=>by
   simp only[aN x,aa,Ob.row.injEq]at d;obtain⟨rfl,rfl,rfl,rfl,rfl,rfl⟩:=d;exact⟨g,false,R,k,aB _,λ_=>⟨O.symm,rfl⟩⟩)
  (λH o d=>by simp only[aN x,aa]at d;subst d;obtain⟨V,_⟩:=s.obj id _ k;exact⟨V,a,z,I.dX H.dX⟩);exact⟨.iS [],.tuple #[],_,i,rfl,⟨rfl,rfl⟩,v.1,.iS [] #[] rfl (by simp),v.2.dX⟩

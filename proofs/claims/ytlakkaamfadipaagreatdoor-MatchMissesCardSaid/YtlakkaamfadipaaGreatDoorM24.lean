/- A part of a proof; the claim's last text says of what. -/
import Derived.Sort.KeysCollected
import Derived.Test.YtlakkaamfadipaaGreatDoorM20
set_option linter.all false

namespace Go.Pm
open Go Go.RowKit Go.Bt
variable{f:Nat}{P:aM}{J:ag}{U:ao}{X:cD}
def PC.ofRow{E d c:Nat}(hT:Ti P E d c) (h:∀(B:Nat) (n w:aT) (μ:Mem) (l:Array Value),gU P B n w J μ->Uw w J μ U l->Calls P f l w λe w'=>∃v a,e=.returned v/\w'.ownsRow w.heap.size E d v X.length a/\Below w.heap.size w w'/\lp w J μ X d a) : PC P f U J (λr y=>r=.own J.length 0/\y=J++[.row E d c 0 false X]):=by
 intro B n w μ l p D;refine(h B n w μ l p D).mono ?_;rintro e w' ⟨v,a,rfl,o,x,G⟩;have s:=p.sb (w':=w') (.row E d c 0 false X) v (qL x) (λb i=>by
   rcases o.2 with⟨rfl,_⟩|⟨g,j,k,rfl,q,_⟩;.simp[js]at i
   simp only[js,aa]at i;omega)
  (λz=>⟨hT,a,⟨o.1,by
   rcases o.2 with m|⟨g,j,k,m,q,u⟩;.exact .inl m
   exact .inr ⟨g,j,k,m,bX p.base q,u⟩⟩,G.fU z.fU⟩);have C:(J++[.row E d c 0 false X])[J.length]?=some (.row E d c 0 false X):=by simp
 have t:=VR.nR (w:=w') (μ:=r7 μ J.length v) C;rw[eH]at t;exact⟨_,v,_,_,rfl,⟨rfl,rfl⟩,s.1,t,s.2.fU⟩
def PC.YM{E c by':Nat}(hT:Ti P E c by') (h:∀(B:Nat) (g w:aT) (b:Mem) (d:Array Value),gU P B g w J b->Uw w J b U d->Calls P f d w λe i=>∃v a,e=.returned v/\i.ownsRow w.heap.size E c v X.length a/\Below w.heap.size w i/\lp w J b X c a) : PC P f U J (λr k=>r=.sl c X/\k=J) :=λB g w b d j l=>PC.fz j.closed (PC.ofRow hT h) B g w b d j l
end Go.Pm

/- A part of a proof; the claim's last text says of what. -/
import Derived.Shelf.SlLaysE0
import Derived.Shelf.RegionOpenPlain
import Derived.WalkKit
import Derived.Deep.LoopGhost
import Derived.Deep.RegionLaw
import Derived.Lib.Walk
import Derived.Lib.SliceRun
import Derived.Test.YtlakkaamfadipaaGreatDoorL25
set_option linter.all false

namespace Go.Pm
open Go Go.RowKit Go.Shelf Go.Lib Go.Proofs
theorem gR.take{w:World}{J:ae}{μ:Mem}{xs:List (List V)}{sz:Nat}{vals:List Value}(h:gR w J μ xs sz vals)(m:Nat)(hm:m≤xs.length):gR w J μ (xs.take m) sz (vals.take (m*sz)):=by
 refine⟨fun q hq=>h.1 q (df hq),fun i j x hx=>?_⟩
 have hi:i<m:=by
  obtain⟨q,hq,_⟩:=eP hx;have:=(ab.1 hq).1;rw[ba]at this;omega
 have ub:eV xs i j=some x:=by
  simp only[eV,dp,aQ hi]at hx ⊢;exact hx
 obtain⟨q1,u,q2,q3⟩:=h.2 i j x ub
 have hj:j<sz:=by
  obtain⟨q,hq,CL⟩:=eP ub;have:=h.1 q (aL hq);have:=(ab.1 CL).1;omega
 refine⟨q1,u,?_,q3⟩;have:(i+1)*sz≤m*sz:=aY _ hi;rw[bO,eG]at this;rw[dp,aQ (by omega)];exact q2
theorem gR.drop{w:World}{J:ae}{μ:Mem}{xs:List (List V)}{sz:Nat}{vals:List Value}(h:gR w J μ xs sz vals)(m:Nat):gR w J μ (xs.drop m) sz (vals.drop (m*sz)):=by
 refine⟨fun q hq=>h.1 q (dh hq),fun i j x hx=>?_⟩
 have ub:eV xs (m+i) j=some x:=by
  simp only[eV,cv]at hx ⊢;exact hx
 obtain⟨q1,u,q2,q3⟩:=h.2 _ j x ub;refine⟨q1,u,?_,q3⟩;rw[cv,← q2,bO,iF]
end Go.Pm

/- A part of a proof; the claim's last text says of what. -/
import Derived.Test.YtlakkaamfadipaaGreatDoorL40
import Derived.Test.YtlakkaamfadipaaGreatDoorL46
set_option linter.all false

set_option maxRecDepth 4000
set_option maxHeartbeats 1000000
namespace Go.Proofs.Tryz
open Go Go.Pm Go.Bt
theorem J1(cr:Mt→Int)(a b:Mt):mA cr a b<0↔(if a.score≠b.score then b.score<a.score else if a.jg≠b.jg then b.jg<a.jg else if cr a≠cr b then cr b<cr a else a.aev<b.aev):=by
 simp only[mA,tR,jY]
 (repeat' split)<;>(try simp_all)<;>omega
end Go.Proofs.Tryz
set_option maxRecDepth 8000
set_option maxHeartbeats 2000000
namespace Go.Proofs.Tryz
open Go Go.Pm Go.Bt
end Go.Proofs.Tryz
set_option maxRecDepth 20000
set_option maxHeartbeats 4000000
namespace Go.Proofs.Tryz
open Go Go.Pm Go.Bt
end Go.Proofs.Tryz
set_option maxRecDepth 8000
set_option maxHeartbeats 2000000
namespace Go.Proofs.Tryz
open Go Go.Pm Go.Bt
theorem wG(l:List Pn)(q:Qr)(tq:List It):∀ (M:List dP) (i:Nat),(kW l q tq i M).Pairwise fun a b=>a.aev<b.aev
 | [],i=>.nil
 | s::r,i=>by
  rw[kW];split
  ·rw[List.singleton_append,gS];exact⟨fun m hm=>by have:=(oW l q tq r (i+1) m hm).1;simp only;omega,wG l q tq r (i+1)⟩
  ·exact wG l q tq r (i+1)
theorem OY{A:List Mt}(h:A.Pairwise fun a b=>a.aev<b.aev){a b:Mt}(ha:a∈A)(hb:b∈A)(e:a.aev=b.aev):a=b:=by
 induction A with
 | nil=>cases ha
 | cons x A ih =>
  have h:=gS.1 h;rcases bn.1 ha with h1 | h1<;>rcases bn.1 hb with h2 | h2
  ·rw[h1,h2]
  ·have:=h.1 b h2;rw[← h1]at this;omega
  ·have:=h.1 a h1;rw[← h2]at this;omega
  ·exact ih h.2 h1 h2
theorem Ek{cr:Mt→Int}{a b:Mt}(h1:¬ mA cr a b<0)(h2:¬ mA cr b a<0):a.aev=b.aev:=by
 rw[J1]at h1 h2
 (repeat' split at h1)<;>(repeat' split at h2)<;>omega
theorem G5{A:List Mt}(hA:A.Pairwise fun a b=>a.aev<b.aev){cr:Mt→Int}{x y:List Mt}(hx:x.Perm y)(hy:∀ m∈y,m∈A)(s1:x.Pairwise fun a b=>¬ mA cr b a<0)(s2:y.Pairwise fun a b=>¬ mA cr b a<0):x=y :=
 V6 (fun a b ha hb h1 h2=>OY hA (hy a (hx.mem_iff.1 ha)) (hy b hb) (Ek h2 h1)) s1 s2 hx
def uJ(t:Int):Nat→List Mt→Nat
 | _,[]=>0
 | 0,_=>0
 | n+1,a::x=>if t≤a.score then uJ t n x+1 else 0
end Go.Proofs.Tryz

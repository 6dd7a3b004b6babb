/- A part of a proof; the claim's last text says of what. -/
import Derived.Test.YtlakkaamfadipaaGreatDoorL19
import Derived.Test.YtlakkaamfadipaaGreatDoorL22
set_option linter.all false

namespace Go.Proofs.Tryz
open Go Go.Pm Go.Bt
end Go.Proofs.Tryz
namespace Go.Proofs.Tryz
open Go Go.Pm Go.Bt Go.RowKit
def below(m:List En)(k:List UInt8):Nat:=(m.takeWhile fun e=>Op.bytesLess (gN e) k).length
end Go.Proofs.Tryz
namespace Go.Proofs.Tryz
open Go Go.Pm Go.Bt
theorem vW(x n:Int)(hn:0<n)(h2:n<2^62)(J:ae):PC prog 14 [.i .i64 x,.i .i64 n] J (fun r J'=>r=.i .i64 (place x n)∧J'=J):=by
 refine PC.intro func14 c14 fun bz er=>aB ?_;simp only[p14,SS,seval];simp only[VV,seval];refine⟨by omega,fun h=>?_,fun h=>?_⟩
 ·have h:x.tmod n<0:=by simpa using h
  have hr:=my (x:=x) hn;have e:place x n=x.tmod n+n:=by simp only[place,aQ h]
  refine a6 (.inr rfl) rfl ⟨?_,rfl⟩;rw[e]at hr ⊢;simp only[Pm.one,bd,bf];rw[IntWalk.i64_in _ (by omega)]
 ·have h:¬ x.tmod n<0:=by simpa using h
  have e:place x n=x.tmod n:=by simp only[place,aC h]
  exact a6 (.inr rfl) rfl ⟨by rw[e];rfl,rfl⟩
structure abw (q:Qr):Prop where
 en:∃ e,L4 e∧q.aeq=e.aeq∧q.bV=e.bV∧q.next=e.next
 now:0≤q.now∧q.now<90
 threshold:1≤q.threshold∧q.threshold≤102
 jo:1≤q.jo∧q.jo≤12
theorem Qb:Ti prog 37 8 128:=nD (by kernel_rfl)
structure QrB (q:Qr):Prop where
 ok:dV q=0
 sD:q.aeq.length≤70
 pw:bP q.aeq≤600
 prev:q.bV.length≤7
 next:q.next.length≤7
structure abx (p:Pn):Prop where
 ok:nK p=0
 gq:0≤p.gq∧p.gq≤58
end Go.Proofs.Tryz

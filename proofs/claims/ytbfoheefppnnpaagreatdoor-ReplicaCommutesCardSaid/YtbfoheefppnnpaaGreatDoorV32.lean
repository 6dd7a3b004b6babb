/- A part of the proof of the statement of the last text of this claim: for every two lists of integers ReplicaCommutes returns true and leaves the memory as it was. -/
import Derived.Test.YtbfoheefppnnpaaGreatDoorV27
import Derived.Test.YtbfoheefppnnpaaGreatDoorV30
set_option linter.all false

namespace Go.Proofs.Tryz
open Go Go.Pm Go.Bt
theorem opOrd_zero {a b:Opr} (h:orI [cmpI a.stamp.office b.stamp.office,cmpI a.stamp.number b.stamp.number,cmpI a.stamp.time b.stamp.time,cmpI a.kind b.kind]=0):opOrd a b=cmpB (encode a).1 (encode b).1:=by
 simp only [opOrd,h,ne_eq,not_true,if_false]
theorem opOrd_some {a b:Opr} (h:orI [cmpI a.stamp.office b.stamp.office,cmpI a.stamp.number b.stamp.number,cmpI a.stamp.time b.stamp.time,cmpI a.kind b.kind]≠0) :
  opOrd a b=orI [cmpI a.stamp.office b.stamp.office,cmpI a.stamp.number b.stamp.number,cmpI a.stamp.time b.stamp.time,cmpI a.kind b.kind]:=by
 simp only [opOrd,if_pos h]
set_option maxHeartbeats 1000000 in
theorem opCompare_pc (a b:Opr) (ha:a.small) (hb:b.small) (σ:Store):PC Tryz.prog 26 [.agg a.cells,.agg b.cells] σ (fun r σ'=>r=.i .i64 (opOrd a b)∧σ'=σ):=by
 refine PC.intro Tryz.func26 c26 fun hcl hwf=>wpc_sound ?_
 simp only [p26,SS,seval]
 simp only [Opr.cells,Stamp.cells,En.cells,VV,seval]
 refine ⟨?_,?_⟩
 all_goals
  refine call_eq (cmpI_pc _ _ _) rfl ?_
  simp only [VV,seval]
  refine call_eq (cmpI_pc _ _ _) rfl ?_
  simp only [VV,seval]
  refine call_eq (cmpI_pc _ _ _) rfl ?_
  simp only [VV,seval]
  refine call_eq (cmpI_pc _ _ _) rfl ?_
  simp only [VV,seval]
  refine call_cv (zs:=[.sl 1 ([cmpI a.stamp.office b.stamp.office,cmpI a.stamp.number b.stamp.number,cmpI a.stamp.time b.stamp.time,cmpI a.kind b.kind].map iRow)]) (.cons (.lit _ _) .nil) (orI_pc _ _) ?_
  simp only [VV,seval]
  refine ⟨fun h=>?_,fun h=>?_⟩
  ·have h:orI [cmpI a.stamp.office b.stamp.office,cmpI a.stamp.number b.stamp.number,cmpI a.stamp.time b.stamp.time,cmpI a.kind b.kind]≠0:=by simpa using h
   rw [opOrd_some h]
   exact ret_end hcl (.inr rfl) (by simp only [RS,seval];rfl) (by simp only [LW]) ⟨rfl,rfl⟩
  ·have h:orI [cmpI a.stamp.office b.stamp.office,cmpI a.stamp.number b.stamp.number,cmpI a.stamp.time b.stamp.time,cmpI a.kind b.kind]=0:=by simpa using h
   rw [opOrd_zero h]
   refine call_eq (encode_pc a ha _) rfl ?_
   simp only [VV,seval]
   refine call_eq (encode_pc b hb _) rfl ?_
   simp only [VV,seval]
   refine call_eq (bytesCompare_pc (encode a).1 (encode b).1 _) rfl ?_
   simp only [VV,seval]
   exact ret_end hcl (.inr rfl) (by simp only [RS,seval];rfl) (by simp only [LW]) ⟨rfl,rfl⟩
theorem opWins_pc (a b:Opr) (ha:a.small) (hb:b.small) (σ:Store):PC Tryz.prog 140 [.agg a.cells,.agg b.cells] σ (fun r σ'=>r=.b (wins a b)∧σ'=σ):=by
 refine PC.intro Tryz.func140 c140 fun hcl hwf=>wpc_sound ?_
 simp only [p140,SS,seval]
 simp only [Opr.cells,Stamp.cells,En.cells,VV,seval]
 refine call_eq (stampCompare_pc a.stamp b.stamp _) rfl ?_
 simp only [VV,seval]
 refine callg_eq (by simp only [VV,seval]<;>rfl) (fun _=>opCompare_pc a b ha hb _) rfl ?_
 simp only [VV,seval]
 refine ret_end hcl (.inr rfl) (by simp only [RS,seval];rfl) (by simp only [LW]) ⟨?_,rfl⟩
 simp only [Pm.one,wins,V.b.injEq]
 by_cases h1:0<cmpStamp a.stamp b.stamp<;>by_cases h2:cmpStamp a.stamp b.stamp=0<;>simp [h1,h2]
end Go.Proofs.Tryz

/- A part of the proof that for every input the law NetworkLimits returns true and leaves its argument as it was. -/
import Derived.Test.YtgihcpilgfbggaaGreatDoorCards
import Derived.Test.YtgihcpilgfbggaaGreatDoorTie
import Derived.WalkKit
import Derived.ProofKit
import Derived.OpenShut
import Derived.LaidMore
import Derived.Deep.DeepHandedRow
import Derived.Lib.LaidTab
import Derived.Test.YtgihcpilgfbggaaGreatDoorL14
set_option linter.all false

namespace Go.Proofs.Tryz
open Go Go.Pm Go.ChangeShapes Go.WideShapes Go.ChangeAt Go.RowKit Go.Proofs.YtgihcpilgfbggaaGreatDoor
theorem own:ownKnob prog.godebug=none:=by kernel_rfl
def lv:List (String×DataW Unit):=[("math/bits.deBruijn32tab",Rows.laid_math_bits_deBruijn32tab),("math/bits.deBruijn64tab",Rows.laid_math_bits_deBruijn64tab),("internal/strconv.uint64pow10",Rows.laid_internal_strconv_uint64pow10)]
theorem Tp:prog.globalNamed "internal/strconv.uint64pow10" = some 1:=by kernel_rfl
theorem MN:(prog.globals[1]?).map (·.type)=some 256:=by kernel_rfl
theorem Qr:prog.cellsOf 256=20:=by kernel_rfl
theorem Qq:prog.cellsOf 187=1:=by kernel_rfl
theorem I5{W:World}(h:laidMetH prog lv W):Lib.TabIs prog W "internal/strconv.uint64pow10" .u64 xa:=by
 have h2:=laidMetH.filter (fun x=>x.1 == "internal/strconv.uint64pow10") h;have e:lv.filter (fun x=>x.1 == "internal/strconv.uint64pow10")=[("internal/strconv.uint64pow10",Lib.tabData .u64 xa)]:=by rfl
 rw[e,MakeChecks.laidMetH_plain _ _ _ (by rfl)]at h2;exact Lib.tabIs_of_head (rest:=[]) Tp MN underlying256 underlying187 Qq Qr h2
theorem N9{W:World}(hL:laidMetH prog lv W){f:Nat}{args:List V}{vs:Array Value}{μ:Mem}(h:PC prog f args [] (fun r σ'=>r=.b true∧σ'=[]))(hv:Qw W [] μ args vs):
  Calls prog f vs W fun e W'=>e=.returned (.bool true)∧Below W.heap.size W W':=by
 have Ps:=I5 hL;have eC:1<W.heap.size:=World.block_lt_of_cell? W _ (Ps.cell Tp 0 (by decide))
 have hS:gM prog W.heap.size W W [] μ:=by
  refine⟨⟨Below.refl _ _,fun t ht g hg=>?_⟩,aw _,by simp,by simp⟩;simp only[N4,aY,bK,or_false]at ht;subst ht;obtain rfl:=ky (Tp.symm.trans hg);exact⟨eC,Ps⟩
 refine(h W.heap.size W W μ vs hS hv).mono ?_;rintro e w' ⟨r,v,σ',μ',rfl,⟨rfl,rfl⟩,hS',hvr,_⟩;exact⟨by rw[hvr.ow],hS'.below.toBelow⟩
theorem laidOut:laidOutB prog=true:=by kernel_rfl
theorem yR{H:Type}{enc:TypeId×Value→H}{W W':World}(hb:Below W.heap.size W W'):∀ {ts:List TypeId} {vs:List Value} {ds:List (DataW H)} {ps:List MemPlace},(ts.all fun t=>prog.readableRec t&&decide (t<prog.types.size))=true →
  DataW.TrodAll enc prog W 0 (fun _=>true) true ts vs ds ps→(∀ x∈ps,x.block<W.heap.size)→DataW.TrodAll enc prog W' 0 (fun b=>decide (b<W.heap.size)) true ts vs ds ps:=by
 intro ts
 induction ts with
 | nil =>
  intro vs ds ps _ h _;obtain⟨rfl,rfl,rfl⟩:=trodAll_nil h;exact trodAll_mk0
 | cons t ts ih =>
  intro vs ds ps ht h hp;simp only[ey,aB,decide_eq_true_eq]at ht;obtain⟨v0,vs0,d0,ds0,p0,q0,rfl,rfl,rfl,h0,r0⟩:=trodAll_cons h;exact trodAll_cons_mk (Below.trod laidOut ht.1.1 ht.1.2 h0 hb fun x hx=>hp x (by simp[hx])) (ih ht.2 r0 fun x hx=>hp x (by simp[hx]))
theorem I7{H:Type}{enc:TypeId×Value→H}{f:Func}{s:ChangeSpec}{W W':World}{args:Array Value}{ds gs:List (DataW H)}{before:List MemPlace}(hv:s.vars=[])(hr:f.resultTypes=#[4])
  (ht:(f.params.toList.all fun t=>prog.readableRec t&&decide (t<prog.types.size))=true) (hW:DataW.Whole enc prog f.params.toList s.vars false W args.toList ds gs before)
  (JR:s.fn H (ds++gs)={ results:=[.lit (.bool true)],args:=ds }) (hb:Below W.heap.size W W'):s.post enc prog f false true false false W args (.bool true) W':=by
 have eC:∀ x∈before,x.block<W.heap.size:=fun x hx=>hW.lt x hx;have hW':=hW;obtain⟨p,q,hA,hV,rfl,_,_⟩:=hW;rw[hv]at hV;obtain⟨rfl,rfl⟩:=trodVars_none hV;refine⟨ds,[],p++[],[],p,[],hW',?_,?_,?_,hb.frame _,fun h=>by cases h⟩
 ·rw[JR,hr];exact trodAll_cons_mk (shut_bool underlying4 _) trodAll_mk0
 ·rw[JR];exact yR hb ht hA fun x hx=>eC x (by simp[hx])
 ·rw[JR,hv];exact rfl
theorem L3(os:Os)(args:Array Value):laidMetH prog lv ((World.doorLaid prog 400 os).forCall (fun _ _=>0) ⟨#[],args,[]⟩).memory :=
 laidMetH_of_parts3 (fuel:=8) (laidMet_of_run' 8 (by kernel_rfl) (by kernel_rfl)) (by kernel_rfl) (by kernel_rfl)
end Go.Proofs.Tryz

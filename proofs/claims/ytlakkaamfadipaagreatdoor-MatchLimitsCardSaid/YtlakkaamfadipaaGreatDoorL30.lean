/- A part of a proof; the claim's last text says of what. -/
import Derived.Test.YtlakkaamfadipaaGreatDoorCards
import Derived.Test.YtlakkaamfadipaaGreatDoorTie
import Derived.WalkKit
import Derived.ProofKit
import Derived.OpenShut
import Derived.LaidMore
import Derived.Deep.DeepHandedRow
import Derived.Test.YtlakkaamfadipaaGreatDoorL16
set_option linter.all false

namespace Go.Proofs.Tryz
open Go Go.Pm Go.ChangeShapes Go.WideShapes Go.ChangeAt Go.RowKit Go.Proofs.YtlakkaamfadipaaGreatDoor
theorem own:ownKnob prog.godebug=none:=by kernel_rfl
def lv:List (String×DataW Unit):=[("math/bits.deBruijn32tab",Rows.laid_math_bits_deBruijn32tab),("math/bits.deBruijn64tab",Rows.laid_math_bits_deBruijn64tab),("internal/strconv.uint64pow10",Rows.laid_internal_strconv_uint64pow10)]
theorem Rr:prog.globalNamed "internal/strconv.uint64pow10" = some 1:=by kernel_rfl
theorem Lg:(prog.globals[1]?).map (·.type)=some 302:=by kernel_rfl
theorem OV:prog.cellsOf 302=20:=by kernel_rfl
theorem OU:prog.cellsOf 231=1:=by kernel_rfl
theorem Hu{W:World}(h:laidMetH prog lv W):Lib.TabIs prog W "internal/strconv.uint64pow10" .u64 vV:=by
 have h2:=laidMetH.filter (fun x=>x.1 == "internal/strconv.uint64pow10") h;have e:lv.filter (fun x=>x.1 == "internal/strconv.uint64pow10")=[("internal/strconv.uint64pow10",Lib.tabData .u64 vV)]:=by rfl
 rw[e,MakeChecks.laidMetH_plain _ _ _ (by rfl)]at h2;exact Lib.tabIs_of_head (rest:=[]) Rr Lg underlying302 underlying231 OU OV h2
theorem MM{W:World}(hL:laidMetH prog lv W){f:Nat}{args:List V}{vs:Array Value}{μ:Mem}(h:PC prog f args [] (fun r J'=>r=.b true∧J'=[]))(hv:Mp W [] μ args vs):
  Calls prog f vs W fun e W'=>e=.returned (.bool true)∧Below W.heap.size W W':=by
 have NO:=Hu hL;have cM:1<W.heap.size:=World.block_lt_of_cell? W _ (NO.cell Rr 0 (by decide))
 have hS:fe prog W.heap.size W W [] μ:=by
  refine⟨⟨Below.refl _ _,fun t ht g hg=>?_⟩,aq _,by simp,by simp⟩;simp only[MG,bn,eZ,IP]at ht;subst ht;obtain rfl:=gm (Rr.symm.trans hg);exact⟨cM,NO⟩
 refine(h W.heap.size W W μ vs hS hv).mono ?_;rintro e w' ⟨r,v,J',μ',rfl,⟨rfl,rfl⟩,hS',Wm,_⟩;exact⟨by rw[Wm.lW],hS'.below.toBelow⟩
theorem laidOut:laidOutB prog=true:=by kernel_rfl
theorem xW{H:Type}{enc:TypeId×Value→H}{W W':World}(hb:Below W.heap.size W W'):∀ {ts:List TypeId} {vs:List Value} {ds:List (DataW H)} {ps:List MemPlace},(ts.all fun t=>prog.readableRec t&&decide (t<prog.types.size))=true →
  DataW.TrodAll enc prog W 0 (fun _=>true) true ts vs ds ps→(∀ x∈ps,x.block<W.heap.size)→DataW.TrodAll enc prog W' 0 (fun b=>decide (b<W.heap.size)) true ts vs ds ps:=by
 intro ts
 induction ts with
 | nil =>
  intro vs ds ps _ h _;obtain⟨rfl,rfl,rfl⟩:=trodAll_nil h;exact trodAll_mk0
 | cons t ts ih =>
  intro vs ds ps ht h hp;simp only[lI,aP,a8]at ht;obtain⟨v0,vs0,d0,ds0,p0,q0,rfl,rfl,rfl,h0,r0⟩:=trodAll_cons h;exact trodAll_cons_mk (Below.trod laidOut ht.1.1 ht.1.2 h0 hb fun x hx=>hp x (by simp[hx])) (ih ht.2 r0 fun x hx=>hp x (by simp[hx]))
theorem Hw{H:Type}{enc:TypeId×Value→H}{f:Func}{s:ChangeSpec}{W W':World}{args:Array Value}{ds gs:List (DataW H)}{before:List MemPlace}(hv:s.vars=[])(hr:f.resultTypes=#[4])
  (ht:(f.params.toList.all fun t=>prog.readableRec t&&decide (t<prog.types.size))=true) (hW:DataW.Whole enc prog f.params.toList s.vars false W args.toList ds gs before)
  (wH:s.fn H (ds++gs)={ results:=[.lit (.bool true)],args:=ds }) (hb:Below W.heap.size W W'):s.post enc prog f false true false false W args (.bool true) W':=by
 have cM:∀ x∈before,x.block<W.heap.size:=fun x hx=>hW.lt x hx;have hW':=hW;obtain⟨p,q,hA,hV,rfl,_,_⟩:=hW;rw[hv]at hV;obtain⟨rfl,rfl⟩:=trodVars_none hV;refine⟨ds,[],p++[],[],p,[],hW',?_,?_,?_,hb.frame _,fun h=>by cases h⟩
 ·rw[wH,hr];exact trodAll_cons_mk (shut_bool underlying4 _) trodAll_mk0
 ·rw[wH];exact xW hb ht hA fun x hx=>cM x (by simp[hx])
 ·rw[wH,hv];exact rfl
theorem Kn(os:Os)(args:Array Value):laidMetH prog lv ((World.doorLaid prog 400 os).forCall (fun _ _=>0) ⟨#[],args,[]⟩).memory :=
 laidMetH_of_parts3 (fuel:=8) (laidMet_of_run' 8 (by kernel_rfl) (by kernel_rfl)) (by kernel_rfl) (by kernel_rfl)
end Go.Proofs.Tryz

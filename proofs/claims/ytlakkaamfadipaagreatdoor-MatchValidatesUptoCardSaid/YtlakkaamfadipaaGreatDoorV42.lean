/- MatchValidates returns true for every query, every list of integers and any two integers, and leaves all that was there as it was. Condition: the total bulk of the arguments is at most 1048576. -/
import Derived.Test.YtlakkaamfadipaaGreatDoorV38
import Derived.Test.YtlakkaamfadipaaGreatDoorV41
set_option linter.all false

namespace Go.Proofs.Tryz
open Go Go.Pm Go.Bt
theorem s3(q:Qr)(hq:OU q)(l:List Int)(which by':Int)(J:ae):PC prog 3 [.agg q.ahq,.sl 1 (l.map b5),.i .i64 which,.i .i64 by'] J (fun r J'=>r=.b true∧J'=J) :=
 s4 Gk q hq l which by' J
end Go.Proofs.Tryz
namespace Go.Proofs.YtlakkaamfadipaaGreatDoor.matchValidates
open Go Go.Pm Go.ChangeShapes Go.WideShapes Go.ChangeAt Go.RowKit Go.Proofs.Tryz
set_option maxRecDepth 100000 in
theorem Oo(H:Type)(enc:TypeId×Value→H)(W:World)(base:Nat)(args:Array Value)(ds gs:List (DataW H))(before:List MemPlace)
  (rS:∀ (j:Nat) t v,f3.params[j]?=some t→args[j]?=some v→Value.okWide prog W .any base t v)
  (hW:DataW.Whole enc prog f3.params.toList Rows.matchValidatesSpec.vars false W args.toList ds gs before) (hB:Rows.uptoBulkAll (ds++gs)≤1048576) (hL:laidMetH prog Rows.matchValidatesUptoRow.laid W) :
  Calls prog 3 args W fun e W'=>∃ v,e=.returned v∧Rows.matchValidatesSpec.post enc prog f3 false true false false W args v W':=by
 have hW':=hW;obtain⟨p,q,hA0,hV,rfl,hfz,nq⟩:=hW;have hA:DataW.TrodAll enc prog W 0 (fun _=>true) true f3.params.toList args.toList ds p:=hA0;have hp:f3.params=#[24,25,3,3]:=params3;rw[hp]at hA rS;obtain⟨v0,vs0,d0,ds0,p0,q0,aem,rfl,rfl,h0,r0⟩:=trodAll_cons hA;obtain⟨v1,Y3,d1,ds1,p1,q1,rfl,rfl,rfl,h1,r1⟩:=trodAll_cons r0;obtain⟨v2,Y2,d2,ds2,p2,q2,rfl,rfl,rfl,h2,r2⟩:=trodAll_cons r1;obtain⟨v3,vs3,d3,ds3,p3,q3,rfl,rfl,rfl,h3,r3⟩:=trodAll_cons r2;obtain⟨rfl,rfl,rfl⟩:=trodAll_nil r3;obtain rfl:args=#[v0,v1,v2,v3]:=by cases args;simp_all
 obtain⟨rfl,rfl⟩:=trodVars_none hV;obtain⟨q,O3,Vq⟩:=Va (fun _=>undef) (rS 0 24 v0 rfl rfl) h0 (br (uT (by simp)) hB);obtain⟨l,QI,_⟩:=OR (fun _=>undef) underlying25 underlying3 (by kernel_rfl) (rS 1 25 v1 rfl rfl) h1;obtain⟨which,rfl,rfl,rfl,AX⟩:=open_int underlying3 (rS 2 3 v2 rfl rfl) h2;obtain⟨by1,rfl,rfl,rfl,hw3⟩:=open_int underlying3 (rS 3 3 v3 rfl rfl) h3;refine(PF hL (s3 q Vq l which by1 []) (μ:=fun _=>undef) ⟨rfl,fun i y hy=>?_⟩).mono fun e W' ⟨he,hb⟩=>?_
 ·rcases i with _ | _ | _ | _ | i
  ·simp only[bo,Nat.reduceAdd,aq,bF,aa]at hy;subst hy;exact O3
  ·simp only[bo,Nat.reduceAdd,aq,bF,aa]at hy;subst hy;exact QI
  ·simp only[bo,Nat.reduceAdd,aq,bF,aa]at hy;subst hy;exact .i _ _
  ·simp only[bo,Nat.reduceAdd,aq,bF,aa]at hy;subst hy;exact .i _ _
  ·simp at hy
 ·exact⟨_,he,JD rfl rfl (by kernel_rfl) hW' rfl hb⟩
theorem reads(os:Os){H:Type}(enc:TypeId×Value→H):∃ places,DataW.whole enc prog ((World.doorLaid prog 400 os).forCall (fun _ _=>0) ⟨#[],#[.agg #[.slice none 0 0,.string ⟨#[]⟩,.string ⟨#[]⟩,.int .i64 0,.int .i64 0,.int .i64 0],.slice none 0 0,.int .i64 0,.int .i64 0],[]⟩).memory f3.params.toList Rows.matchValidatesSpec.vars false #[(Value.agg #[.slice none 0 0,.string ⟨#[]⟩,.string ⟨#[]⟩,.int .i64 0,.int .i64 0,.int .i64 0]),(Value.slice none 0 0),(Value.int .i64 0),(Value.int .i64 0)].toList 8=some ([.agg [.nil,.lit (.string []),.lit (.string []),.lit (.int .i64 0),.lit (.int .i64 0),.lit (.int .i64 0)],.nil,.lit (.int .i64 0),.lit (.int .i64 0)],[],places) :=
 ⟨[],by kernel_rfl⟩
set_option maxRecDepth 100000 in
theorem lifted(os:Os)(started:os.Started)(H:Type)(enc:TypeId×Value→H)(F:Stop.Interp):
  ReturnsInHanded {} Tryz.checked os 3 .any ((Rows.OpenSpec.upto Rows.matchValidatesSpec).preRow enc prog f3 Rows.matchValidatesUptoRow.domain false Rows.matchValidatesUptoRow.laid) (((Rows.OpenSpec.upto Rows.matchValidatesSpec).at F).post enc prog f3 false true false false):=by
 obtain⟨places,hx⟩:=reads os enc
 refine returnsInHanded_of_row (C:=Tryz.checked) (s:=Rows.OpenSpec.upto Rows.matchValidatesSpec) own started (by kernel_rfl) func3
  (witness_row_at (enc:=enc) (C:=Tryz.checked) false (World.doorLaid prog 400 os) #[.agg #[.slice none 0 0,.string ⟨#[]⟩,.string ⟨#[]⟩,.int .i64 0,.int .i64 0,.int .i64 0],.slice none 0 0,.int .i64 0,.int .i64 0] rfl (by kernel_rfl) (by kernel_rfl) (by kernel_rfl)
   (OpenSpec.preRow_of_cond 8 hx (by kernel_rfl) (fun k hk=>by cases hk;kernel_rfl) (by kernel_rfl) (M6 os _))) ?_
 intro W base args ds gs before rS hW _ hk _ hL _ _;exact Oo H enc W base args ds gs before rS hW (of_decide_eq_true (hk _ rfl)) hL
set_option maxHeartbeats 80000000 in
set_option maxRecDepth 100000 in
theorem said:Rows.MatchValidatesUptoSaid :=
 OpenClaim.holds_of_cond 3 f3 rfl rfl rfl rfl rfl rfl rfl ⟨rfl,rfl,rfl,rfl,rfl⟩ rfl rfl rfl rfl rfl (by kernel_rfl) func3 (by unfold joinedFacts;simp only[aG];(repeat' apply And.intro);all_goals as_aux_lemma=>kernel_rfl)
  (of_decide_eq_true (by kernel_rfl)) (by unfold Func.isWrapper;first | (rw[aI (by decide +kernel)];kernel_rfl) | (rw[aw (by decide +kernel)];exact⟨rfl,rfl⟩))
  (fun os started H enc _ F=>by rw[OpenClaim.pre_eq_preRow];exact lifted os started H enc F)
theorem plain(f:FuncId)(fn:Func)(hf:Tryz.pinned.checked.prog.funcNamed "bitext/bitextlaw18.MatchValidates" = some f) (yf:Tryz.pinned.checked.prog.funcs[f]?=some fn) :
  false=Tryz.pinned.checked.prog.looks []∧∀ (j:Nat) t,fn.params[j]?=some t→Tryz.pinned.checked.prog.wantsStandIn t=false:=by
 obtain rfl:f=3:=ga ((show prog.funcNamed "bitext/bitextlaw18.MatchValidates" = some 3 by kernel_rfl).symm.trans hf) |>.symm;obtain rfl:fn=f3:=(ga (func3.symm.trans yf)).symm;refine⟨by kernel_rfl,fun j t ht=>?_⟩;rw[params3]at ht;have hm:t∈[24,25,3,3]:=by simpa using Array.mem_of_getElem? ht
 have iZ:([24,25,3,3].all fun u=>!prog.wantsStandIn u)=true:=by kernel_rfl
 exact(show prog.wantsStandIn t=false by simpa using bU.1 iZ t hm)
end Go.Proofs.YtlakkaamfadipaaGreatDoor.matchValidates
namespace Go.Proofs.YtlakkaamfadipaaGreatDoor
open Go
theorem matchValidatesUpto_card:Rows.MatchValidatesUptoCardSaid :=
 Claim7.holds_tied_plain_at .later [] _ _ _ _ matchValidates.said (fun _ h=>by cases h) (by kernel_rfl) (fun _ h=>by cases h) matchValidatesUpto_row_tie rfl ⟨rfl,rfl⟩ (by kernel_rfl) rfl matchValidates.plain (by kernel_rfl)
#print axioms matchValidatesUpto_card
end Go.Proofs.YtlakkaamfadipaaGreatDoor

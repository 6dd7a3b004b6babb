/- MatchScores returns true for every entry, every query and every list of integers, and leaves all that was there as it was. Condition: the total bulk of the arguments is at most 1048576. -/
import Derived.Test.YtlakkaamfadipaaGreatDoorS38
import Derived.Test.YtlakkaamfadipaaGreatDoorS41
set_option linter.all false

namespace Go.Proofs.Tryz
open Go Go.Pm Go.Bt
theorem yN(e:En)(q:Qr)(he:JO e)(hq:JM q)(l:List Int)(J:ae):PC prog 4 [.agg e.ah7,.agg q.ah7,.sl 1 (l.map bR)] J (fun r J'=>r=.b true∧J'=J) :=
 yO Hj e q he hq l J
end Go.Proofs.Tryz
namespace Go.Proofs.YtlakkaamfadipaaGreatDoor.matchScores
open Go Go.Pm Go.ChangeShapes Go.WideShapes Go.ChangeAt Go.RowKit Go.Proofs.Tryz
set_option maxRecDepth 100000 in
theorem O1(H:Type)(enc:TypeId×Value→H)(W:World)(base:Nat)(args:Array Value)(ds gs:List (DataW H))(before:List MemPlace)
  (qy:∀ (j:Nat) t v,f4.params[j]?=some t→args[j]?=some v→Value.okWide prog W .any base t v)
  (hW:DataW.Whole enc prog f4.params.toList Rows.matchScoresSpec.vars false W args.toList ds gs before) (hB:Rows.uptoBulkAll (ds++gs)≤1048576) (hL:laidMetH prog Rows.matchScoresUptoRow.laid W) :
  Calls prog 4 args W fun e W'=>∃ v,e=.returned v∧Rows.matchScoresSpec.post enc prog f4 false true false false W args v W':=by
 have hW':=hW;obtain⟨p,q,hA0,hV,rfl,hfz,nz⟩:=hW;have hA:DataW.TrodAll enc prog W 0 (fun _=>true) true f4.params.toList args.toList ds p:=hA0;have hp:f4.params=#[37,24,25]:=params4;rw[hp]at hA qy;obtain⟨v0,vs0,d0,ds0,p0,q0,afe,rfl,rfl,h0,r0⟩:=trodAll_cons hA;obtain⟨v1,ZN,d1,ds1,p1,q1,rfl,rfl,rfl,h1,r1⟩:=trodAll_cons r0;obtain⟨v2,ZM,d2,ds2,p2,q2,rfl,rfl,rfl,h2,r2⟩:=trodAll_cons r1;obtain⟨rfl,rfl,rfl⟩:=trodAll_nil r2;obtain rfl:args=#[v0,v1,v2]:=by cases args;simp_all
 obtain⟨rfl,rfl⟩:=trodVars_none hV;obtain⟨e,Gl,V1⟩:=Sr (fun _=>undef) (qy 0 37 v0 rfl rfl) h0 (aQ (rC (by simp)) hB);obtain⟨q,NX,Fl⟩:=VM (fun _=>undef) (qy 1 24 v1 rfl rfl) h1 (aQ (rC (by simp)) hB);obtain⟨l,PE,_⟩:=Pt (fun _=>undef) underlying25 underlying3 (by kernel_rfl) (qy 2 25 v2 rfl rfl) h2;refine(Qd hL (yN e q V1 Fl l []) (μ:=fun _=>undef) ⟨rfl,fun i y hy=>?_⟩).mono fun e W' ⟨he,hb⟩=>?_
 ·rcases i with _ | _ | _ | i
  ·simp only[bz,Nat.reduceAdd,aw,bI,aa]at hy;subst hy;exact Gl
  ·simp only[bz,Nat.reduceAdd,aw,bI,aa]at hy;subst hy;exact NX
  ·simp only[bz,Nat.reduceAdd,aw,bI,aa]at hy;subst hy;exact PE
  ·simp at hy
 ·exact⟨_,he,Kw rfl rfl (by kernel_rfl) hW' rfl hb⟩
theorem reads(os:Os){H:Type}(enc:TypeId×Value→H):∃ places,DataW.whole enc prog ((World.doorLaid prog 400 os).forCall (fun _ _=>0) ⟨#[],#[.agg #[.slice none 0 0,.slice none 0 0,.string ⟨#[]⟩,.string ⟨#[]⟩,.string ⟨#[]⟩,.string ⟨#[]⟩,.int .i64 0,.int .i64 0],.agg #[.slice none 0 0,.string ⟨#[]⟩,.string ⟨#[]⟩,.int .i64 0,.int .i64 0,.int .i64 0],.slice none 0 0],[]⟩).memory f4.params.toList Rows.matchScoresSpec.vars false #[(Value.agg #[.slice none 0 0,.slice none 0 0,.string ⟨#[]⟩,.string ⟨#[]⟩,.string ⟨#[]⟩,.string ⟨#[]⟩,.int .i64 0,.int .i64 0]),(Value.agg #[.slice none 0 0,.string ⟨#[]⟩,.string ⟨#[]⟩,.int .i64 0,.int .i64 0,.int .i64 0]),(Value.slice none 0 0)].toList 8=some ([.agg [.nil,.nil,.lit (.string []),.lit (.string []),.lit (.string []),.lit (.string []),.lit (.int .i64 0),.lit (.int .i64 0)],.agg [.nil,.lit (.string []),.lit (.string []),.lit (.int .i64 0),.lit (.int .i64 0),.lit (.int .i64 0)],.nil],[],places) :=
 ⟨[],by kernel_rfl⟩
set_option maxRecDepth 100000 in
theorem lifted(os:Os)(started:os.Started)(H:Type)(enc:TypeId×Value→H)(F:Stop.Interp):
  ReturnsInHanded {} Tryz.checked os 4 .any ((Rows.OpenSpec.upto Rows.matchScoresSpec).preRow enc prog f4 Rows.matchScoresUptoRow.domain false Rows.matchScoresUptoRow.laid) (((Rows.OpenSpec.upto Rows.matchScoresSpec).at F).post enc prog f4 false true false false):=by
 obtain⟨places,hx⟩:=reads os enc
 refine returnsInHanded_of_row (C:=Tryz.checked) (s:=Rows.OpenSpec.upto Rows.matchScoresSpec) own started (by kernel_rfl) func4
  (witness_row_at (enc:=enc) (C:=Tryz.checked) false (World.doorLaid prog 400 os) #[.agg #[.slice none 0 0,.slice none 0 0,.string ⟨#[]⟩,.string ⟨#[]⟩,.string ⟨#[]⟩,.string ⟨#[]⟩,.int .i64 0,.int .i64 0],.agg #[.slice none 0 0,.string ⟨#[]⟩,.string ⟨#[]⟩,.int .i64 0,.int .i64 0,.int .i64 0],.slice none 0 0] rfl (by kernel_rfl) (by kernel_rfl) (by kernel_rfl)
   (OpenSpec.preRow_of_cond 8 hx (by kernel_rfl) (fun k hk=>by cases hk;kernel_rfl) (by kernel_rfl) (NN os _))) ?_
 intro W base args ds gs before qy hW _ hk _ hL _ _;exact O1 H enc W base args ds gs before qy hW (of_decide_eq_true (hk _ rfl)) hL
set_option maxHeartbeats 80000000 in
set_option maxRecDepth 100000 in
theorem said:Rows.MatchScoresUptoSaid :=
 OpenClaim.holds_of_cond 4 f4 rfl rfl rfl rfl rfl rfl rfl ⟨rfl,rfl,rfl,rfl,rfl⟩ rfl rfl rfl rfl rfl (by kernel_rfl) func4 (by unfold joinedFacts;simp only[aO];(repeat' apply And.intro);all_goals as_aux_lemma=>kernel_rfl)
  (of_decide_eq_true (by kernel_rfl)) (by unfold Func.isWrapper;first | (rw[bf (by decide +kernel)];kernel_rfl) | (rw[aI (by decide +kernel)];exact⟨rfl,rfl⟩))
  (fun os started H enc _ F=>by rw[OpenClaim.pre_eq_preRow];exact lifted os started H enc F)
theorem plain(f:FuncId)(fn:Func)(hf:Tryz.pinned.checked.prog.funcNamed "bitext/bitextlaw18.MatchScores" = some f) (yZ:Tryz.pinned.checked.prog.funcs[f]?=some fn) :
  false=Tryz.pinned.checked.prog.looks []∧∀ (j:Nat) t,fn.params[j]?=some t→Tryz.pinned.checked.prog.wantsStandIn t=false:=by
 obtain rfl:f=4:=fX ((show prog.funcNamed "bitext/bitextlaw18.MatchScores" = some 4 by kernel_rfl).symm.trans hf) |>.symm;obtain rfl:fn=f4:=(fX (func4.symm.trans yZ)).symm;refine⟨by kernel_rfl,fun j t ht=>?_⟩;rw[params4]at ht;have hm:t∈[37,24,25]:=by simpa using Array.mem_of_getElem? ht
 have lF:([37,24,25].all fun u=>!prog.wantsStandIn u)=true:=by kernel_rfl
 exact(show prog.wantsStandIn t=false by simpa using cK.1 lF t hm)
end Go.Proofs.YtlakkaamfadipaaGreatDoor.matchScores
namespace Go.Proofs.YtlakkaamfadipaaGreatDoor
open Go
theorem matchScoresUpto_card:Rows.MatchScoresUptoCardSaid :=
 Claim7.holds_tied_plain_at .later [] _ _ _ _ matchScores.said (fun _ h=>by cases h) (by kernel_rfl) (fun _ h=>by cases h) matchScoresUpto_row_tie rfl ⟨rfl,rfl⟩ (by kernel_rfl) rfl matchScores.plain (by kernel_rfl)
#print axioms matchScoresUpto_card
end Go.Proofs.YtlakkaamfadipaaGreatDoor

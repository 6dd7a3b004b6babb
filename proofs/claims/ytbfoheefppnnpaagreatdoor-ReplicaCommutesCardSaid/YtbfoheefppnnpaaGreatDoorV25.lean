/- A part of the proof of the statement of the last text of this claim: for every two lists of integers ReplicaCommutes returns true and leaves the memory as it was. -/
import Derived.Test.YtbfoheefppnnpaaGreatDoorV13
import Derived.Test.YtbfoheefppnnpaaGreatDoorV14
import Derived.Test.YtbfoheefppnnpaaGreatDoorV24
set_option linter.all false

namespace Go.Proofs.Tryz
open Go Go.Pm Go.Bt
theorem ti_item:Ti Tryz.prog 79 3 32:=tiB_ok (by kernel_rfl)
theorem ti_u8:Ti Tryz.prog 5 1 1:=tiB_ok (by kernel_rfl)
theorem loop_norm {σ:Store} {K:Exit→St→Prop} (its:List It) (hcl:Closed σ) (hlen:its.length<2^40) :
  ∀ (n:Nat) (rest pre out:List It),its=pre++rest→rest.length≤n→textLen rest<2^40→out.length≤pre.length →
  (∀ j0 j1 j2 j4 j5 j6 j7 j8 j9 j10 j11 j12 j13 j14 j15 j16 j17 j18 j19 j20 j21 j22 j23 j24 j25 j26 j27 j28 j29 j30 j31 j32 j33 j34 j35 j36 j37 j38 j39 j40 j41 j42 j43 j44 j45 j46 j47 j48 j49 j50 j51 j52 j53 j54 j55,K (.exit 0) ⟨[j0,j1,j2,.own σ.length (out++normN n rest).length,j4,j5,j6,j7,j8,j9,j10,j11,j12,j13,j14,j15,j16,j17,j18,j19,j20,j21,j22,j23,j24,j25,j26,j27,j28,j29,j30,j31,j32,j33,j34,j35,j36,j37,j38,j39,j40,j41,j42,j43,j44,j45,j46,j47,j48,j49,j50,j51,j52,j53,j54,j55],σ++[.row 79 3 32 (out++normN n rest).length false ((out++normN n rest).map It.cells)]⟩) →
  Rnd σ.length Tryz.prog p148_1 K (n+1) ⟨[.sl 3 (its.map It.cells),.u,.u,.own σ.length out.length,.i .i64 pre.length,.u,.u,.u,.u,.u,.u,.u,.u,.u,.u,.u,.u,.u,.u,.u,.u,.u,.u,.u,.u,.u,.u,.u,.u,.u,.u,.u,.u,.u,.u,.u,.u,.u,.u,.u,.u,.u,.u,.u,.u,.u,.u,.u,.u,.u,.u,.u,.u,.u,.u,.u],σ++[.row 79 3 32 out.length false (out.map It.cells)]⟩
 | n,[],pre,out,he,hn,ht,ho,h1=>by
  have he:its=pre:=by simpa using he
  subst he
  have e:out++normN n []=out:=by cases n<;>simp [normN]
  rw [e] at h1
  refine rnd_step fun R hR=>?_
  simp only [p148_1,W,seval]
  exact ⟨fun h=>by simp at h,fun _=>h1 ..⟩
 | 0,x::rest,pre,out,he,hn,ht,ho,h1=>by simp at hn
 | n+1,x::rest,pre,out,he,hn,ht,ho,h1=>by
  subst he
  refine rnd_step fun R hR=>?_
  simp only [p148_1,It.cells,W,seval]
  refine ⟨fun _=>⟨by simp;omega,fun hk=>?_,fun hk=>?_⟩,fun h=>by simp at h;omega⟩
  ·simp at hk
   have e:out++normN (n+1) (x::rest)=(out++[x])++normN n rest:=by simp [normN,hk]
   rw [e] at h1
   have hr:out.map It.cells++[[.i .i64 x.kind,.s x.text,.i .i64 x.id]]=(out++[x]).map It.cells:=by simp [It.cells]
   have hl:out.length+1=(out++[x]).length:=by simp
   rw [hr,hl]
   simp only [textLen] at ht
   refine ⟨by simp;omega,?_,?_⟩
   ·simp at hlen
    simp [maxLen];omega
   ·refine hR _ (rnd_cvs ?_ (loop_norm _ hcl hlen n rest (pre++[x]) (out++[x]) (by simp) (by simp at hn;omega) (by omega) (by simp;omega) h1))
    rw [wrap_succ (by simp at hlen;omega)]
    simp only [List.length_append,List.length_cons,List.length_nil]
    repeat first | exact .nil | refine .cons (.refl _) ?_ | refine .cons (.forget _) ?_
  ·simp at hk
   obtain ⟨run,hrun⟩:=runText_split (x::rest)
   have hlr:=runText_short (r:=rest) hk
   have htt:=runText_text (x::rest)
   have hpl:(pre++x::rest).length - (runText (x::rest)).2.length=(pre++run).length:=by
    have:=congrArg List.length hrun
    simp only [List.length_append] at this ⊢
    omega
   refine PWc.wk ((Wk.promote_at (σ:=σ) [_] (k:=5) ti_u8 rfl).trans (Wk.cvs ?_)) (PWc.rnd ((x::rest).length+1) (loop_run _ out.length (out.map It.cells) hcl hlen (x::rest) pre [] 0 rfl (by simp;omega) ?_))
   ·simp only [W,seval]
    repeat first | exact .nil | refine .cons (.refl _) ?_ | refine .cons (.forget _) ?_
   ·intros
    rw [hpl,List.nil_append]
    simp only [bytesV_length,bytesOf_bytesV,W,seval]
    have hits:pre++x::rest=(pre++run)++(runText (x::rest)).2:=by rw [List.append_assoc,← hrun]
    have hrl:1≤run.length:=by
     have:=congrArg List.length hrun
     simp only [List.length_append,List.length_cons] at this
     omega
    refine ⟨fun h=>⟨?_,?_⟩,fun h=>?_⟩
    ·simp at hlen
     simp [maxLen];omega
    ·simp at h
     have e:out++normN (n+1) (x::rest)=(out++[⟨1,(runText (x::rest)).1,0⟩])++normN n (runText (x::rest)).2:=by
      have:¬ (runText (x::rest)).1.length=0:=by omega
      simp [normN,hk,this]
     rw [e] at h1
     have hr:out.map It.cells++[[.i .i64 1,.s (runText (x::rest)).1,.i .i64 0]]=(out++[(⟨1,(runText (x::rest)).1,0⟩:It)]).map It.cells:=by simp [It.cells]
     have hl:out.length+1=(out++[(⟨1,(runText (x::rest)).1,0⟩:It)]).length:=by simp
     rw [hr,hl]
     have hcl2:Closed (σ++[.row 79 3 32 (out++[(⟨1,(runText (x::rest)).1,0⟩:It)]).length false ((out++[(⟨1,(runText (x::rest)).1,0⟩:It)]).map It.cells)]):=closed_add hcl (by simp)
     refine hR _ (rnd_drop [_] [_] hcl2 ?_ ?_ (loop_norm _ hcl hlen n (runText (x::rest)).2 (pre++run) (out++[⟨1,(runText (x::rest)).1,0⟩]) hits (by simp at hn;omega) (by omega) (by simp;omega) h1))
     ·repeat first | exact .nil | refine .cons (.refl _) ?_ | refine .cons (.forget _) ?_
     ·simp only [LW,List.length_cons,List.length_nil,Nat.zero_add]
      omega
    ·simp at h
     have e:out++normN (n+1) (x::rest)=out++normN n (runText (x::rest)).2:=by
      simp [normN,hk,h]
     rw [e] at h1
     have hcl2:Closed (σ++[.row 79 3 32 out.length false (out.map It.cells)]):=closed_add hcl (by simp)
     refine hR _ (rnd_drop [_] [_] hcl2 ?_ ?_ (loop_norm _ hcl hlen n (runText (x::rest)).2 (pre++run) out hits (by simp at hn;omega) (by omega) (by simp;omega) h1))
     ·repeat first | exact .nil | refine .cons (.refl _) ?_ | refine .cons (.forget _) ?_
     ·simp only [LW,List.length_cons,List.length_nil,Nat.zero_add]
      omega
theorem normalize_pc (its:List It) (hlen:its.length<2^40) (ht:textLen its<2^40) (σ:Store):PC Tryz.prog 148 [.sl 3 (its.map It.cells)] σ (fun r σ'=>r=.sl 3 ((normalize its).map It.cells)∧σ'=σ):=by
 refine PC.intro Tryz.func148 c148 fun hcl hwf=>wpc_sound ?_
 simp only [p148,SS,seval]
 simp only [W,seval]
 refine PWc.wk ((Wk.promote (k:=3) ti_item rfl).trans (Wk.cvs ?_)) (PWc.rnd (its.length+1) (loop_norm its hcl hlen its.length its [] [] rfl (Nat.le_refl _) ht (Nat.le_refl _) ?_))
 ·simp only [W,seval]
  repeat first | exact .nil | refine .cons (.refl _) ?_ | refine .cons (.forget _) ?_
 ·intros
  simp only [W,seval]
  refine ret_fz 0 hcl (.inr rfl) rfl rfl ?_ ?_
  ·simp [fz,fz1,AllLt,lt_sl]
  ·simp [fz,fz1,one,normalize]
theorem loop108_0 {σ:Store} {K:Exit→St→Prop} (F:V) (fr to:List Int) (hfr:fr.length<2^63) :
  ∀ (i:Nat) (l:List (Int×Int)),i≤min fr.length to.length→(∀ x,getA x l=toF (fr.drop i) (to.drop i) x) →
  (∀ l,(∀ x,getA x l=toF fr to x)→(∀ j1 j2 j3 j4 j5 j6 j8 j9 j10 j11 j12 j13 j14 j15 j16 j17 j18 j19 j20 j21 j22 j23 j24 j25 j26 j27 j28 j29 j30 j31 j32 j33 j34 j35 j36 j37 j38 j39 j40 j41 j42 j43 j44 j45 j46 j47 j48 j49 j50 j51 j52 j53 j54 j55 j56 j57 j58 j59,K (.exit 0) ⟨[F,j1,j2,j3,j4,j5,j6,.mp σ.length,j8,j9,j10,j11,j12,j13,j14,j15,j16,j17,j18,j19,j20,j21,j22,j23,j24,j25,j26,j27,j28,j29,j30,j31,j32,j33,j34,j35,j36,j37,j38,j39,j40,j41,j42,j43,j44,j45,j46,j47,j48,j49,j50,j51,j52,j53,j54,j55,j56,j57,j58,j59],σ++[.map 3 3 (mapII l)]⟩)) →
  Rnd σ.length Tryz.prog p108_0 K (i+1) ⟨[F,.sl 1 (fr.map iRow),.sl 1 (to.map iRow),.u,.u,.u,.u,.mp σ.length,.i .i64 ((i:Int) - 1),.u,.u,.u,.u,.u,.u,.u,.u,.u,.u,.u,.u,.u,.u,.u,.u,.u,.u,.u,.u,.u,.u,.u,.u,.u,.u,.u,.u,.u,.u,.u,.u,.u,.u,.u,.u,.u,.u,.u,.u,.u,.u,.u,.u,.u,.u,.u,.u,.u,.u,.u],σ++[.map 3 3 (mapII l)]⟩
 | 0,l,hi,hl,h1=>by
  refine rnd_step fun R hR=>?_
  simp only [p108_0,W,seval]
  exact ⟨fun h=>by simp at h,fun _=>h1 l (by simpa using hl) ..⟩
 | i+1,l,hi,hl,h1=>by
  have hi1:i<fr.length:=by omega
  have hi2:i<to.length:=by omega
  have e0:((i+1:Nat):Int) - 1=(i:Nat):=by omega
  have hw:IntKind.i64.wrap ((i:Int) - 1)=(i:Int) - 1:=IntWalk.i64_in _ (by omega)
  have hnext:∀ x,getA x (updA l (fr.getD i 0) (to.getD i 0))=toF (fr.drop i) (to.drop i) x:=fun x=>by rw [getA_upd,toF_drop hi1 hi2,hl x]
  rw [e0]
  refine rnd_step fun R hR=>?_
  simp only [p108_0,Int.toNat_natCast,at2_iRow hi1,at2_iRow hi2,W,seval]
  rcases mapII_cases l (fr.getD i 0) with ⟨_,h3,h4⟩ | ⟨k,b,_,h3,h4⟩
  all_goals
   simp only [h3,hw,purifyV,h4,W,seval]
   refine ⟨fun _=>⟨by simp;omega,by simp;omega,by simp [V.mkey,V.mval,V.pure],?_⟩,fun h=>by simp at h<;>omega⟩
   refine hR _ (rnd_cvs ?_ (loop108_0 F fr to hfr i _ (by omega) hnext h1))
   repeat first | exact .nil | refine .cons (.refl _) ?_ | refine .cons (.forget _) ?_
theorem loop108_1 {σ:Store} {K:Exit→St→Prop} (its:List It) (fr to:List Int) (l:List (Int×Int)) (hcl:Closed σ) (hlen:its.length<2^40) (hl:∀ x,getA x l=toF fr to x):∀ (rest pre:List It) (out:List It),its=pre++rest→out.length≤pre.length →
  (∀ j0 j1 j2 j3 j4 j5 j6 j7 j8 j10 j11 j12 j13 j14 j15 j16 j17 j18 j19 j20 j21 j22 j23 j24 j25 j26 j27 j28 j29 j30 j31 j32 j33 j34 j35 j36 j37 j38 j39 j40 j41 j42 j43 j44 j45 j46 j47 j48 j49 j50 j51 j52 j53 j54 j55 j56 j57 j58 j59,K (.exit 2) ⟨[j0,j1,j2,j3,j4,j5,j6,j7,j8,.own (σ.length+1) (out++renamed rest fr to).length,j10,j11,j12,j13,j14,j15,j16,j17,j18,j19,j20,j21,j22,j23,j24,j25,j26,j27,j28,j29,j30,j31,j32,j33,j34,j35,j36,j37,j38,j39,j40,j41,j42,j43,j44,j45,j46,j47,j48,j49,j50,j51,j52,j53,j54,j55,j56,j57,j58,j59],σ++[.map 3 3 (mapII l),.row 79 3 32 (out++renamed rest fr to).length false ((out++renamed rest fr to).map It.cells)]⟩) →
  Rnd σ.length Tryz.prog p108_1 K (rest.length+1) ⟨[.u,.u,.u,.u,.u,.u,.u,.mp σ.length,.u,.own (σ.length+1) out.length,.u,.u,.u,.u,.u,.u,.u,.u,.u,.u,.u,.u,.u,.u,.u,.u,.u,.u,.u,.u,.u,.u,.u,.u,.sl 3 (its.map It.cells),.i .i64 its.length,.i .i64 pre.length,.u,.u,.u,.u,.u,.u,.u,.u,.u,.u,.u,.u,.u,.u,.u,.u,.u,.u,.u,.u,.u,.u,.u],σ++[.map 3 3 (mapII l),.row 79 3 32 out.length false (out.map It.cells)]⟩:=by
 intro rest
 induction rest with
 | nil =>
  intro pre out he ho h1
  have he:its=pre:=by simpa using he
  subst he
  have e:out++renamed [] fr to=out:=by simp [renamed]
  rw [e] at h1
  refine rnd_step fun R hR=>?_
  simp only [p108_1,W,seval]
  exact ⟨fun h=>by simp at h,fun _=>h1 ..⟩
 | cons x rest ih =>
  intro pre out he ho h1
  subst he
  have hw:IntKind.i64.wrap ((pre.length:Int)+1)=(((pre++[x]).length:Nat):Int):=by
   rw [wrap_succ (by simp at hlen;omega)];simp
  have hit:pre++x::rest=(pre++[x])++rest:=by simp
  have put:∀ (y:It),ren fr to x=some y→∀ {R:St→Prop} {f0:List V} ,(∀ st',Rnd σ.length Tryz.prog p108_1 K (rest.length+1) st'→R st')→Cvs f0 [.u,.u,.u,.u,.u,.u,.u,.mp σ.length,.u,.own (σ.length+1) (out++[y]).length,.u,.u,.u,.u,.u,.u,.u,.u,.u,.u,.u,.u,.u,.u,.u,.u,.u,.u,.u,.u,.u,.u,.u,.u,.sl 3 ((pre++x::rest).map It.cells),.i .i64 (pre++x::rest).length,.i .i64 (pre++[x]).length,.u,.u,.u,.u,.u,.u,.u,.u,.u,.u,.u,.u,.u,.u,.u,.u,.u,.u,.u,.u,.u,.u,.u] →
    R ⟨f0,σ++[.map 3 3 (mapII l),.row 79 3 32 (out++[y]).length false ((out++[y]).map It.cells),.box 79 y.cells]⟩:=fun y hy R f0 hR hc=>by
   have e:out++renamed (x::rest) fr to=(out++[y])++renamed rest fr to:=by simp [renamed,hy]
   rw [e] at h1
   have hcl2:Closed (σ++[.map 3 3 (mapII l),.row 79 3 32 (out++[y]).length false ((out++[y]).map It.cells)]):=closed_add hcl (by simp)
   refine hR _ (rnd_drop [_,_] [_] hcl2 hc ?_ (ih (pre++[x]) (out++[y]) hit (by simp;omega) h1))
   simp only [LW,List.length_cons,List.length_nil,Nat.zero_add]
   omega
  have okA:∀ (m:Nat),m≤pre.length→((m+1)*32≤2^47∧m+1≤maxLen):=fun m hm=>by simp at hlen;simp [maxLen];omega
  have hrow:∀ (y:It),out.map It.cells++[[.i .i64 y.kind,.s y.text,.i .i64 y.id]]=(out++[y]).map It.cells:=fun y=>by simp [It.cells]
  have hlo:∀ (y:It),out.length+1=(out++[y]).length:=fun y=>by simp
  refine rnd_step fun R hR=>?_
  simp only [p108_1,It.cells,W,seval]
  refine ⟨fun _=>⟨by simp;omega,?_⟩,fun h=>by simp at h;omega⟩
  refine call_eq (isTag_pc x _) rfl ?_
  simp only [W,seval]
  refine ⟨fun ht=>?_,fun ht=>?_⟩
  ·have hf:∀ s,mapFind (σ++(.map 3 3 (mapII l))::s) 0 (.mp σ.length) (.i .i64 x.id)=findV 0 (.i .i64 x.id) (mapII l) 0:=fun s=>by simp only [mapFind,base_get0,List.getElem?_cons_zero]
   rcases mapII_cases l x.id with ⟨h2,h3,h4⟩ | ⟨k,b,h2,h3,h4⟩
   ·have hren:ren fr to x=none:=by simp only [ren,ht,if_true,← hl x.id,h2,Option.map_none]
    have e:out++renamed (x::rest) fr to=out++renamed rest fr to:=by simp [renamed,hren]
    rw [e] at h1
    simp only [hf,h3,W,seval]
    refine ⟨by simp [V.mkey],?_⟩
    have hcl2:Closed (σ++[.map 3 3 (mapII l),.row 79 3 32 out.length false (out.map It.cells)]):=closed_add hcl (by simp)
    refine hR _ (rnd_drop [_,_] [_] hcl2 ?_ ?_ (ih (pre++[x]) out hit (by simp;omega) h1))
    ·rw [hw];repeat first | exact .nil | refine .cons (.refl _) ?_ | refine .cons (.forget _) ?_
    ·simp only [LW,List.length_cons,List.length_nil,Nat.zero_add]
     omega
   ·have hren:ren fr to x=some ⟨x.kind,x.text,b⟩:=by simp only [ren,ht,if_true,← hl x.id,h2,Option.map_some]
    simp only [hf,h3,W,seval]
    refine ⟨by simp [V.mkey],⟨okA _ (by rw [List.length_map];exact ho),?_⟩⟩
    rw [hlo ⟨x.kind,x.text,b⟩,hrow ⟨x.kind,x.text,b⟩]
    refine put _ hren hR ?_
    rw [hw];repeat first | exact .nil | refine .cons (.refl _) ?_ | refine .cons (.forget _) ?_
  ·have hren:ren fr to x=some x:=by simp only [ren,ht];rfl
   refine ⟨okA _ (by rw [List.length_map];exact ho),?_⟩
   rw [hlo x,hrow x]
   refine put _ hren hR ?_
   rw [hw];repeat first | exact .nil | refine .cons (.refl _) ?_ | refine .cons (.forget _) ?_
theorem rename_pc (its:List It) (fr to:List Int) (hlen:its.length<2^40) (ht:textLen its<2^40) (σ:Store):PC Tryz.prog 108 [.sl 3 (its.map It.cells),.sl 1 (fr.map iRow),.sl 1 (to.map iRow)] σ (fun r σ'=>r=.sl 3 ((rename its fr to).map It.cells)∧σ'=σ):=by
 refine PC.intro Tryz.func108 c108 fun hcl hwf=>wpc_sound ?_
 have hfr:=wf_sl (hwf 1 _ rfl).1
 have hto:=wf_sl (hwf 2 _ rfl).1
 rw [List.length_map] at hfr hto
 simp only [p108,SS,seval]
 simp only [List.length_map,W,seval]
 have hmin:IntKind.i64.wrap ((if ((to.length:Int)<(fr.length:Int)) then (to.length:Int) else (fr.length:Int)) - 1)=((min fr.length to.length:Nat):Int) - 1:=by
  rw [IntWalk.i64_in _ (by split<;>omega)]
  split<;>omega
 rw [hmin]
 refine PWc.rnd_cvs (fr':=[.sl 3 (its.map It.cells),.sl 1 (fr.map iRow),.sl 1 (to.map iRow),.u,.u,.u,.u,.mp σ.length,.i .i64 (((min fr.length to.length:Nat):Int) - 1),.u,.u,.u,.u,.u,.u,.u,.u,.u,.u,.u,.u,.u,.u,.u,.u,.u,.u,.u,.u,.u,.u,.u,.u,.u,.u,.u,.u,.u,.u,.u,.u,.u,.u,.u,.u,.u,.u,.u,.u,.u,.u,.u,.u,.u,.u,.u,.u,.u,.u,.u]) ?_ _ (loop108_0 _ fr to hfr (min fr.length to.length) [] (Nat.le_refl _) (fun x=>by rw [toF_end (Nat.le_refl _)];rfl) ?_)
 ·repeat first | exact .nil | refine .cons (.refl _) ?_ | refine .cons (.forget _) ?_
 ·intro l hl
  intros
  simp only [List.length_map,W,seval]
  refine PWc.wk ((Wk.promote_at (σ:=σ) [_] (k:=9) ti_item rfl).trans (Wk.cvs ?_)) (PWc.rnd (its.length+1) (loop108_1 its fr to l hcl hlen hl its [] [] rfl (Nat.le_refl _) ?_))
  ·simp only [W,seval]
   repeat first | exact .nil | refine .cons (.refl _) ?_ | refine .cons (.forget _) ?_
  ·intros
   simp only [List.nil_append,W,seval]
   refine call_fz (σ.length+1) (by simp only [base_get];rfl) (normalize_pc (renamed its fr to) (Nat.lt_of_le_of_lt (renamed_len _ _ _) hlen) (Nat.lt_of_le_of_lt (renamed_text _ _ _) ht) _) (by simp [fz,fz1,ev]) ?_
   simp only [W,seval]
   exact ret_end hcl (.inr rfl) rfl (by simp only [LW]) ⟨rfl,rfl⟩
theorem loop68 {σ:Store} {K:Exit→St→Prop} (A B:V) (m:List Int) (hlen:m.length<2^40):∀ (rest pre l:List Int) (g:Nat) (sh:Bool),m=pre++rest→l.length+rest.length<2^40 →
  (∀ g sh,(∀ j2 j3 j4 j5 j7 j8 j9 j10 j11 j12 j13 j14 j15 j16 j17 j18 j19 j20 j21 j22 j23 j24 j25 j26 j27 j28 j29 j30 j31 j32 j33 j34 j35 j36 j37 j38,K (.exit 0) ⟨[A,B,j2,j3,j4,j5,.own σ.length g,j7,j8,j9,j10,j11,j12,j13,j14,j15,j16,j17,j18,j19,j20,j21,j22,j23,j24,j25,j26,j27,j28,j29,j30,j31,j32,j33,j34,j35,j36,j37,j38],σ++[.row 3 1 8 g sh ((moreNumbers l rest).map iRow)]⟩)) →
  Rnd σ.length Tryz.prog p68_0 K (rest.length+1) ⟨[A,B,.u,.u,.u,.u,.own σ.length g,.u,.u,.u,.u,.u,.sl 1 (m.map iRow),.i .i64 m.length,.i .i64 pre.length,.u,.u,.u,.u,.u,.u,.u,.u,.u,.u,.u,.u,.u,.u,.u,.u,.u,.u,.u,.u,.u,.u,.u,.u],σ++[.row 3 1 8 g sh (l.map iRow)]⟩:=by
 intro rest
 induction rest with
 | nil =>
  intro pre l g sh he hl h1
  have he:m=pre:=by simpa using he
  subst he
  refine rnd_step fun R hR=>?_
  simp only [p68_0,W,seval]
  exact ⟨fun h=>by simp at h,fun _=>h1 _ _ ..⟩
 | cons x rest ih =>
  intro pre l g sh he hl h1
  subst he
  have hw:IntKind.i64.wrap ((pre.length:Int)+1)=(((pre++[x]).length:Nat):Int):=by
   rw [wrap_succ (by simp at hlen;omega)];simp
  have hit:pre++x::rest=(pre++[x])++rest:=by simp
  refine rnd_step fun R hR=>?_
  simp only [p68_0,iRow,W,seval]
  refine ⟨fun _=>⟨by simp;omega,?_⟩,fun h=>by simp at h<;>omega⟩
  refine call_fz σ.length (by simp only [base_get0];rfl) (containsInt_pc l x _) (by simp [fz,fz1,ev,iRow]) ?_
  simp only [W,seval]
  simp only [List.length_cons] at hl
  refine ⟨fun h=>⟨?_,?_⟩,fun h=>?_⟩
  ·simp [maxLen];omega
  ·have e:moreNumbers l (x::rest)=moreNumbers (l++[x]) rest:=by
    simp at h
    simp [moreNumbers,h]
   rw [e] at h1
   have hr:List.map (fun n=>[V.i .i64 n]) l++[[.i .i64 x]]=(l++[x]).map iRow:=by simp [iRow]
   refine hR _ ?_
   have hr2:l.map iRow++[[.i .i64 x]]=(l++[x]).map iRow:=by simp [iRow]
   rw [hr2]
   refine rnd_cvs ?_ (ih (pre++[x]) (l++[x]) (g+1) _ hit (by simp;omega) h1)
   rw [hw];repeat first | exact .nil | refine .cons (.refl _) ?_ | refine .cons (.forget _) ?_
  ·have e:moreNumbers l (x::rest)=moreNumbers l rest:=by
    simp at h
    simp [moreNumbers,h]
   rw [e] at h1
   refine hR _ (rnd_cvs ?_ (ih (pre++[x]) l g _ hit (by omega) h1))
   rw [hw];repeat first | exact .nil | refine .cons (.refl _) ?_ | refine .cons (.forget _) ?_
theorem canonical_pc (s t:List It) (hs:s.length<2^39) (ht:t.length<2^39) (hs2:textLen s<2^40) (ht2:textLen t<2^40) (σ:Store):PC Tryz.prog 68 [.sl 3 (s.map It.cells),.sl 3 (t.map It.cells)] σ (fun r σ'=>r=.tup [.sl 3 ((canonS s t).map It.cells),.sl 3 ((canonT s t).map It.cells)]∧σ'=σ):=by
 refine PC.intro Tryz.func68 c68 fun hcl hwf=>wpc_sound ?_
 have h1:=numbers_len s
 have h2:=numbers_len t
 have h3:=moreNumbers_len (numbers t) (numbers s)
 simp only [p68,SS,seval]
 simp only [W,seval]
 refine call_eq (numbers_own s (by omega) _) rfl ?_
 simp only [W,seval]
 refine call_eq (numbers_pc t (by omega) _) rfl ?_
 simp only [List.length_map,W,seval]
 refine PWc.rnd_cvs ?_ ((numbers t).length+1) (loop68 (.sl 3 (s.map It.cells)) (.sl 3 (t.map It.cells)) (numbers t) (by omega) (numbers t) [] (numbers s) 0 false rfl (by omega) ?_)
 ·repeat first | exact .nil | refine .cons (.refl _) ?_ | refine .cons (.forget _) ?_
 ·intro g sh
  intros
  simp only [W,seval]
  have hc:(moreNumbers (numbers s) (numbers t)).length<2^40:=by omega
  refine call_eq (counting_pc (moreNumbers (numbers s) (numbers t)).length hc _) (by simp [ev]) ?_
  simp only [W,seval]
  refine call_fz σ.length (by simp only [base_get0];rfl) (rename_pc s (canonNumbers s t) (counting (canonNumbers s t).length) (by omega) hs2 _) (by simp [fz,fz1,ev,canonNumbers]) ?_
  simp only [W,seval]
  refine call_eq (counting_pc (moreNumbers (numbers s) (numbers t)).length hc _) (by simp [ev]) ?_
  simp only [W,seval]
  refine call_fz σ.length (by simp only [base_get0];rfl) (rename_pc t (canonNumbers s t) (counting (canonNumbers s t).length) (by omega) ht2 _) (by simp [fz,fz1,ev,canonNumbers]) ?_
  simp only [W,seval]
  exact ret_end hcl (.inr rfl) rfl (by simp only [LW]) ⟨rfl,rfl⟩
theorem hex_pc (c:UInt8) (σ:Store):PC Tryz.prog 171 [.i .u8 c.toNat] σ (fun r σ'=>r=.tup [.i .u8 (hexOf c).1.toNat,.b (hexOf c).2]∧σ'=σ):=by
 refine PC.intro Tryz.func171 c171 fun hcl hwf=>wpc_sound ?_
 simp only [p171,SS,seval]
 simp only [W,seval]
 refine ⟨fun h=>?_,fun h=>⟨fun h2=>?_,fun h2=>?_⟩⟩<;>refine ret_end0 (.inr rfl) rfl ?_
 ·simp at h
  have:=hex_dig c (by omega)
  simp [one,this]
 ·simp at h2
  have:=hex_let c (by omega)
  simp [one,this]
 ·simp at h h2
  have:=hex_no c (by omega) (by omega)
  simp [one,this]
theorem plain_pc (c:UInt8) (σ:Store):PC Tryz.prog 152 [.i .u8 c.toNat] σ (fun r σ'=>r=.b (plainB c)∧σ'=σ):=by
 refine PC.intro Tryz.func152 c152 fun hcl hwf=>wpc_sound ?_
 simp only [p152,SS,seval]
 simp only [W,seval]
 refine callg_eq (by simp only [W,seval];rfl) (fun _=>classOf_pc c _) rfl ?_
 simp only [W,seval]
 refine ret_end0 (.inr rfl) rfl ⟨?_,rfl⟩
 simp only [one,plainB,List.getD_cons_zero,List.getD_cons_succ,V.b.injEq]
 simp only [← u8_bne]
 rfl
theorem escape_pc (s:List UInt8) (σ:Store):PC Tryz.prog 149 [.s s] σ (fun r σ'=>r=.tup [.i .u8 (escapeOf s).1.toNat,.i .i64 (escapeOf s).2.1,.b (escapeOf s).2.2]∧σ'=σ):=by
 refine PC.intro Tryz.func149 c149 fun hcl hwf=>wpc_sound ?_
 simp only [p149,SS,seval]
 by_cases h2:s.length<2
 ·have d2:decide ((s.length:Int)<2)=true:=by simp;omega
  simp only [d2,W,Int.reduceToNat,reduceIte,reduceCtorEq]
  refine ret_end0 (.inr rfl) rfl ⟨?_,rfl⟩
  simp [one,escapeOf,h2]
 have d2:decide ((s.length:Int)<2)=false:=by simp;omega
 have bnd:(0:Int)≤1∧(1:Int)<s.length:=by omega
 by_cases c92:s.getD 1 0=92
 ·simp only [d2,u8y (k:=92) c92 rfl,W,Int.reduceToNat,reduceIte,reduceCtorEq]
  repeat refine And.intro bnd ?_
  refine ret_end0 (.inr rfl) rfl ⟨?_,rfl⟩
  have e:escapeOf s=(s.getD 1 0,2,true):=by simp [escapeOf,h2,← List.getD_eq_getElem?_getD,c92]
  rw [e];rfl
 by_cases c60:s.getD 1 0=60
 ·simp only [d2,u8n (k:=92) c92 rfl,u8y (k:=60) c60 rfl,W,Int.reduceToNat,reduceIte,reduceCtorEq]
  repeat refine And.intro bnd ?_
  refine ret_end0 (.inr rfl) rfl ⟨?_,rfl⟩
  have e:escapeOf s=(s.getD 1 0,2,true):=by simp [escapeOf,h2,← List.getD_eq_getElem?_getD,c92,c60]
  rw [e];rfl
 by_cases c123:s.getD 1 0=123
 ·simp only [d2,u8n (k:=92) c92 rfl,u8n (k:=60) c60 rfl,u8y (k:=123) c123 rfl,W,Int.reduceToNat,reduceIte,reduceCtorEq]
  repeat refine And.intro bnd ?_
  refine ret_end0 (.inr rfl) rfl ⟨?_,rfl⟩
  have e:escapeOf s=(s.getD 1 0,2,true):=by simp [escapeOf,h2,← List.getD_eq_getElem?_getD,c92,c60,c123]
  rw [e];rfl
 by_cases c110:s.getD 1 0=110
 ·simp only [d2,u8n (k:=92) c92 rfl,u8n (k:=60) c60 rfl,u8n (k:=123) c123 rfl,u8y (k:=110) c110 rfl,W,Int.reduceToNat,reduceIte,reduceCtorEq]
  repeat refine And.intro bnd ?_
  refine ret_end0 (.inr rfl) rfl ⟨?_,rfl⟩
  have e:escapeOf s=(10,2,true):=by simp [escapeOf,h2,← List.getD_eq_getElem?_getD,c92,c60,c123,c110]
  rw [e];rfl
 by_cases c116:s.getD 1 0=116
 ·simp only [d2,u8n (k:=92) c92 rfl,u8n (k:=60) c60 rfl,u8n (k:=123) c123 rfl,u8n (k:=110) c110 rfl,u8y (k:=116) c116 rfl,W,Int.reduceToNat,reduceIte,reduceCtorEq]
  repeat refine And.intro bnd ?_
  refine ret_end0 (.inr rfl) rfl ⟨?_,rfl⟩
  have e:escapeOf s=(9,2,true):=by simp [escapeOf,h2,← List.getD_eq_getElem?_getD,c92,c60,c123,c110,c116]
  rw [e];rfl
 have all:∀ {c:UInt8},s.getD 1 0=c→c=120→escapeOf s=if s.length<4 then (0,0,false) else (hexByte (s.getD 2 0) (s.getD 3 0),4,(hexOf (s.getD 2 0)).2&&(hexOf (s.getD 3 0)).2&&(hexByte (s.getD 2 0) (s.getD 3 0)==13||classOf (hexByte (s.getD 2 0) (s.getD 3 0))==1)):=by
  rintro c h rfl
  simp only [escapeOf,h2,h,if_false]
  rfl
 by_cases c120:s.getD 1 0=120
 ·have e:=all c120 rfl
  by_cases h4:s.length<4
  ·have d4:decide ((s.length:Int)<4)=true:=by simp;omega
   simp only [d2,d4,u8n (k:=92) c92 rfl,u8n (k:=60) c60 rfl,u8n (k:=123) c123 rfl,u8n (k:=110) c110 rfl,u8n (k:=116) c116 rfl,u8y (k:=120) c120 rfl,W,Int.reduceToNat,reduceIte,reduceCtorEq]
   repeat refine And.intro bnd ?_
   refine ret_end0 (.inr rfl) rfl ⟨?_,rfl⟩
   rw [e,if_pos h4];rfl
  have d4:decide ((s.length:Int)<4)=false:=by simp;omega
  rw [if_neg h4] at e
  simp only [d2,d4,u8n (k:=92) c92 rfl,u8n (k:=60) c60 rfl,u8n (k:=123) c123 rfl,u8n (k:=110) c110 rfl,u8n (k:=116) c116 rfl,u8y (k:=120) c120 rfl,W,Int.reduceToNat,reduceIte,reduceCtorEq]
  repeat refine And.intro bnd ?_
  refine ⟨by omega,?_⟩
  refine call_eq (hex_pc (s.getD 2 0) _) rfl ?_
  simp only [Int.reduceToNat,W,Int.reduceToNat]
  refine ⟨by omega,?_⟩
  refine call_eq (hex_pc (s.getD 3 0) _) rfl ?_
  simp only [hexByte_or,W,Int.reduceToNat,reduceIte]
  refine ⟨by omega,?_⟩
  refine callg_eq (by simp only [W];rfl) (fun _=>classOf_pc (hexByte (s.getD 2 0) (s.getD 3 0)) _) rfl ?_
  simp only [W,reduceIte]
  refine ret_end0 (.inr rfl) rfl ⟨?_,rfl⟩
  rw [e]
  simp only [one,List.getD_cons_zero,List.getD_cons_succ]
  rw [← u8_beq];rfl
 ·simp only [d2,u8n (k:=92) c92 rfl,u8n (k:=60) c60 rfl,u8n (k:=123) c123 rfl,u8n (k:=110) c110 rfl,u8n (k:=116) c116 rfl,u8n (k:=120) c120 rfl,W,Int.reduceToNat,reduceIte,reduceCtorEq]
  repeat refine And.intro bnd ?_
  refine ret_end0 (.inr rfl) rfl ⟨?_,rfl⟩
  have e:escapeOf s=(0,0,false):=by simp [escapeOf,h2,← List.getD_eq_getElem?_getD,c92,c60,c123,c110,c116,c120]
  rw [e];rfl
theorem loop176 {σ:Store} {K:Exit→St→Prop} (s:List UInt8) (hlen:s.length<4):∀ (rest pre:List UInt8) (n:Int),s=pre++rest→0≤n→n<10^pre.length →
  (rest.all digitB=true→(∀ j0 j1 j2 j3 j5 j6 j7 j8 j9 j10 j11 j12 j13 j14 j15 j16 j17 j18 j19 j20 j21 j22 j23 j24 j25 j26 j27 j28 j29 j30 j31 j32 j33 j34 j35 j36 j37 j38 j39 j40 j41 j42 j43 j44 j45,K (.exit 0) ⟨[j0,j1,j2,j3,.i .i64 (decFrom n rest),j5,j6,j7,j8,j9,j10,j11,j12,j13,j14,j15,j16,j17,j18,j19,j20,j21,j22,j23,j24,j25,j26,j27,j28,j29,j30,j31,j32,j33,j34,j35,j36,j37,j38,j39,j40,j41,j42,j43,j44,j45],σ⟩)) →
  (rest.all digitB=false→(∀ j0 j1 j4 j5 j6 j7 j8 j9 j10 j11 j12 j13 j14 j15 j16 j17 j18 j19 j20 j21 j22 j23 j24 j25 j26 j27 j28 j29 j30 j31 j32 j33 j34 j35 j36 j37 j38 j39 j40 j41 j42 j43 j44 j45,K .ret ⟨[j0,j1,.i .i64 0,.b false,j4,j5,j6,j7,j8,j9,j10,j11,j12,j13,j14,j15,j16,j17,j18,j19,j20,j21,j22,j23,j24,j25,j26,j27,j28,j29,j30,j31,j32,j33,j34,j35,j36,j37,j38,j39,j40,j41,j42,j43,j44,j45],σ⟩)) →
  Rnd σ.length Tryz.prog p176_0 K (rest.length+1) ⟨[.s s,.u,.u,.u,.i .i64 n,.i .i64 pre.length,.u,.u,.u,.u,.u,.u,.u,.u,.u,.u,.u,.u,.u,.u,.u,.u,.u,.u,.u,.u,.u,.u,.u,.u,.u,.u,.u,.u,.u,.u,.u,.u,.u,.u,.u,.u,.u,.u,.u,.u],σ⟩:=by
 intro rest
 induction rest with
 | nil =>
  intro pre n he hn hn2 h1 h2
  have he:s=pre:=by simpa using he
  subst he
  refine rnd_step fun R hR=>?_
  simp only [p176_0,W,seval]
  exact ⟨fun h=>by simp at h,fun _=>h1 rfl ..⟩
 | cons c rest ih =>
  intro pre n he hn hn2 h1 h2
  subst he
  refine rnd_step fun R hR=>?_
  simp only [p176_0,W,seval]
  have hd:digitB c=!(decide ((c.toNat:Int)<48)||decide (57<(c.toNat:Int))):=by
   rw [Bool.eq_iff_iff];simp [digitB];omega
  refine ⟨fun _=>⟨by simp;omega,fun _=>by simp;omega,fun h=>?_,fun h=>⟨by simp;omega,?_⟩⟩,fun h=>by simp at h<;>omega⟩
  ·rw [h] at hd
   exact h2 (by simp [hd]) ..
  ·rw [h] at hd
   have hd:digitB c=true:=hd
   have hpl:pre.length<3:=by simp at hlen;omega
   have hp:(10:Int)^pre.length≤10^2:=by
    have:pre.length=0∨pre.length=1∨pre.length=2:=by omega
    rcases this with h | h | h<;>rw [h]<;>decide
   have hb:=hd
   simp only [digitB,Bool.and_eq_true,decide_eq_true_eq] at hb
   have hn100:n<100:=Int.lt_of_lt_of_le hn2 (by simpa using hp)
   have e0:IntKind.i64.wrap (IntKind.i64.wrap (10*n)+IntKind.i64.wrap (IntKind.u8.wrap ((c.toNat:Int) - 48)))=10*n+(c.toNat - 48:Int):=by
    rw [u8_sub48 c hd,IntWalk.i64_in (10*n) (by omega),IntWalk.i64_in ((c.toNat:Int) - 48) (by omega),IntWalk.i64_in _ (by omega)]
   have e1:decFrom n (c::rest)=decFrom (10*n+(c.toNat - 48:Int)) rest:=rfl
   have e2:(c::rest).all digitB=rest.all digitB:=by simp [hd]
   rw [e1,e2] at h1
   rw [e2] at h2
   refine hR _ (rnd_cvs ?_ (ih (pre++[c]) (10*n+(c.toNat - 48:Int)) (by simp) (by omega) ?_ h1 h2))
   ·rw [e0,wrap_succ (by simp at hlen;omega)]
    simp only [List.length_append,List.length_cons,List.length_nil]
    repeat first | exact .nil | refine .cons (.refl _) ?_ | refine .cons (.forget _) ?_
   ·simp only [List.length_append,List.length_cons,List.length_nil,Int.pow_succ]
    omega
theorem number_pc (s:List UInt8) (σ:Store):PC Tryz.prog 176 [.s s] σ (fun r σ'=>r=.tup [.i .i64 (numberOf s).1,.b (numberOf s).2]∧σ'=σ):=by
 refine PC.intro Tryz.func176 c176 fun hcl hwf=>wpc_sound ?_
 simp only [p176,SS,seval]
 by_cases h1:s.length<1∨3<s.length∨s.getD 0 0=48
 ·have e:numberOf s=(0,false):=by simp only [numberOf,h1,if_true]
  have e2:((decide ((s.length:Int)<1)||decide (3<(s.length:Int)))||(((s.getD 0 0).toNat:Int)==48))=true:=by
   rcases h1 with h | h | h
   ·simp;omega
   ·simp;omega
   ·rw [u8y (k:=48) h rfl];simp
  simp only [Int.reduceToNat,e2,W,seval]
  refine ⟨fun h=>?_,ret_end0 (.inr rfl) rfl ⟨by rw [e];rfl,rfl⟩⟩
  simp at h;omega
 ·have hl:¬ s.length<1∧¬ 3<s.length∧¬ s.getD 0 0=48:=by
   refine ⟨fun h=>h1 (.inl h),fun h=>h1 (.inr (.inl h)),fun h=>h1 (.inr (.inr h))⟩
  have e2:((decide ((s.length:Int)<1)||decide (3<(s.length:Int)))||(((s.getD 0 0).toNat:Int)==48))=false:=by
   rw [u8n (k:=48) hl.2.2 rfl];simp;omega
  simp only [e2,W,seval]
  refine ⟨fun _=>by omega,?_⟩
  refine PWc.rnd_cvs ?_ (s.length+1) (loop176 s (by omega) s [] 0 rfl (Int.le_refl _) (by decide) (fun ha=>?_) (fun ha=>?_))
  ·repeat first | exact .nil | refine .cons (.refl _) ?_ | refine .cons (.forget _) ?_
  ·intros
   simp only [W,seval]
   refine ret_end0 (.inr rfl) rfl ⟨?_,rfl⟩
   have h3:=decFrom_le s 0 s.length rfl ha (Int.le_refl _)
   have hp:(10:Int)^s.length≤10^3:=by
    have:s.length=1∨s.length=2∨s.length=3:=by omega
    rcases this with h | h | h<;>rw [h]<;>decide
   have h4:decFrom 0 s≤999:=by omega
   have e:numberOf s=(decFrom 0 s,true):=by simp only [numberOf,if_neg h1,ha,if_true]
   rw [e];simp [one,h4]
  ·intros
   refine ret_end0 (.inr rfl) rfl ⟨?_,rfl⟩
   have e:numberOf s=(0,false):=by simp only [numberOf,if_neg h1,ha];rfl
   rw [e];rfl
theorem tag_pc (s:List UInt8) (σ:Store):PC Tryz.prog 151 [.s s] σ (fun r σ'=>r=.tup [.agg (tagOf s).1.cells,.b (tagOf s).2]∧σ'=σ):=by
 refine PC.intro Tryz.func151 c151 fun hcl hwf=>wpc_sound ?_
 have hlen:=wf_s (hwf 0 _ rfl).1
 simp only [p151,SS,seval]
 simp only [VV,seval]
 refine call_eq (hasPrefix_pc s [47] _) rfl ?_
 simp only [VV,seval]
 refine ⟨fun hp=>?_,fun hp=>?_⟩
 ·have hl:1≤s.length:=by
   simp only [hasPrefix,Bool.and_eq_true,decide_eq_true_eq] at hp
   simpa using hp.1
  have e0:(s.drop 1).take (s.length - 1)=s.drop 1:=by
   rw [List.take_of_length_le];simp
  refine ⟨by omega,?_⟩
  refine call_eq (cut_pc (s.drop 1) 58 _) (by simp only [List.map_cons,List.map_nil,VV,seval];rw [e0]) ?_
  simp only [VV,seval]
  generalize hq:cutAt (s.drop 1) 58=q
  obtain ⟨a,b,f⟩:=q
  refine callg_eq (c:=false) (v:=.b false) (by simp only [VV,seval]<;>rfl) (fun h=>by simp at h) rfl ?_
  simp only [VV,seval]
  refine call_eq (number_pc a _) rfl ?_
  simp only [VV,seval]
  cases f with
  | false =>
   have e:tagOf s=(⟨0,[],0⟩,false):=by unfold tagOf;simp only [hp,if_true,hq];simp
   simp only [VV,seval]
   rw [e]
   exact ret_end hcl (.inr rfl) (by simp only [RS,seval];rfl) (by simp only [LW]) ⟨rfl,rfl⟩
  | true =>
   simp only [VV,seval]
   refine ⟨fun h=>?_,fun h=>?_⟩
   ·have h:(numberOf a).2=false:=by simpa using h
    have e:tagOf s=(⟨0,[],0⟩,false):=by unfold tagOf;simp only [hp,if_true,hq];simp [h]
    rw [e]
    exact ret_end hcl (.inr rfl) (by simp only [RS,seval];rfl) (by simp only [LW]) ⟨rfl,rfl⟩
   ·have h:(numberOf a).2=true:=by simpa using h
    have e:tagOf s=(⟨3,b,(numberOf a).1⟩,isName b):=by unfold tagOf;simp only [hp,if_true,hq];simp [h]
    rw [e]
    refine call_eq (isName_pc b _) rfl ?_
    simp only [VV,seval]
    exact ret_end hcl (.inr rfl) (by simp only [RS,seval];rfl) (by simp only [LW]) ⟨rfl,rfl⟩
 ·refine call_eq (cut_pc s 58 _) rfl ?_
  simp only [VV,seval]
  generalize hq:cutAt s 58=q
  obtain ⟨a,b,f⟩:=q
  refine callg_eq (c:=true) (by simp only [VV,seval]<;>rfl) (fun h=>hasSuffix_pc b [47] _) rfl ?_
  simp only [VV,seval]
  have tail:∀ (kind:Int) (content:List UInt8),kind≠3→tagOf s=(if f&&(numberOf a).2 then (⟨kind,content,(numberOf a).1⟩,if kind=3 then isName content else isContent content) else (⟨0,[],0⟩,false)) →
    (((f=false)∨(numberOf a).2=false)→tagOf s=(⟨0,[],0⟩,false))∧(f=true→(numberOf a).2=true→tagOf s=(⟨kind,content,(numberOf a).1⟩,isContent content)):=by
   intro kind content hk e
   rw [e]
   refine ⟨?_,?_⟩
   ·rintro (h | h)<;>rw [h]<;>simp
   ·intro h1 h2;simp [h1,h2,hk]
  refine ⟨fun hs=>?_,fun hs=>?_⟩
  ·have hb:1≤b.length:=by
    simp only [hasSuffix,Bool.and_eq_true,decide_eq_true_eq] at hs
    simpa using hs.1
   have hbl:b.length<2^63:=by
    have:b=(cutAt s 58).2.1:=by rw [hq]
    have h2:b.length≤s.length:=by
     rw [this];simp only [cutAt];split<;>simp
    omega
   have e1:IntKind.i64.wrap ((b.length:Int) - 1)=((b.length - 1:Nat):Int):=by rw [IntWalk.i64_in _ (by omega)];omega
   have t:=tail 4 (b.take (b.length - 1)) (by decide) (by unfold tagOf;simp [hp,hq,hs])
   simp only [e1,Int.toNat_natCast,seval]
   refine ⟨by omega,?_⟩
   refine call_eq (number_pc a _) rfl ?_
   simp only [VV,seval]
   cases f with
   | false =>
    simp only [VV,seval]
    rw [t.1 (.inl rfl)]
    exact ret_end hcl (.inr rfl) (by simp only [RS,seval];rfl) (by simp only [LW]) ⟨rfl,rfl⟩
   | true =>
    simp only [VV,seval]
    refine ⟨fun h=>?_,fun h=>?_⟩
    ·have h:(numberOf a).2=false:=by simpa using h
     rw [t.1 (.inr h)]
     exact ret_end hcl (.inr rfl) (by simp only [RS,seval];rfl) (by simp only [LW]) ⟨rfl,rfl⟩
    ·have h:(numberOf a).2=true:=by simpa using h
     rw [t.2 rfl h]
     refine call_eq (isContent_pc _ _) rfl ?_
     simp only [VV,seval]
     refine ret_end hcl (.inr rfl) (by simp only [RS,seval];rfl) (by simp only [LW]) ⟨rfl,rfl⟩
  ·have t:=tail 2 b (by decide) (by unfold tagOf;simp [hp,hq,hs])
   refine call_eq (number_pc a _) rfl ?_
   simp only [VV,seval]
   cases f with
   | false =>
    simp only [VV,seval]
    rw [t.1 (.inl rfl)]
    exact ret_end hcl (.inr rfl) (by simp only [RS,seval];rfl) (by simp only [LW]) ⟨rfl,rfl⟩
   | true =>
    simp only [VV,seval]
    refine ⟨fun h=>?_,fun h=>?_⟩
    ·have h:(numberOf a).2=false:=by simpa using h
     rw [t.1 (.inr h)]
     exact ret_end hcl (.inr rfl) (by simp only [RS,seval];rfl) (by simp only [LW]) ⟨rfl,rfl⟩
    ·have h:(numberOf a).2=true:=by simpa using h
     rw [t.2 rfl h]
     refine call_eq (isContent_pc _ _) rfl ?_
     simp only [VV,seval]
     refine ret_end hcl (.inr rfl) (by simp only [RS,seval];rfl) (by simp only [LW]) ⟨rfl,rfl⟩
theorem element_pc (s:List UInt8) (hs:s≠[]) (σ:Store):PC Tryz.prog 111 [.s s] σ (fun r σ'=>r=.tup [.agg (elementOf s).1.cells,.i .i64 (elementOf s).2.1,.b (elementOf s).2.2]∧σ'=σ):=by
 refine PC.intro Tryz.func111 c111 fun hcl hwf=>wpc_sound ?_
 have hlen:=wf_s (hwf 0 _ rfl).1
 have hl:0<s.length:=List.length_pos_iff.2 hs
 have bnd:(0:Int)≤0∧(0:Int)<s.length:=by omega
 simp only [p111,SS,seval]
 by_cases c92:s.getD 0 0=92
 ·have e:elementOf s=(⟨1,[(escapeOf s).1],0⟩,(escapeOf s).2.1,(escapeOf s).2.2):=by simp only [elementOf,c92,if_true]
  rw [e]
  simp only [u8y (k:=92) c92 rfl,VV,Nat.reduceAdd,Nat.reduceLeDiff,Int.reduceToNat,reduceIte,reduceCtorEq]
  refine ⟨bnd,?_⟩
  refine call_eq (escape_pc s _) rfl ?_
  simp only [VV,Nat.reduceAdd,Nat.reduceLeDiff,reduceIte]
  exact ret_end hcl (.inr rfl) (by simp only [RS,Nat.reduceAdd,reduceIte];rfl) (by simp only [LW]) ⟨rfl,rfl⟩
 have n92:=c92
 by_cases c60:s.getD 0 0=60
 ·simp only [u8n (k:=92) c92 rfl,u8y (k:=60) c60 rfl,VV,Nat.reduceAdd,Nat.reduceLeDiff,Int.reduceToNat,reduceIte,reduceCtorEq]
  refine ⟨bnd,bnd,?_⟩
  refine call_eq (indexByte_pc s 62 _) rfl ?_
  have hb:=indexByte_lt s 62
  simp only [VV,Nat.reduceAdd,Int.reduceToNat,reduceIte]
  refine ⟨fun h=>?_,fun h=>?_⟩
  ·have h:Lib.indexByte s 62<0:=by simpa using h
   have e:elementOf s=(noIt,0,false):=by simp only [elementOf];rw [if_neg c92,if_pos c60];simp only [h,if_true]
   rw [e]
   exact ret_end hcl (.inr rfl) (by simp only [RS,Nat.reduceAdd,reduceIte];rfl) (by simp only [LW]) ⟨rfl,rfl⟩
  ·have h:¬ Lib.indexByte s 62<0:=by simpa using h
   have h1:=indexByte_pos s 62 (by rw [c60];decide) h
   have e:elementOf s=((tagOf ((s.take (Lib.indexByte s 62).toNat).drop 1)).1,Lib.indexByte s 62+1,(tagOf ((s.take (Lib.indexByte s 62).toNat).drop 1)).2):=by simp only [elementOf];rw [if_neg c92,if_pos c60];simp only [h,if_false]
   rw [e]
   refine ⟨by omega,?_⟩
   have e2:(s.drop 1).take ((Lib.indexByte s 62).toNat - 1)=(s.take (Lib.indexByte s 62).toNat).drop 1:=by rw [List.drop_take]
   refine call_eq (tag_pc _ _) (by simp only [List.map_cons,List.map_nil,VV];rw [e2]) ?_
   simp only [It.cells,VV,Nat.reduceAdd,reduceIte]
   refine ret_end hcl (.inr rfl) (by simp only [RS,Nat.reduceAdd,reduceIte];rfl) (by simp only [LW]) ⟨?_,rfl⟩
   simp only [one]
   rw [IntWalk.i64_in _ (by omega)]
 by_cases c123:s.getD 0 0=123
 ·simp only [u8n (k:=92) c92 rfl,u8n (k:=60) c60 rfl,u8y (k:=123) c123 rfl,VV,Nat.reduceAdd,Nat.reduceLeDiff,Int.reduceToNat,reduceIte,reduceCtorEq]
  refine ⟨bnd,bnd,bnd,?_⟩
  refine call_eq (indexByte_pc s 125 _) rfl ?_
  have hb:=indexByte_lt s 125
  simp only [VV,Int.reduceToNat,reduceIte]
  by_cases h:Lib.indexByte s 125<0
  ·have e:elementOf s=(noIt,0,false):=by simp only [elementOf];rw [if_neg c92,if_neg c60,if_pos c123];simp only [h,true_or,if_true]
   have hd:decide (Lib.indexByte s 125<0)=true:=by simpa using h
   rw [e]
   simp only [hd]
   refine ⟨fun h=>by simp at h,?_⟩
   refine callg_eq (c:=false) (v:=.b false) (by simp only [VV]<;>rfl) (fun h=>by simp at h) rfl ?_
   simp only [VV,Nat.reduceAdd,Nat.reduceLeDiff,Int.reduceToNat,reduceIte,reduceCtorEq]
   exact ret_end hcl (.inr rfl) (by simp only [RS,Nat.reduceAdd,reduceIte];rfl) (by simp only [LW]) ⟨rfl,rfl⟩
  ·have hd:decide (Lib.indexByte s 125<0)=false:=by simpa using h
   have h1:=indexByte_pos s 125 (by rw [c123];decide) h
   have e:elementOf s=if isName ((s.take (Lib.indexByte s 125).toNat).drop 1)=false then (noIt,0,false) else (⟨5,(s.take (Lib.indexByte s 125).toNat).drop 1,0⟩,Lib.indexByte s 125+1,true):=by simp only [elementOf];rw [if_neg c92,if_neg c60,if_pos c123];simp only [h,false_or]
   have e2:(s.drop 1).take ((Lib.indexByte s 125).toNat - 1)=(s.take (Lib.indexByte s 125).toNat).drop 1:=by rw [List.drop_take]
   rw [e]
   simp only [hd,e2,VV]
   refine ⟨by omega,?_⟩
   refine callg_eq (c:=true) (by simp only [VV]<;>rfl) (fun _=>isName_pc ((s.take (Lib.indexByte s 125).toNat).drop 1) _) rfl ?_
   simp only [VV,Nat.reduceAdd,Nat.reduceLeDiff,Int.reduceToNat,reduceIte]
   refine ⟨fun h=>?_,fun h=>?_⟩
   ·have h:isName ((s.take (Lib.indexByte s 125).toNat).drop 1)=false:=by simpa using h
    rw [if_pos h]
    exact ret_end hcl (.inr rfl) (by simp only [RS,Nat.reduceAdd,reduceIte];rfl) (by simp only [LW]) ⟨rfl,rfl⟩
   ·have h:¬ isName ((s.take (Lib.indexByte s 125).toNat).drop 1)=false:=by simpa using h
    rw [if_neg h]
    simp only [e2]
    refine ⟨by omega,?_⟩
    refine ret_end hcl (.inr rfl) (by simp only [RS,Nat.reduceAdd,reduceIte];rfl) (by simp only [LW]) ⟨?_,rfl⟩
    simp only [one]
    rw [IntWalk.i64_in _ (by omega)]
    rfl
 ·have e:elementOf s=(⟨1,s.take 1,0⟩,1,plainB (s.getD 0 0)):=by simp only [elementOf,c92,c60,c123,if_false]
  rw [e]
  simp only [u8n (k:=92) c92 rfl,u8n (k:=60) c60 rfl,u8n (k:=123) c123 rfl,VV,Nat.reduceAdd,Nat.reduceLeDiff,Int.reduceToNat,reduceIte,reduceCtorEq]
  refine ⟨bnd,bnd,bnd,by omega,bnd,?_⟩
  refine call_eq (plain_pc (s.getD 0 0) _) rfl ?_
  simp only [VV,Nat.reduceAdd,Nat.reduceLeDiff,reduceIte]
  exact ret_end hcl (.inr rfl) (by simp only [RS,Nat.reduceAdd,reduceIte];rfl) (by simp only [LW]) ⟨rfl,rfl⟩
def rdOb (n g1 g2:Nat) (s:Rd):Store :=
 [.map 3 79 (mapIt s.tags),.box 151 [.own (n+2) g1,.own (n+3) g2,.i .i64 s.len,.mp n],.row 79 3 32 g1 false (s.f.map It.cells),.row 5 1 1 g2 false (bytesV s.text)]
def rdX (n g1 g2:Nat) (s:Rd) (o:Ob) (x:It):Store :=
 [.map 3 79 (mapIt s.tags),.box 151 [.own (n+2) g1,.own (n+3) g2,.i .i64 s.len,.mp n],.row 79 3 32 g1 false (s.f.map It.cells),.row 5 1 1 g2 false (bytesV s.text),o,.box 79 [.i .i64 x.kind,.s x.text,.i .i64 x.id]]
theorem flush_pc (s:Rd) (g1 g2:Nat) (hf:s.f.length<2^40) (σ ext:Store):PC Tryz.prog 113 [.ptr (σ.length+1) 0] (σ++(rdOb σ.length g1 g2 s++ext)) (fun r σ'=>r=.tup []∧∃ g1' g2',σ'=σ++(rdOb σ.length g1' g2' (rdFlush s)++ext)):=by
 refine PC.intro Tryz.func113 c113 fun hcl hwf=>wpc_sound ?_
 simp only [p113,SS,seval]
 simp only [rdOb,W,seval]
 simp only [bytesV_length,bytesOf_bytesV,W,seval]
 refine ⟨fun h=>⟨?_,?_⟩,fun h=>?_⟩
 ·simp [maxLen];omega
 ·have h:0<s.text.length:=by simpa using h
  have e:rdFlush s=⟨s.f++[⟨1,s.text,0⟩],[],s.len,s.tags⟩:=by simp [rdFlush,h]
  have hr:s.f.map It.cells++[[.i .i64 1,.s s.text,.i .i64 0]]=(s.f++[(⟨1,s.text,0⟩:It)]).map It.cells:=by simp [It.cells]
  rw [hr]
  refine ret_wk (xs:=[]) (xs':=[]) (.inl rfl) rfl (Wk.renil (id:=σ.length+1) (j:=1) (idr:=σ.length+3) (by simp only [W,seval];rfl) rfl (by simp only [W,seval];rfl)) rfl ⟨rfl,g1+1,g2+1,?_⟩
  simp only [e,W,seval]
  rfl
 ·have h:¬ 0<s.text.length:=by simpa using h
  have e:rdFlush s=s:=by simp [rdFlush,h]
  rw [e]
  exact ret_wk (xs:=[]) (.inl rfl) rfl (Wk.refl _ _) rfl ⟨rfl,g1,g2,rfl⟩
set_option maxHeartbeats 2000000 in
theorem add_pc (s:Rd) (x:It) (g1 g2:Nat) (hf:s.f.length<2^40) (ht:s.text.length+x.text.length<2^40) (hl:s.len<2^40) (σ:Store) (o:Ob):PC Tryz.prog 112 [.ptr (σ.length+1) 0,.agg x.cells] (σ++(rdOb σ.length g1 g2 s++[o]))
  (fun r σ'=>r=.i .i64 (rdAdd s x).1∧∃ g1' g2',σ'=σ++(rdOb σ.length g1' g2' (rdAdd s x).2++[o])):=by
 refine PC.intro Tryz.func112 c112 fun hcl hwf=>?_
 simp only [p112,SS,seval]
 have hm:∀ t,mapFind (σ++(.map 3 79 (mapIt s.tags))::t) 0 (.mp σ.length) (.i .i64 x.id)=findV 0 (.i .i64 x.id) (mapIt s.tags) 0:=fun t=>by simp only [mapFind,base_get0,List.getElem?_cons_zero]
 refine PWc.cut fun R hR=>?_
 simp only [rdOb,It.cells,List.cons_append,List.nil_append,W,seval]
 refine hR _ ?_
 clear hR R
 refine PWc.cut fun R hR=>?_
 simp only [W,seval]
 refine hR _ (PWc.cvs (fr':=[.ptr (σ.length+1) 0,.u,.u,.ptr (σ.length+5) 0,.i .i64 0,.b (tagged x),.u,.u,.u,.u,.u,.u,.u,.u,.u,.u,.u,.u,.u,.u,.u,.u,.u,.u,.u,.u,.u,.u,.u,.u,.u,.u,.u,.u,.u,.u,.u,.u,.u,.u,.u,.u,.u,.u,.u,.u,.u,.u,.u,.u,.u,.u,.u,.u,.u,.u,.u,.u,.u,.u,.u,.u,.u,.u,.u,.u,.u,.u,.u,.u,.u,.u,.u,.u,.u,.u,.u,.u,.u,.u,.u,.u,.u,.u,.u,.u,.u,.u,.u,.u,.u,.u,.u,.u,.u,.u,.u,.u,.u,.u,.u,.u,.u,.u,.u,.u,.u,.u,.u,.u,.u,.u,.u,.u,.u,.u,.u,.u,.u,.u,.u,.u,.u]) ?_ ?_)
 rotate_left
 ·simp only [tagged]
  repeat first | exact .nil | refine .cons (.refl _) ?_ | refine .cons (.forget _) ?_
 clear hR R
 have hbo:match o with | .box _ cs=>AllLt (σ.length+5) cs | _=>True:=by
  cases o<;>first | trivial | skip
  rename_i T cs
  refine allLt_iff.2 fun j y hj=>?_
  have:=hcl (σ.length+4) T cs (by rw [List.getElem?_append_right (by omega),Nat.add_sub_cancel_left];rfl) j y hj
  simpa [rdOb] using this
 have hcl4:∀ (g1 g2:Nat) (s:Rd),Closed (σ++(rdOb σ.length g1 g2 s++[o])):=fun g1 g2 s =>
  closed_swap hcl (Nat.le_refl _) (by
   simp only [rdOb,List.forall_mem_cons,List.length_cons,List.length_nil,List.not_mem_nil,false_imp_iff,implies_true,and_true,true_and,List.cons_append,List.nil_append]
   refine ⟨by simp only [LW];omega,?_⟩
   cases o<;>first | trivial | exact hbo)
 have hcl5:∀ (g1 g2:Nat) (s:Rd),Closed (σ++rdX σ.length g1 g2 s o x):=fun g1 g2 s =>
  closed_swap hcl (by simp [rdOb,rdX]) (by
   simp only [rdX,List.forall_mem_cons,List.length_cons,List.length_nil,List.not_mem_nil,false_imp_iff,implies_true,and_true,true_and]
   refine ⟨by simp only [LW];omega,?_,by simp only [LW]⟩
   cases o<;>first | trivial | exact allLt_iff.2 fun j y hj=>(allLt_iff.1 hbo j y hj).mono (by omega))
 have fin:∀ {fr:List V} {n:Nat} (e:Int) (s':Rd) (g1' g2':Nat) {loc:Store},n≤σ.length+5→rdAdd s x=(e,s')→fr.getD 4 .u=.i .i64 e→retK Tryz.prog n [.t 4] (fun r σ'=>r=.i .i64 (rdAdd s x).1∧∃ g1' g2',σ'=σ++(rdOb σ.length g1' g2' (rdAdd s x).2++[o])) .ret ⟨fr,σ++((rdOb σ.length g1' g2' s'++[o])++loc)⟩:=by
  intro fr n e s' g1' g2' loc hn he hf
  rw [← List.append_assoc]
  refine ret_wk (xs:=[.i .i64 e]) (.inr rfl) (by simp only [resVs,resV,hf]) (Wk.drop0 (by simpa [rdOb] using hn) (hcl4 _ _ _) (allLt_iff.1 (by simp only [LW]))) rfl ⟨by rw [he];rfl,g1',g2',by rw [he]⟩
 refine PWc.cut fun R hR=>?_
 have hre:∀ {fr:List V} {loc:Store},Cvs fr [.ptr (σ.length+1) 0,.u,.u,.ptr (σ.length+5) 0,.i .i64 0,.b (tagged x),.u,.u,.u,.u,.u,.u,.u,.u,.u,.u,.u,.u,.u,.u,.u,.u,.u,.u,.u,.u,.u,.u,.u,.u,.u,.u,.u,.u,.u,.u,.u,.u,.u,.u,.u,.u,.u,.u,.u,.u,.u,.u,.u,.u,.u,.u,.u,.u,.u,.u,.u,.u,.u,.u,.u,.u,.u,.u,.u,.u,.u,.u,.u,.u,.u,.u,.u,.u,.u,.u,.u,.u,.u,.u,.u,.u,.u,.u,.u,.u,.u,.u,.u,.u,.u,.u,.u,.u,.u,.u,.u,.u,.u,.u,.u,.u,.u,.u,.u,.u,.u,.u,.u,.u,.u,.u,.u,.u,.u,.u,.u,.u,.u,.u,.u,.u,.u]→¬ (tagged x&&clash s x)=true→R ⟨fr,σ++(rdX σ.length g1 g2 s o x++loc)⟩:=by
  intro fr loc hc hno
  refine hR _ (PWc.drop _ _ (by simp [rdOb,rdX]) (hcl5 g1 g2 s) hc (by simp [AllLt,lt_ptr,lt_i,lt_b,lt_u,rdX]) ?_)
  clear hR R
  refine PWc.cut fun R hR=>?_
  simp only [rdX,W,seval]
  refine hR _ ?_
  clear hR R
  refine PWc.cut fun R hR=>?_
  simp only [List.length_map,bytesV_length,VV,seval]
  have hi1:∀ {fr:List V},Cvs fr [.ptr (σ.length+1) 0,.u,.u,.ptr (σ.length+5) 0,.i .i64 0,.b (tagged x),.u,.u,.i .i64 ((s.f.length+(if 0<s.text.length then 1 else 0):Nat):Int),.u,.u,.u,.u,.u,.u,.u,.u,.u,.u,.u,.u,.u,.u,.u,.u,.u,.u,.u,.u,.u,.u,.u,.u,.u,.u,.u,.u,.u,.u,.u,.u,.u,.u,.u,.u,.u,.u,.u,.u,.u,.u,.u,.u,.u,.u,.u,.u,.u,.u,.u,.u,.u,.u,.u,.u,.u,.u,.u,.u,.u,.u,.u,.u,.u,.u,.u,.u,.u,.u,.u,.u,.u,.u,.u,.u,.u,.u,.u,.u,.u,.u,.u,.u,.u,.u,.u,.u,.u,.u,.u,.u,.u,.u,.u,.u,.u,.u,.u,.u,.u,.u,.u,.u,.u,.u,.u,.u,.u,.u,.u,.u,.u,.u]→R ⟨fr,σ++rdX σ.length g1 g2 s o x⟩:=by
   intro fr hc
   refine hR _ (PWc.cvs ?_ hc)
   clear hR R
   refine PWc.cut fun R hR=>?_
   simp only [rdX,bytesV_length,VV,seval]
   have hi2:∀ {fr:List V},Cvs fr [.ptr (σ.length+1) 0,.u,.u,.ptr (σ.length+5) 0,.i .i64 0,.b (tagged x),.u,.u,.i .i64 ((addItems s x:Nat):Int),.u,.u,.u,.u,.u,.u,.u,.u,.u,.u,.u,.u,.u,.u,.u,.u,.u,.u,.u,.u,.u,.u,.u,.u,.u,.u,.u,.u,.u,.u,.u,.u,.u,.u,.u,.u,.u,.u,.u,.u,.u,.u,.u,.u,.u,.u,.u,.u,.u,.u,.u,.u,.u,.u,.u,.u,.u,.u,.u,.u,.u,.u,.u,.u,.u,.u,.u,.u,.u,.u,.u,.u,.u,.u,.u,.u,.u,.u,.u,.u,.u,.u,.u,.u,.u,.u,.u,.u,.u,.u,.u,.u,.u,.u,.u,.u,.u,.u,.u,.u,.u,.u,.u,.u,.u,.u,.u,.u,.u,.u,.u,.u,.u,.u]→R ⟨fr,σ++rdX σ.length g1 g2 s o x⟩:=by
    intro fr hc
    refine hR _ (PWc.cvs ?_ hc)
    clear hR R
    have hlw:IntKind.i64.wrap ((s.len:Int)+1)=((s.len+1:Nat):Int):=wrap_succ (by omega)
    refine PWc.cut fun R hR=>?_
    simp only [rdX,hlw,VV,seval]
    refine ⟨fun h=>?_,fun h=>?_⟩
    ·have h1:512<addItems s x∨1024<s.len+1:=by
      simp at h
      omega
     have e:rdAdd s x=(3,s):=by simp only [rdAdd,hno,h1,if_true];rfl
     exact fin 3 s g1 g2 (loc:=[_]) (by simp [rdOb]) e (by rfl)
    ·have h1:¬ (512<addItems s x∨1024<s.len+1):=by
      simp at h
      omega
     refine hR _ ?_
     clear hR R
     refine PWc.cut fun R hR=>?_
     simp only [hlw,VV,seval]
     refine hR _ ?_
     clear hR R
     refine PWc.cut fun R hR=>?_
     simp only [VV,seval]
     refine ⟨fun hk=>⟨⟨by simp only [bytesV_length];omega,by simp only [bytesV_length,maxLen];omega⟩,?_⟩,fun hk=>?_⟩
     ·have hk:x.kind=1:=by simpa using hk
      have e:rdAdd s x=(0,⟨s.f,s.text++x.text,s.len+1,s.tags⟩):=by simp only [rdAdd,hno,h1,hk,if_true,if_false];rfl
      rw [bytesV_append]
      exact fin 0 ⟨s.f,s.text++x.text,s.len+1,s.tags⟩ g1 (g2+1) (loc:=[_]) (by simp [rdOb]) e (by rfl)
     ·have hk:¬ x.kind=1:=by simpa using hk
      have e:rdAdd s x=(0,rdPut (rdFlush (rdTag s x)) x):=by simp only [rdAdd,hno,h1,hk,if_false];rfl
      refine hR _ (PWc.cvs (fr':=[.ptr (σ.length+1) 0,.u,.u,.ptr (σ.length+5) 0,.i .i64 0,.b (tagged x),.u,.u,.u,.u,.u,.u,.u,.u,.u,.u,.u,.u,.u,.u,.u,.u,.u,.u,.u,.u,.u,.u,.u,.u,.u,.u,.u,.u,.u,.u,.u,.u,.u,.u,.u,.u,.u,.u,.u,.u,.u,.u,.u,.u,.u,.u,.u,.u,.u,.u,.u,.u,.u,.u,.u,.u,.u,.u,.u,.u,.u,.u,.u,.u,.u,.u,.u,.u,.u,.u,.u,.u,.u,.u,.u,.u,.u,.u,.u,.u,.u,.u,.u,.u,.u,.u,.u,.u,.u,.u,.u,.u,.u,.u,.u,.u,.u,.u,.u,.u,.u,.u,.u,.u,.u,.u,.u,.u,.u,.u,.u,.u,.u,.u,.u,.u,.u]) ?_ (by repeat first | exact .nil | refine .cons (.refl _) ?_ | refine .cons (.forget _) ?_))
      clear hR R
      refine PWc.cut fun R hR=>?_
      have hfl:∀ {fr:List V},Cvs fr [.ptr (σ.length+1) 0,.u,.u,.ptr (σ.length+5) 0,.i .i64 0,.u,.u,.u,.u,.u,.u,.u,.u,.u,.u,.u,.u,.u,.u,.u,.u,.u,.u,.u,.u,.u,.u,.u,.u,.u,.u,.u,.u,.u,.u,.u,.u,.u,.u,.u,.u,.u,.u,.u,.u,.u,.u,.u,.u,.u,.u,.u,.u,.u,.u,.u,.u,.u,.u,.u,.u,.u,.u,.u,.u,.u,.u,.u,.u,.u,.u,.u,.u,.u,.u,.u,.u,.u,.u,.u,.u,.u,.u,.u,.u,.u,.u,.u,.u,.u,.u,.u,.u,.u,.u,.u,.u,.u,.u,.u,.u,.u,.u,.u,.u,.u,.u,.u,.u,.u,.u,.u,.u,.u,.u,.u,.u,.u,.u,.u,.u,.u,.u]→R ⟨fr,σ++rdX σ.length g1 g2 (rdTag s x) o x⟩:=by
       intro fr hc
       refine hR _ (PWc.cvs ?_ hc)
       clear hR R
       refine PWc.cut fun R hR=>?_
       simp only [W,seval]
       refine call_ex (flush_pc (rdTag s x) g1 g2 hf σ [o,.box 79 [.i .i64 x.kind,.s x.text,.i .i64 x.id]]) rfl ?_
       rintro r σ' ⟨rfl,g3,g4,rfl⟩
       simp only [W,seval]
       refine hR _ (PWc.cvs (fr':=[.ptr (σ.length+1) 0,.u,.u,.ptr (σ.length+5) 0,.i .i64 0,.u,.u,.u,.u,.u,.u,.u,.u,.u,.u,.u,.u,.u,.u,.u,.u,.u,.u,.u,.u,.u,.u,.u,.u,.u,.u,.u,.u,.u,.u,.u,.u,.u,.u,.u,.u,.u,.u,.u,.u,.u,.u,.u,.u,.u,.u,.u,.u,.u,.u,.u,.u,.u,.u,.u,.u,.u,.u,.u,.u,.u,.u,.u,.u,.u,.u,.u,.u,.u,.u,.u,.u,.u,.u,.u,.u,.u,.u,.u,.u,.u,.u,.u,.u,.u,.u,.u,.u,.u,.u,.u,.u,.u,.u,.u,.u,.u,.u,.u,.u,.u,.u,.u,.u,.u,.u,.u,.u,.u,.u,.u,.u,.u,.u,.u,.u,.u,.u]) ?_ (by repeat first | exact .nil | refine .cons (.refl _) ?_ | refine .cons (.forget _) ?_))
       clear hR R
       refine wpc_sound ?_
       have hff:(rdFlush (rdTag s x)).f.length≤s.f.length+1:=by
        simp only [rdFlush]
        split<;>simp [rdTag]
       simp only [rdOb,VV,seval]
       refine ⟨?_,?_⟩
       ·simp [maxLen];omega
       ·have hr:(rdFlush (rdTag s x)).f.map It.cells++[[.i .i64 x.kind,.s x.text,.i .i64 x.id]]=(rdPut (rdFlush (rdTag s x)) x).f.map It.cells:=by simp [It.cells,rdPut]
        rw [hr]
        exact fin 0 (rdPut (rdFlush (rdTag s x)) x) (g3+1) g4 (loc:=[_]) (by simp [rdOb]) e (by rfl)
      cases htag:tagged x with
      | true =>
       rcases mapIt_cases s.tags x.id with ⟨h2,h3,h4⟩ | ⟨k,b,h2,h3,h4⟩
       all_goals
        have h5:mapIt (rdTag s x).tags=mapIt (updA s.tags x.id x):=by simp only [rdTag,htag,if_true]
        simp only [h3,purifyV,VV,seval]
        have h6:=h4 x
        simp only [itV,It.cells] at h6
        rw [h6,← h5]
        refine ⟨by simp [V.mkey,V.mval,V.pure],?_⟩
        refine hfl (by repeat first | exact .nil | refine .cons (.refl _) ?_ | refine .cons (.forget _) ?_)
      | false =>
       simp only [VV,seval]
       have:=hfl (fr:=[.ptr (σ.length+1) 0,.u,.u,.ptr (σ.length+5) 0,.i .i64 0,.b false,.u,.u,.u,.u,.u,.u,.u,.u,.u,.u,.u,.u,.u,.u,.u,.u,.u,.u,.u,.u,.u,.u,.u,.u,.u,.u,.u,.u,.u,.u,.u,.u,.u,.u,.u,.u,.u,.u,.u,.u,.u,.u,.u,.u,.u,.u,.u,.u,.u,.u,.u,.u,.u,.u,.u,.u,.u,.u,.u,.u,.u,.u,.u,.u,.u,.u,.u,.u,.u,.u,.u,.u,.u,.u,.u,.u,.u,.u,.u,.u,.u,.u,.u,.u,.u,.u,.u,.u,.u,.u,.u,.u,.u,.u,.u,.u,.u,.b false,.u,.u,.u,.u,.u,.u,.u,.u,.u,.u,.u,.u,.u,.u,.u,.u,.u,.u,.u]) (by repeat first | exact .nil | refine .cons (.refl _) ?_ | refine .cons (.forget _) ?_)
       simp only [rdTag,htag] at this
       exact this
   have hw1:IntKind.i64.wrap (((s.f.length+(if 0<s.text.length then 1 else 0):Nat):Int)+1)=((s.f.length+(if 0<s.text.length then 1 else 0)+1:Nat):Int):=wrap_succ (by split<;>omega)
   refine ⟨fun h=>?_,fun h=>?_⟩
   ·have h1:x.kind≠1∨s.text.length=0:=by simpa using h
    have e:addItems s x=s.f.length+(if 0<s.text.length then 1 else 0)+1:=by simp only [addItems,h1,if_true]
    refine hi2 ?_
    rw [hw1,e];repeat first | exact .nil | refine .cons (.refl _) ?_ | refine .cons (.forget _) ?_
   ·have h1:¬ (x.kind≠1∨s.text.length=0):=by simpa using h
    have e:addItems s x=s.f.length+(if 0<s.text.length then 1 else 0):=by simp only [addItems,h1,if_false];rfl
    refine hi2 ?_
    rw [e];repeat first | exact .nil | refine .cons (.refl _) ?_ | refine .cons (.forget _) ?_
  refine ⟨fun h=>?_,fun h=>?_⟩
  ·have h1:0<s.text.length:=by simpa using h
   refine hi1 ?_
   rw [wrap_succ (by omega),if_pos h1];repeat first | exact .nil | refine .cons (.refl _) ?_ | refine .cons (.forget _) ?_
  ·have h1:¬ 0<s.text.length:=by simpa using h
   refine hi1 ?_
   rw [if_neg h1];repeat first | exact .nil | refine .cons (.refl _) ?_ | refine .cons (.forget _) ?_
 have hret:(tagged x&&clash s x)=true→rdAdd s x=(7,s):=fun h=>by simp [rdAdd,h]
 cases htag:tagged x with
 | false =>
  simp only [VV,seval]
  exact hre (loc:=[]) (by rw [htag];repeat first | exact .nil | refine .cons (.refl _) ?_ | refine .cons (.forget _) ?_) (by simp [htag])
 | true =>
  rcases mapIt_cases s.tags x.id with ⟨h2,h3,h4⟩ | ⟨k,b,h2,h3,h4⟩
  ·simp only [hm,h3,VV,seval]
   refine ⟨by simp [V.mkey],by simp [V.mkey],callg_eq (c:=false) (v:=.s []) (by simp only [VV,seval]<;>rfl) (fun h=>by simp at h) rfl ?_⟩
   simp only [VV,seval]
   refine hre (loc:=[_]) (by rw [htag];repeat first | exact .nil | refine .cons (.refl _) ?_ | refine .cons (.forget _) ?_) (by simp [clash,h2])
  ·simp only [hm,h3,itV,It.cells,VV,seval]
   refine ⟨by simp [V.mkey],by simp [V.mkey],callg_eq (by simp only [VV,seval]<;>rfl) (fun _=>notationName_pc b.text _) rfl ?_⟩
   simp only [VV,seval]
   have hcl:clash s x=(x.kind != 3||b.kind != 2||tagName b.text != x.text):=by simp only [clash,h2]
   have hb:(!tagName b.text==x.text)=(tagName b.text != x.text):=rfl
   rw [hb,← hcl]
   refine ⟨fun h=>?_,fun h=>?_⟩
   ·exact fin 7 s g1 g2 (loc:=[_,_]) (by simp [rdOb]) (hret (by simp [htag,h])) (by rfl)
   ·exact hre (loc:=[_]) (by rw [htag];repeat first | exact .nil | refine .cons (.refl _) ?_ | refine .cons (.forget _) ?_) (by simp [htag,h])
theorem closed_rd {σ:Store} (hcl:Closed σ) (g1 g2:Nat) (r:Rd):Closed (σ++rdOb σ.length g1 g2 r):=closed_add hcl (by
 simp only [rdOb,List.forall_mem_cons,List.length_cons,List.length_nil,List.not_mem_nil,false_imp_iff,implies_true,and_true,true_and]
 simp only [LW];omega)
theorem loop70 {σ:Store} {K:Exit→St→Prop} (s:List UInt8) (hcl:Closed σ) (hlen:s.length<2^39) :
  ∀ (n:Nat) (rest pre:List UInt8) (r:Rd) (g1 g2:Nat),s=pre++rest→rest.length<n→r.ok →
  (∀ r',parseN n r rest pre.length=((rdFlush r').f,0,0)→r'.ok→∀ g1 g2,(∀ j0 j1 j2 j3 j4 j6 j7 j8 j9 j10 j11 j12 j13 j14 j15 j16 j17 j18 j19 j20 j21 j22 j23 j24 j25 j26 j27 j28 j29 j30 j31 j32 j33 j34 j35 j36 j37 j38,K (.exit 0) ⟨[j0,j1,j2,j3,j4,.ptr (σ.length+1) 0,j6,j7,j8,j9,j10,j11,j12,j13,j14,j15,j16,j17,j18,j19,j20,j21,j22,j23,j24,j25,j26,j27,j28,j29,j30,j31,j32,j33,j34,j35,j36,j37,j38],σ++rdOb σ.length g1 g2 r'⟩)) →
  (∀ at' e,parseN n r rest pre.length=([],at',e)→∀ loc,(∀ j0 j1 j5 j6 j7 j8 j9 j10 j11 j12 j13 j14 j15 j16 j17 j18 j19 j20 j21 j22 j23 j24 j25 j26 j27 j28 j29 j30 j31 j32 j33 j34 j35 j36 j37 j38,K .ret ⟨[j0,j1,.nil,.i .i64 at',.i .i64 e,j5,j6,j7,j8,j9,j10,j11,j12,j13,j14,j15,j16,j17,j18,j19,j20,j21,j22,j23,j24,j25,j26,j27,j28,j29,j30,j31,j32,j33,j34,j35,j36,j37,j38],σ++loc⟩)) →
  Rnd σ.length Tryz.prog p70_0 K n ⟨[.s s,.u,.u,.i .i64 pre.length,.u,.ptr (σ.length+1) 0,.u,.u,.u,.u,.u,.u,.u,.u,.u,.u,.u,.u,.u,.u,.u,.u,.u,.u,.u,.u,.u,.u,.u,.u,.u,.u,.u,.u,.u,.u,.u,.u,.u],σ++rdOb σ.length g1 g2 r⟩
 | 0,rest,pre,r,g1,g2,he,hn,hr,h1,h2=>by omega
 | n+1,[],pre,r,g1,g2,he,hn,hr,h1,h2=>by
  have he:s=pre:=by simpa using he
  subst he
  refine rnd_step fun R hR=>?_
  simp only [p70_0,W,seval]
  exact ⟨fun h=>by simp at h,fun _=>h1 r rfl hr g1 g2 ..⟩
 | n+1,c::rest,pre,r,g1,g2,he,hn,hr,h1,h2=>by
  subst he
  have hd:(pre++c::rest).drop pre.length=c::rest:=by simp
  have htk:((pre++c::rest).drop pre.length).take ((pre++c::rest).length - pre.length)=c::rest:=by rw [hd,List.take_of_length_le];simp
  have hel:=elementOf_ok (s:=c::rest) (by simp)
  have hpl:pre.length+(c::rest).length<2^39:=by rw [← List.length_append];exact hlen
  refine rnd_step fun R hR=>?_
  simp only [p70_0,W,seval]
  refine ⟨fun _=>⟨by simp;omega,?_⟩,fun h=>by simp at h<;>omega⟩
  refine call_eq (element_pc (c::rest) (by simp) _) (by simp only [List.map_cons,List.map_nil,VV,seval];rw [htk]) ?_
  simp only [It.cells,VV,seval]
  refine ⟨fun h=>?_,fun h=>?_⟩
  ·have h:(elementOf (c::rest)).2.2=false:=by simpa using h
   exact h2 pre.length 2 (by simp only [parseN,h,if_true]) ..
  ·have h:(elementOf (c::rest)).2.2=true:=by simpa using h
   have hn1:=hel.2.2 h
   have hx1:=hel.1
   have ok:=hr
   obtain ⟨hf,ht,hl⟩:=hr
   have hff:r.f.length≤r.len:=by split at hf<;>omega
   refine call_ex (add_pc r (elementOf (c::rest)).1 g1 g2 (by omega) (by omega) (by omega) σ _) rfl ?_
   ·rintro v σ' ⟨rfl,g3,g4,rfl⟩
    simp only [VV,seval]
    refine ⟨fun h3=>?_,fun h3=>?_⟩
    ·have h3:(rdAdd r (elementOf (c::rest)).1).1≠0:=by simpa using h3
     exact h2 pre.length _ (by simp only [parseN,h];rw [if_neg (by simp),if_pos h3]) ..
    ·have h3:(rdAdd r (elementOf (c::rest)).1).1=0:=by simpa using h3
     have h4:=rdAdd_ok ok hel.2.1 h3
     obtain ⟨k,hk⟩:∃ k:Nat,(elementOf (c::rest)).2.1=k:=⟨(elementOf (c::rest)).2.1.toNat,by omega⟩
     have e:parseN (n+1) r (c::rest) pre.length=parseN n (rdAdd r (elementOf (c::rest)).1).2 ((c::rest).drop k) ((pre++(c::rest).take k).length:Nat):=by
      simp only [parseN,h]
      rw [if_neg (by simp),if_neg (by simp [h3]),hk]
      simp only [Int.toNat_natCast,List.length_append,List.length_take]
      congr 1
      omega
     rw [e] at h1 h2
     refine hR _ (rnd_drop _ _ (closed_rd hcl _ _ _) ?_ ?_ (loop70 _ hcl hlen n ((c::rest).drop k) (pre++(c::rest).take k) (rdAdd r (elementOf (c::rest)).1).2 g3 g4 (by rw [List.append_assoc,List.take_append_drop]) (by simp only [List.length_drop];simp at hn ⊢;omega) h4 h1 h2))
     ·have e3:(((pre++(c::rest).take k).length:Nat):Int)=(pre.length:Int)+k:=by
       rw [List.length_append,List.length_take,show min k (c::rest).length=k by omega];omega
      rw [hk,IntWalk.i64_in _ (by omega),e3]
      repeat first | exact .nil | refine .cons (.refl _) ?_ | refine .cons (.forget _) ?_
     ·simp only [LW]
      simp [rdOb]
theorem rd_start {n:Nat} {xs:List V} {σ:Store}:Wk Tryz.prog n xs (σ++[.map 3 79 [],.box 151 [.nil,.nil,.i .i64 0,.mp σ.length]]) xs (σ++rdOb σ.length 0 0 rdNew):=by
 have h1:=Wk.fieldnil (P:=Tryz.prog) (n:=n) (xs:=xs) (id:=σ.length+1) (j:=0) (σ:=σ++[.map 3 79 [],.box 151 [.nil,.nil,.i .i64 0,.mp σ.length]]) ti_item (by simp only [W,seval];rfl) rfl
 simp only [W,seval] at h1
 have h2:=Wk.fieldnil (P:=Tryz.prog) (n:=n) (xs:=xs) (id:=σ.length+1) (j:=1) (σ:=σ++[.map 3 79 [],.box 151 [.own (σ.length+2) 0,.nil,.i .i64 0,.mp σ.length],.row 79 3 32 0 false []]) ti_u8 (by simp only [W,seval];rfl) rfl
 simp only [W,seval] at h2
 exact h1.trans h2
theorem notationParse_pc (s:List UInt8) (hlen:s.length<2^39) (σ:Store):PC Tryz.prog 70 [.s s] σ (fun r σ'=>r=.tup [.sl 3 ((parse s).1.map It.cells),.i .i64 (parse s).2.1,.i .i64 (parse s).2.2]∧σ'=σ):=by
 refine PC.intro Tryz.func70 c70 fun hcl hwf=>wpc_sound ?_
 simp only [p70,SS,seval]
 simp only [VV,seval]
 have e0:parse s=parseN (s.length+1) rdNew s (([]:List UInt8).length:Nat):=rfl
 refine PWc.wk (rd_start.trans (Wk.cvs (ys:=[.s s,.u,.u,.i .i64 (([]:List UInt8).length:Nat),.u,.ptr (σ.length+1) 0,.u,.u,.u,.u,.u,.u,.u,.u,.u,.u,.u,.u,.u,.u,.u,.u,.u,.u,.u,.u,.u,.u,.u,.u,.u,.u,.u,.u,.u,.u,.u,.u,.u]) (by repeat first | exact .nil | refine .cons (.refl _) ?_ | refine .cons (.forget _) ?_))) (PWc.rnd (s.length+1) (loop70 s hcl hlen (s.length+1) s [] rdNew 0 0 rfl (by omega) ⟨by simp [rdNew],by simp [rdNew],by simp [rdNew]⟩ ?_ ?_))
 ·intro r' hp hok g1 g2
  intros
  simp only [W,seval]
  refine call_ex (flush_pc r' g1 g2 (by have:=hok.f;have:=hok.len;split at*<;> omega) σ []) (by simp [ev]) ?_
  rintro r σ' ⟨rfl,g3,g4,rfl⟩
  simp only [rdOb,List.append_nil,W,seval]
  refine ret_fz 2 hcl (.inr rfl) rfl rfl ?_ ?_
  ·simp [fz,fz1,AllLt,lt_sl,lt_i]
  ·rw [e0,hp]
   simp [fz,fz1,one]
 ·intro at' e hp loc
  intros
  simp only [W,seval]
  refine ret_cvs hcl (.inr rfl) rfl (ys:=[.sl 3 [],.i .i64 at',.i .i64 e]) (.cons (.nil _) (.cons (.refl _) (.cons (.refl _) .nil))) (by simp only [LW]) ⟨?_,rfl⟩
  rw [e0,hp]
  rfl
end Go.Proofs.Tryz

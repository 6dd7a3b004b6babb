/- A part of the proof that OperationCurrent returns true and leaves its arguments as they were, for every input of bounded size. -/
import Derived.Test.YtdhbodgefhojnaaGreatDoorU32
import Derived.Test.YtdhbodgefhojnaaGreatDoorU33
import Derived.Test.YtdhbodgefhojnaaGreatDoorU34
set_option linter.all false

namespace Go.Proofs.Tryz
open Go Go.Pm Go.Bt
theorem loop8_0 {σ : Store} {K : Exit → St → Prop} (hcl : Closed σ) (raw : List Opr) (hlen : raw.length < 2 ^ 62) (hs : ∀ o ∈ raw,o.small) (l : List (List V)) : ∀ (rest pre : List Opr),raw = pre ++ rest →
  (∀ j2 j3 j4 j5 j6 j7 j8 j9 j10 j11 j12 j13 j14 j15 j16 j17 j18 j19 j20 j21 j22 j23 j24 j25 j26 j27 j28 j29 j30 j31 j32 j33 j34 j35 j36 j37 j38 j39 j40 j41 j42 j43 j44 j45 j46 j47 j48 j49 j50 j51 j52 j53 j54 j55 j56 j57 j58 j59 j60 j61 j62 j63 j64 j65,K (.exit 0) ⟨[.sl 13 (raw.map Opr.cells),.sl 1 l,j2,j3,j4,j5,j6,j7,j8,j9,j10,j11,j12,j13,j14,j15,j16,j17,j18,j19,j20,j21,j22,j23,j24,j25,j26,j27,j28,j29,j30,j31,j32,j33,j34,j35,j36,j37,j38,j39,j40,j41,j42,j43,j44,j45,j46,j47,j48,j49,j50,j51,j52,j53,j54,j55,j56,j57,j58,j59,j60,j61,j62,j63,j64,j65],σ⟩) → (∀ loc : Store,(∀ j0 j1 j2 j3 j5 j6 j7 j8 j9 j10 j11 j12 j13 j14 j15 j16 j17 j18 j19 j20 j21 j22 j23 j24 j25 j26 j27 j28 j29 j30 j31 j32 j33 j34 j35 j36 j37 j38 j39 j40 j41 j42 j43 j44 j45 j46 j47 j48 j49 j50 j51 j52 j53 j54 j55 j56 j57 j58 j59 j60 j61 j62 j63 j64 j65,K .ret ⟨[j0,j1,j2,j3,.b true,j5,j6,j7,j8,j9,j10,j11,j12,j13,j14,j15,j16,j17,j18,j19,j20,j21,j22,j23,j24,j25,j26,j27,j28,j29,j30,j31,j32,j33,j34,j35,j36,j37,j38,j39,j40,j41,j42,j43,j44,j45,j46,j47,j48,j49,j50,j51,j52,j53,j54,j55,j56,j57,j58,j59,j60,j61,j62,j63,j64,j65],σ ++ loc⟩)) →
  Rnd σ.length Tryz.prog p8_0 K (rest.length + 1) ⟨[.sl 13 (raw.map Opr.cells),.sl 1 l,.u,.u,.u,.u,.u,.u,.u,.u,.u,.u,.u,.u,.u,.u,.u,.u,.u,.sl 13 (raw.map Opr.cells),.i .i64 raw.length,.i .i64 pre.length,.u,.u,.u,.u,.u,.u,.u,.u,.u,.u,.u,.u,.u,.u,.u,.u,.u,.u,.u,.u,.u,.u,.u,.u,.u,.u,.u,.u,.u,.u,.u,.u,.u,.u,.u,.u,.u,.u,.u,.u,.u,.u,.u,.u],σ⟩ := by
 intro rest
 induction rest with
 | nil =>
  intro pre he h1 h2
  have he : raw = pre := by simpa using he
  subst he
  refine rnd_step fun R hR => ?_
  simp only [p8_0,VV,pexec,xexec,binV,Nat.reduceAdd,reduceIte]
  exact ⟨fun h => by simp at h,fun _ => h1 ..⟩
 | cons x rest ih =>
  intro pre he h1 h2
  have hx := hs x (by rw [he]; simp)
  have hml : raw.length = pre.length + (rest.length + 1) := by rw [he]; simp
  have hw : IntKind.i64.wrap ((pre.length : Int) + 1) = (((pre ++ [x]).length : Nat) : Int) := by
   rw [wrap_succ (by omega)]; simp
  have hat : (List.map Opr.cells raw).getD pre.length [] = x.cells := by rw [he]; exact row_at
  have hd : decide ((pre.length : Int) < (raw.length : Int)) = true := by simp; omega
  refine rnd_step fun R hR => ?_
  simp only [p8_0,Int.toNat_natCast,hat,hd,Opr.cells,Stamp.cells,En.cells,List.length_map,VV,pexec,xexec,binV,Nat.reduceAdd,reduceIte,reduceCtorEq]
  refine ⟨⟨by omega,by omega⟩,?_⟩
  refine call_ex (few_pc x hx _) rfl ?_
  rintro _ _ ⟨b,rfl,rfl⟩
  simp only [hw,VV,pexec,binV,reduceIte]
  refine ⟨fun _ => ?_,fun _ => ?_⟩
  ·refine call_eq (known_pc _) rfl ?_
   simp only [VV,pexec]
   exact h2 ..
  ·exact hR _ (rnd_back (fr' := [.sl 13 (raw.map Opr.cells),.sl 1 l,.u,.u,.u,.u,.u,.u,.u,.u,.u,.u,.u,.u,.u,.u,.u,.u,.u,.sl 13 (raw.map Opr.cells),.i .i64 raw.length,.i .i64 (pre ++ [x]).length,.u,.u,.u,.u,.u,.u,.u,.u,.u,.u,.u,.u,.u,.u,.u,.u,.u,.u,.u,.u,.u,.u,.u,.u,.u,.u,.u,.u,.u,.u,.u,.u,.u,.u,.u,.u,.u,.u,.u,.u,.u,.u,.u,.u]) (Nat.le_refl _) hcl (by repeat first | exact .nil | refine .cons (.refl _) ?_ | refine .cons (.forget _) ?_) (by simp only [LW]) (ih (pre ++ [x]) (by rw [he]; simp) h1 h2))
theorem loop8_1 {σ : Store} {K : Exit → St → Prop} (hcl : Closed σ) (ms : List (List Opr)) (hlen : ms.length < 2 ^ 62) (hs : ∀ m ∈ ms,∀ o ∈ m,o.small) (v : List (List V)) : ∀ (rest pre : List (List Opr)),ms = pre ++ rest →
  (∀ j0 j1 j2 j3 j4 j5 j6 j8 j9 j10 j11 j12 j13 j14 j15 j16 j17 j18 j19 j20 j21 j22 j23 j24 j25 j26 j27 j28 j29 j30 j31 j32 j33 j34 j35 j36 j37 j38 j39 j40 j41 j42 j43 j44 j45 j46 j47 j48 j49 j50 j51 j52 j53 j54 j55 j56 j57 j58 j59 j60 j61 j62 j63 j64 j65,K (.exit 2) ⟨[j0,j1,j2,j3,j4,j5,j6,.sl 13 v,j8,j9,j10,j11,j12,j13,j14,j15,j16,j17,j18,j19,j20,j21,j22,j23,j24,j25,j26,j27,j28,j29,j30,j31,j32,j33,j34,j35,j36,j37,j38,j39,j40,j41,j42,j43,j44,j45,j46,j47,j48,j49,j50,j51,j52,j53,j54,j55,j56,j57,j58,j59,j60,j61,j62,j63,j64,j65],σ⟩) →
  Rnd σ.length Tryz.prog p8_1 K (rest.length + 1) ⟨[.u,.u,.u,.u,.u,.u,.u,.sl 13 v,.u,.u,.u,.u,.u,.u,.u,.u,.u,.u,.u,.u,.u,.u,.u,.u,.u,.u,.u,.u,.u,.u,.u,.u,.u,.u,.u,.u,.u,.u,.u,.sl 1 (ms.map fun m => [.sl 13 (m.map Opr.cells)]),.i .i64 ms.length,.i .i64 pre.length,.u,.u,.u,.u,.u,.u,.u,.u,.u,.u,.u,.u,.u,.u,.u,.u,.u,.u,.u,.u,.u,.u,.u,.u],σ⟩ := by
 intro rest
 induction rest with
 | nil =>
  intro pre he h1
  have he : ms = pre := by simpa using he
  subst he
  refine rnd_step fun R hR => ?_
  simp only [p8_1,VV,pexec,binV,reduceIte]
  exact ⟨fun h => by simp at h,fun _ => h1 ..⟩
 | cons x rest ih =>
  intro pre he h1
  have sx := hs x (by rw [he]; simp)
  have hml : ms.length = pre.length + (rest.length + 1) := by rw [he]; simp
  have hw : IntKind.i64.wrap ((pre.length : Int) + 1) = (((pre ++ [x]).length : Nat) : Int) := by
   rw [wrap_succ (by omega)]; simp
  have hat : at2 (ms.map fun m => [V.sl 13 (m.map Opr.cells)]) pre.length 0 = some (.sl 13 (x.map Opr.cells)) := by rw [he]; simp [at2]
  have hd : decide ((pre.length : Int) < (ms.length : Int)) = true := by simp; omega
  have e1 : opsEq (current x) (current x) = true := opsEq_iff.2 rfl
  have e2 : ensEq (memoryOf x) (memoryOf x) = true := ensEq_iff.2 rfl
  refine rnd_step fun R hR => ?_
  simp only [p8_1,Int.toNat_natCast,hat,hd,List.length_map,VV,pexec,binV,reduceIte,reduceCtorEq]
  refine ⟨⟨by omega,by omega⟩,?_⟩
  refine call_eq (opCurrent_pc x sx _) rfl ?_
  simp only [VV,pexec]
  refine call_eq (r36Current_pc x sx _) rfl ?_
  simp only [VV]
  refine call_eq (r36SameOps_pc (current x) (current x) _) rfl ?_
  simp only [e1,VV,pexec]
  refine callg_eq (by simp only [VV] <;> rfl) (fun _ => opMemory_pc x sx _) rfl ?_
  simp only [VV,pexec]
  refine callg_eq (by simp only [VV] <;> rfl) (fun _ => r36MemoryOf_pc x sx _) rfl ?_
  simp only [VV]
  refine callg_eq (by simp only [VV] <;> rfl) (fun _ => r16SameEntries_pc (memoryOf x) (memoryOf x) _) rfl ?_
  simp only [e2,hw,VV,pexec,binV,reduceIte,reduceCtorEq]
  exact hR _ (rnd_cvs (by repeat first | exact .nil | refine .cons (.refl _) ?_ | refine .cons (.forget _) ?_) (ih (pre ++ [x]) (by rw [he]; simp) h1))
set_option maxHeartbeats 2000000 in
set_option maxRecDepth 20000 in
theorem operationCurrent_pc (raw : List Opr) (hr : ∀ o ∈ raw,o.small) (l : List Int) (σ : Store) : PC Tryz.prog 8 [.sl 13 (raw.map Opr.cells),.sl 1 (l.map iRow)] σ (fun r σ' => r = .b true ∧ σ' = σ) := by
 refine PC.intro Tryz.func8 c8 fun hcl hwf => ?_
 have hlen := wf_sl (hwf 0 _ rfl).1
 rw [List.length_map] at hlen
 simp only [p8,List.length_cons,List.length_nil,List.replicate,List.cons_append,List.nil_append,Nat.reduceAdd,Nat.reduceSub]
 refine PWc.cut fun R hR => ?_
 simp only [VV,pexec]
 refine hR _ ?_
 clear hR R
 refine PWc.cut fun R hR => ?_
 simp only [V.pure,VV,pexec]
 refine call_cv (zs := [.sl 1 ([l].map liRow)]) (.cons (.lit _ _) .nil) (long_pc [l] _) ?_
 simp only [List.length_map,VV,pexec,binV,reduceIte]
 refine ⟨fun _ => ?_,fun h => ?_⟩
 ·refine call_eq (known_pc _) rfl ?_
  simp only [VV,pexec]
  exact ret_end0 (.inr rfl) (by simp only [resVs,resV,VV]; rfl) ⟨rfl,rfl⟩
 have hrl : raw.length ≤ 12 := by
  simp only [Bool.or_eq_false_iff,decide_eq_false_iff_not] at h
  omega
 refine hR _ (PWc.cvs (fr' := [.sl 13 (raw.map Opr.cells),.sl 1 (l.map iRow),.u,.u,.u,.u,.u,.u,.u,.u,.u,.u,.u,.u,.u,.u,.u,.u,.u,.u,.u,.u,.u,.u,.u,.u,.u,.u,.u,.u,.u,.u,.u,.u,.u,.u,.u,.u,.u,.u,.u,.u,.u,.u,.u,.u,.u,.u,.u,.u,.u,.u,.u,.u,.u,.u,.u,.u,.u,.u,.u,.u,.u,.u,.u,.u]) ?_ (by repeat first | exact .nil | refine .cons (.refl _) ?_ | refine .cons (.forget _) ?_))
 clear hR R
 refine PWc.cut fun R hR => ?_
 simp only [List.length_map,VV,pexec]
 refine PWc.rnd_cvs (fr' := [.sl 13 (raw.map Opr.cells),.sl 1 (l.map iRow),.u,.u,.u,.u,.u,.u,.u,.u,.u,.u,.u,.u,.u,.u,.u,.u,.u,.sl 13 (raw.map Opr.cells),.i .i64 raw.length,.i .i64 (([] : List Opr).length : Nat),.u,.u,.u,.u,.u,.u,.u,.u,.u,.u,.u,.u,.u,.u,.u,.u,.u,.u,.u,.u,.u,.u,.u,.u,.u,.u,.u,.u,.u,.u,.u,.u,.u,.u,.u,.u,.u,.u,.u,.u,.u,.u,.u,.u]) (by repeat first | exact .nil | refine .cons (.refl _) ?_ | refine .cons (.forget _) ?_) (raw.length + 1) (loop8_0 hcl raw (by omega) hr (l.map iRow) raw [] rfl ?_ ?_)
 rotate_left
 ·intro loc
  intros
  simp only [VV]
  exact ret_end hcl (.inr rfl) (by simp only [resVs,resV,VV]; rfl) (by simp only [LW]) ⟨rfl,rfl⟩
 intros
 simp only [VV]
 refine hR _ (PWc.cvs (fr' := [.sl 13 (raw.map Opr.cells),.sl 1 (l.map iRow),.u,.u,.u,.u,.u,.u,.u,.u,.u,.u,.u,.u,.u,.u,.u,.u,.u,.u,.u,.u,.u,.u,.u,.u,.u,.u,.u,.u,.u,.u,.u,.u,.u,.u,.u,.u,.u,.u,.u,.u,.u,.u,.u,.u,.u,.u,.u,.u,.u,.u,.u,.u,.u,.u,.u,.u,.u,.u,.u,.u,.u,.u,.u,.u]) ?_ (by repeat first | exact .nil | refine .cons (.refl _) ?_ | refine .cons (.forget _) ?_))
 clear hR R
 refine PWc.cut fun R hR => ?_
 simp only [VV,pexec]
 refine call_ex (opsOf_pc l 8 (by decide) _) rfl ?_
 rintro _ σ1 ⟨m,rfl,hm,hml,hσ⟩
 have hσ := hσ.symm
 subst hσ
 simp only [VV,pexec]
 have hs : ∀ o ∈ m,o.small := fun o ho => (hm o ho).small
 refine hR _ (PWc.cvs (fr' := [.sl 13 (raw.map Opr.cells),.u,.u,.u,.u,.u,.u,.sl 13 (m.map Opr.cells),.u,.u,.u,.u,.u,.u,.u,.u,.u,.u,.u,.u,.u,.u,.u,.u,.u,.u,.u,.u,.u,.u,.u,.u,.u,.u,.u,.u,.u,.u,.u,.u,.u,.u,.u,.u,.u,.u,.u,.u,.u,.u,.u,.u,.u,.u,.u,.u,.u,.u,.u,.u,.u,.u,.u,.u,.u,.u]) ?_ (by repeat first | exact .nil | refine .cons (.refl _) ?_ | refine .cons (.forget _) ?_))
 clear hR R
 refine PWc.cutW fun R hR => ?_
 refine PWc.cutW fun R2 hR2 => ?_
 refine PWc.reg2 7 (by simp [z,zm]) fun R3 hR3 => ?_
 have tail : ∀ {fr : List V} {s : Store},Wk Tryz.prog σ.length fr s [.u,.u,.u,.u,.u,.u,.u,.sl 13 (m.map Opr.cells),.u,.u,.u,.u,.u,.u,.u,.u,.u,.u,.u,.u,.u,.u,.u,.u,.u,.u,.u,.u,.u,.u,.u,.u,.sl 13 (raw.map Opr.cells),.sl 13 (m.map Opr.cells),.u,.u,.u,.u,.sl 13 ((m ++ raw).map Opr.cells),.u,.u,.u,.u,.u,.u,.u,.u,.u,.u,.u,.u,.u,.u,.u,.u,.u,.u,.u,.u,.u,.u,.u,.u,.u,.u,.u] σ → R3 ⟨fr,s⟩ := by
  intro fr s hw
  refine hR3 _ _ _ _ hw ?_
  clear hR3 hw
  simp only [List.drop_succ_cons,List.drop_zero,V.pure,VV,pexec,Nat.reduceAdd]
  refine hR2 _ (PWc.blk ?_)
  clear hR2
  refine PWc.rnd_cvs (fr' := [.u,.u,.u,.u,.u,.u,.u,.sl 13 (m.map Opr.cells),.u,.u,.u,.u,.u,.u,.u,.u,.u,.u,.u,.u,.u,.u,.u,.u,.u,.u,.u,.u,.u,.u,.u,.u,.u,.u,.u,.u,.u,.u,.u,.sl 1 (([raw,m,m ++ raw] : List (List Opr)).map fun m => [.sl 13 (m.map Opr.cells)]),.i .i64 ([raw,m,m ++ raw] : List (List Opr)).length,.i .i64 (([] : List (List Opr)).length : Nat),.u,.u,.u,.u,.u,.u,.u,.u,.u,.u,.u,.u,.u,.u,.u,.u,.u,.u,.u,.u,.u,.u,.u,.u]) ?_ (([raw,m,m ++ raw] : List (List Opr)).length + 1)
   (loop8_1 hcl [raw,m,m ++ raw] (by simp) ?_ (m.map Opr.cells) [raw,m,m ++ raw] [] rfl ?_)
  ·repeat first | exact .nil | refine .cons (.refl _) ?_ | refine .cons (.lit _ _) ?_ | refine .cons (.forget _) ?_
  ·intro z hz
   simp only [List.mem_cons,List.not_mem_nil,or_false] at hz
   rcases hz with rfl | rfl | rfl
   ·exact hr
   ·exact hs
   ·intro o ho
    rcases List.mem_append.1 ho with h | h
    ·exact hs o h
    ·exact hr o h
  intros
  simp only [VV]
  refine hR _ (PWc.cvs (fr' := [.u,.u,.u,.u,.u,.u,.u,.sl 13 (m.map Opr.cells),.u,.u,.u,.u,.u,.u,.u,.u,.u,.u,.u,.u,.u,.u,.u,.u,.u,.u,.u,.u,.u,.u,.u,.u,.u,.u,.u,.u,.u,.u,.u,.u,.u,.u,.u,.u,.u,.u,.u,.u,.u,.u,.u,.u,.u,.u,.u,.u,.u,.u,.u,.u,.u,.u,.u,.u,.u,.u]) (wpc_sound ?_) (by repeat first | exact .nil | refine .cons (.refl _) ?_ | refine .cons (.forget _) ?_))
  clear hR
  have hM := memoryOf_isMem fun o ho => (hm o ho).ok
  have hse : ∀ e ∈ memoryOf m,e.small := fun e he => by
   simp only [memoryOf,List.mem_map,List.mem_filter] at he
   obtain ⟨o,⟨ho,_⟩,rfl⟩ := he
   exact (hs o (current_mem ho)).entry
  simp only [VV,pexec]
  refine call_eq (opMemory_pc m hs _) rfl ?_
  simp only [VV]
  refine call_eq (memValid_pc (memoryOf m) hse _) rfl ?_
  simp only [hM.keys,VV,pexec]
  refine callg_eq (by simp only [VV] <;> rfl) (fun _ => known_pc _) rfl ?_
  simp only [VV,pexec]
  exact ret_end0 (.inr rfl) (by simp only [resVs,resV,VV]; rfl) ⟨rfl,rfl⟩
 have fin : ∀ (g : Nat) {fr : List V},Cvs fr [.u,.u,.u,.u,.u,.u,.u,.sl 13 (m.map Opr.cells),.u,.u,.u,.u,.u,.u,.u,.u,.u,.u,.u,.u,.u,.u,.u,.u,.u,.u,.u,.u,.u,.u,.u,.u,.sl 13 (raw.map Opr.cells),.sl 13 (m.map Opr.cells),.u,.u,.u,.u,.own σ.length g,.u,.u,.u,.u,.u,.u,.u,.u,.u,.u,.u,.u,.u,.u,.u,.u,.u,.u,.u,.u,.u,.u,.u,.u,.u,.u,.u] → R3 ⟨fr,σ ++ [opRow g false (m ++ raw)]⟩ := by
  intro g fr hc
  refine tail (((Wk.cvs hc).trans ((Wk.fz_at 0 (by simp only [opRow]; rfl)).trans (Wk.cvs (ys := [.u,.u,.u,.u,.u,.u,.u,.sl 13 (m.map Opr.cells),.u,.u,.u,.u,.u,.u,.u,.u,.u,.u,.u,.u,.u,.u,.u,.u,.u,.u,.u,.u,.u,.u,.u,.u,.sl 13 (raw.map Opr.cells),.sl 13 (m.map Opr.cells),.u,.u,.u,.u,.sl 13 ((m ++ raw).map Opr.cells),.u,.u,.u,.u,.u,.u,.u,.u,.u,.u,.u,.u,.u,.u,.u,.u,.u,.u,.u,.u,.u,.u,.u,.u,.u,.u,.u]) ?_))).trans (Wk.drop0 (Nat.le_refl _) hcl (allLt_iff.1 (by simp only [LW]))))
  simp only [List.map_cons,List.map_nil,fz,fz1,Nat.add_zero,and_self,if_true]
  repeat first | exact .nil | refine .cons (.refl _) ?_ | refine .cons (.forget _) ?_
 clear hR3
 cases hme : (m.map Opr.cells).isEmpty with
 | true =>
  have hm0 : m = [] := by simpa using hme
  subst hm0
  cases hre : (raw.map Opr.cells).isEmpty with
  | true =>
   have hr0 : raw = [] := by simpa using hre
   subst hr0
   simp only [List.take_succ_cons,List.take_zero,V.pure,maxLen,List.isEmpty_nil,if_true,VV,pexec,xexec]
   refine ⟨by omega,by omega,tail (Wk.cvs ?_)⟩
   repeat first | exact .nil | refine .cons (.refl _) ?_ | refine .cons (.lit _ _) ?_ | refine .cons (.forget _) ?_
  | false =>
   simp only [List.take_succ_cons,List.take_zero,hre,V.pure,maxLen,List.length_map,List.isEmpty_nil,if_true,Bool.false_eq_true,if_false,VV,pexec,xexec]
   refine ⟨by omega,by omega,fin 0 (by repeat first | exact .nil | refine .cons (.refl _) ?_ | refine .cons (.forget _) ?_)⟩
 | false =>
  simp only [List.take_succ_cons,List.take_zero,hme,Bool.false_eq_true,if_false,V.pure,maxLen,List.length_map,VV,pexec,xexec,reduceIte]
  rw [← List.map_append]
  exact ⟨by omega,by omega,fin 1 (by repeat first | exact .nil | refine .cons (.refl _) ?_ | refine .cons (.forget _) ?_)⟩
end Go.Proofs.Tryz

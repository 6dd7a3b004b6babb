/- A part of the proof that OperationCurrent returns true and leaves its arguments as they were, for every input of bounded size. -/
import Derived.Test.YtdhbodgefhojnaaGreatDoorU1
import Derived.Test.YtdhbodgefhojnaaGreatDoorU12
import Derived.Test.YtdhbodgefhojnaaGreatDoorU15
import Derived.Test.YtdhbodgefhojnaaGreatDoorU29
import Derived.Test.YtdhbodgefhojnaaGreatDoorU30
set_option linter.all false

namespace Go.Proofs.Tryz
open Go Go.Pm Go.Bt Go.RowKit
end Go.Proofs.Tryz
namespace Go.Proofs.Tryz
open Go Go.Pm Go.Bt
theorem ti_Str : Ti Tryz.prog 9 1 16 := tiB_ok (by kernel_rfl)
theorem loop74 {σ : Store} {K : Exit → St → Prop} (hcl : Closed σ) (m : List En) (hlen : m.length ≤ 1024) (hs : ∀ e ∈ m,e.small) : ∀ (rest pre : List En) (out : List (List UInt8)) (g : Nat),m = pre ++ rest → out.length = pre.length →
  ((keysGo rest out).2 = true → ∀ g,(∀ j0 j1 j2 j3 j5 j6 j7 j8 j9 j10 j11 j12 j13 j14 j15 j16 j17 j18 j19 j20 j21 j22 j23 j24 j25 j26 j27 j28 j29 j30 j31 j32 j33 j34 j35 j36 j37 j38 j39 j40,K (.exit 0) ⟨[j0,j1,j2,j3,.own σ.length g,j5,j6,j7,j8,j9,j10,j11,j12,j13,j14,j15,j16,j17,j18,j19,j20,j21,j22,j23,j24,j25,j26,j27,j28,j29,j30,j31,j32,j33,j34,j35,j36,j37,j38,j39,j40],σ ++ [.row 9 1 16 g false ((keysGo rest out).1.map sRow)]⟩)) →
  ((keysGo rest out).2 = false → ∀ (loc : Store),(∀ j0 j1 j4 j5 j6 j7 j8 j9 j10 j11 j12 j13 j14 j15 j16 j17 j18 j19 j20 j21 j22 j23 j24 j25 j26 j27 j28 j29 j30 j31 j32 j33 j34 j35 j36 j37 j38 j39 j40,K .ret ⟨[j0,j1,.nil,.b false,j4,j5,j6,j7,j8,j9,j10,j11,j12,j13,j14,j15,j16,j17,j18,j19,j20,j21,j22,j23,j24,j25,j26,j27,j28,j29,j30,j31,j32,j33,j34,j35,j36,j37,j38,j39,j40],σ ++ loc⟩)) →
  Rnd σ.length Tryz.prog p74_0 K (rest.length + 1) ⟨[.u,.u,.u,.u,.own σ.length g,.u,.u,.u,.u,.u,.sl 8 (m.map En.cells),.i .i64 m.length,.i .i64 pre.length,.u,.u,.u,.u,.u,.u,.u,.u,.u,.u,.u,.u,.u,.u,.u,.u,.u,.u,.u,.u,.u,.u,.u,.u,.u,.u,.u,.u],σ ++ [.row 9 1 16 g false (out.map sRow)]⟩ := by
 intro rest
 induction rest with
 | nil =>
  intro pre out g he ho h1 h2
  have he : m = pre := by simpa using he
  subst he
  refine rnd_step fun R hR => ?_
  simp only [p74_0,VV,pexec,xexec,binV,Nat.reduceAdd,reduceIte]
  exact ⟨fun h => by simp at h,fun _ => h1 rfl g ..⟩
 | cons x rest ih =>
  intro pre out g he ho h1 h2
  have hx : x ∈ m := by rw [he]; simp
  have sx := hs x hx
  have hml : m.length = pre.length + (rest.length + 1) := by rw [he]; simp
  have hw : IntKind.i64.wrap ((pre.length : Int) + 1) = (((pre ++ [x]).length : Nat) : Int) := by
   rw [wrap_succ (by omega)]; simp
  have hat : (List.map En.cells m).getD pre.length [] = x.cells := by rw [he]; exact row_at
  have hd : decide ((pre.length : Int) < (m.length : Int)) = true := by simp; omega
  refine rnd_step fun R hR => ?_
  simp only [p74_0,Int.toNat_natCast,hat,hd,En.cells,List.length_map,VV,pexec,xexec,binV,Nat.reduceAdd,reduceIte,reduceCtorEq]
  refine ⟨⟨by omega,by omega⟩,?_⟩
  refine call_eq (memValidate_pc x sx _) rfl ?_
  simp only [VV,pexec,binV,Nat.reduceAdd,reduceIte]
  refine ⟨fun h => ?_,fun h => ?_⟩
  ·have h : entryErr x ≠ 0 := by simpa using h
   exact h2 (by simp only [keysGo,if_pos h]) _ ..
  have h : ¬ entryErr x ≠ 0 := by simpa using h
  refine call_eq (memJoin_pc x sx _) rfl ?_
  simp only [keysGo,if_neg h] at h1 h2
  have e0 : out.map sRow ++ [[V.s (joinKey x)]] = (out ++ [joinKey x]).map sRow := by simp [sRow]
  have hy : 0 < pre.length → at2 ((out ++ [joinKey x]).map sRow) (pre.length - 1) 0 = some (.s (out.getLast?.getD [])) := by
   intro h
   rcases List.eq_nil_or_concat out with rfl | ⟨o,y,rfl⟩
   ·simp at ho; omega
   ·simp only [List.concat_eq_append,List.length_append,List.length_cons,List.length_nil] at ho ⊢
    rw [← ho]
    simp [at2,sRow]
  have hk : at2 ((out ++ [joinKey x]).map sRow) pre.length 0 = some (.s (joinKey x)) := by
   rw [← ho]; simp [at2,sRow]
  have hl : (((out ++ [joinKey x]).map sRow).length : Int) = pre.length + 1 := by simp [ho]
  have hws : 0 < pre.length → IntKind.i64.wrap ((pre.length : Int) - 1) = ((pre.length - 1 : Nat) : Int) := fun h => by rw [IntWalk.i64_in _ (by omega)]; omega
  simp only [e0,List.length_map,V.pure,maxLen,VV,pexec,xexec,binV,reduceIte]
  refine ⟨⟨by omega,by omega⟩,fun h => ?_,.s (out.getLast?.getD []),fun h => ⟨True,?_,trivial⟩,?_⟩
  ·have h : 0 < pre.length := by simpa using h
   rw [hws h,← List.length_map (f := sRow),hl]; omega
  ·have h : 0 < pre.length := by simpa using h
   rw [hws h,Int.toNat_natCast,hy h]
  simp only [hk,VV]
  refine ⟨fun _ => by simp; omega,_,fun _ => rfl,?_⟩
  have hge : (decide ((0 : Int) < (pre.length : Int)) && !Op.bytesLess (out.getLast?.getD []) (joinKey x)) = lastGe out (joinKey x) := by
   rcases List.eq_nil_or_concat out with rfl | ⟨o,y,rfl⟩
   ·have : pre.length = 0 := by simpa using ho.symm
    simp [lastGe,this]
   ·have : 0 < pre.length := by simp at ho; omega
    simp [lastGe,this]
  simp only [hw,hge,VV,pexec,binV,reduceIte]
  refine ⟨fun h => ?_,fun h => ?_⟩
  ·exact h2 (by rw [if_pos h]) (_ :: _) ..
  ·have h : ¬ lastGe out (joinKey x) = true := by rw [h]; simp
   simp only [if_neg h] at h1 h2
   refine hR _ (rnd_drop (fr' := [.u,.u,.u,.u,.own σ.length (g + 1),.u,.u,.u,.u,.u,.sl 8 (m.map En.cells),.i .i64 m.length,.i .i64 (pre ++ [x]).length,.u,.u,.u,.u,.u,.u,.u,.u,.u,.u,.u,.u,.u,.u,.u,.u,.u,.u,.u,.u,.u,.u,.u,.u,.u,.u,.u,.u]) [_] _ (closed_add hcl (by simp)) (by repeat first | exact .nil | refine .cons (.refl _) ?_ | refine .cons (.forget _) ?_) ?_ (ih (pre ++ [x]) (out ++ [joinKey x]) (g + 1) (by rw [he]; simp) (by simp [ho]) h1 h2))
   simp only [List.length_cons,List.length_nil,Nat.lt_add_right_iff_pos,Nat.zero_lt_succ,LW]
theorem memKeys_pc (m : List En) (hs : ∀ e ∈ m,e.small) (σ : Store) : PC Tryz.prog 74 [.sl 8 (m.map En.cells)] σ (fun r σ' => r = .tup [.sl 1 ((keysOf m).1.map sRow),.b (keysOf m).2] ∧ σ' = σ) := by
 refine PC.intro Tryz.func74 c74 fun hcl hwf => wpc_sound ?_
 simp only [p74,List.length_cons,List.length_nil,List.replicate,List.cons_append,List.nil_append,Nat.reduceAdd,Nat.reduceSub]
 simp only [List.length_map,VV,pexec,binV,reduceIte]
 refine ⟨fun h => ?_,fun h => ?_⟩
 ·have h : 1024 < m.length := by simp at h; omega
  refine ret_wk (xs' := [.sl 1 [],.b false]) (.inr rfl) (by simp only [resVs,resV,VV]) (Wk.cvs (.cons (.nil _) (.cons (.refl _) .nil))) rfl ?_
  simp only [keysOf,if_pos h]; exact ⟨rfl,by trivial⟩
 ·have h : ¬ 1024 < m.length := by simp at h; omega
  refine PWc.wk ((Wk.promote (P := Tryz.prog) (σ := σ) (k := 4) ti_Str rfl).trans (Wk.cvs ?_)) (PWc.rnd (m.length + 1) (loop74 hcl m (by omega) hs m [] [] 0 rfl rfl (fun ho => ?_) (fun ho => ?_)))
  ·simp only [VV]
   repeat first | exact .nil | refine .cons (.refl _) ?_ | refine .cons (.forget _) ?_
  ·intro g
   intros
   simp only [VV,pexec]
   refine ret_fz 0 hcl (.inr rfl) (by simp only [resVs,resV,VV]; rfl) rfl ?_ ?_
   ·simp only [List.map_cons,List.map_nil,Nat.add_zero,fz,fz1,and_self,if_true,LW]
   ·simp only [List.map_cons,List.map_nil,Nat.add_zero,fz,fz1,and_self,if_true,keysOf,if_neg h,ho]
    exact ⟨rfl,trivial⟩
  ·intro loc
   intros
   refine ret_cvs (ys := [.sl 1 [],.b false]) hcl (.inr rfl) (by simp only [resVs,resV,VV]; rfl) ?_ (by simp only [LW]) ?_
   ·exact .cons (.nil _) (.cons (.refl _) .nil)
   ·have e : keysGo m [] = ([],false) := by
     have key : ∀ (m : List En) (out : List (List UInt8)),(keysGo m out).2 = false → keysGo m out = ([],false) := by
      intro m
      induction m with
      | nil => intro out h; simp [keysGo] at h
      | cons x m ih =>
       intro out h
       simp only [keysGo] at h ⊢
       split
       ·rfl
       ·rename_i h1
        rw [if_neg h1] at h
        split
        ·rfl
        ·rename_i h2
         rw [if_neg h2] at h
         exact ih _ h
     exact key m [] ho
    simp only [keysOf,if_neg h,e]; exact ⟨rfl,by trivial⟩
theorem memValid_pc (m : List En) (hs : ∀ e ∈ m,e.small) (σ : Store) : PC Tryz.prog 36 [.sl 8 (m.map En.cells)] σ (fun r σ' => r = .b (keysOf m).2 ∧ σ' = σ) := by
 refine PC.intro Tryz.func36 c36 fun hcl hwf => wpc_sound ?_
 simp only [p36,List.length_cons,List.length_nil,List.replicate,List.cons_append,List.nil_append,Nat.reduceAdd,Nat.reduceSub]
 simp only [VV,pexec]
 refine call_eq (memKeys_pc m hs _) rfl ?_
 simp only [VV,pexec]
 exact ret_end0 (.inr rfl) (by simp only [resVs,resV,VV]; rfl) ⟨rfl,rfl⟩
end Go.Proofs.Tryz

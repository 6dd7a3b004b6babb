/- A part of the proof that OperationCurrent returns true and leaves its arguments as they were, for every input of bounded size. -/
import Derived.Test.YtdhbodgefhojnaaGreatDoorU20
set_option linter.all false

namespace Go.Proofs.Tryz
open Go Go.Pm Go.Bt
theorem ti_opR : Ti Tryz.prog 33 13 184 := tiB_ok (by kernel_rfl)
def opRow (g : Nat) (sh : Bool) (f : List Opr) : Ob := .row 33 13 184 g sh (f.map Opr.cells)
theorem op_row {out : List Opr} {n : Nat} (h : n < out.length) : ∃ x ∈ out,(out.map Opr.cells).getD n [] = x.cells :=
 ⟨out[n],List.getElem_mem h,by simp [List.getD_eq_getElem?_getD,h]⟩
set_option maxHeartbeats 4000000 in
set_option maxRecDepth 20000 in
theorem loop65 (S : Store) (a : Nat) (ha : a < S.length) (l : List Int) {K : Exit → St → Prop} (k0 : Nat) (hk0 : k0 < 2 ^ 46) (hcl : Closed (nst S a l k0)) (N : Nat) (hN : N ≤ 20) : ∀ (m : Nat) (k : Nat) (out : List Opr) (g : Nat),m ≤ N → out.length + m ≤ N → (∀ o ∈ out,GenOp o) → k + 1000 * m ≤ k0 + 1000 * N →
  (∀ (k : Nat) (out : List Opr) (g : Nat),(∀ o ∈ out,GenOp o) → out.length ≤ N → k ≤ k0 + 1000 * N → (∀ j0 j1 j2 j3 j4 j6 j7 j8 j9 j10 j11 j12 j13 j14 j15 j16 j17 j18 j19 j20 j21 j22 j23 j24 j25 j26 j27 j28 j29 j30 j31 j32 j33 j34 j35 j36 j37 j38 j39 j40 j41 j42 j43 j44 j45 j46 j47 j48 j49 j50 j51 j52 j53 j54 j55 j56 j57 j58 j59 j60 j61 j62 j63,K (.exit 0) ⟨[j0,j1,j2,j3,j4,.own S.length g,j6,j7,j8,j9,j10,j11,j12,j13,j14,j15,j16,j17,j18,j19,j20,j21,j22,j23,j24,j25,j26,j27,j28,j29,j30,j31,j32,j33,j34,j35,j36,j37,j38,j39,j40,j41,j42,j43,j44,j45,j46,j47,j48,j49,j50,j51,j52,j53,j54,j55,j56,j57,j58,j59,j60,j61,j62,j63],nst S a l k ++ [opRow g false out]⟩)) →
  Rnd S.length Tryz.prog p65_0 K (m + 1) ⟨[.ptr a 0,.u,.u,.u,.u,.own S.length g,.i .i64 m,.u,.u,.u,.u,.u,.u,.u,.u,.u,.u,.u,.u,.u,.u,.u,.u,.u,.u,.u,.u,.u,.u,.u,.u,.u,.u,.u,.u,.u,.u,.u,.u,.u,.u,.u,.u,.u,.u,.u,.u,.u,.u,.u,.u,.u,.u,.u,.u,.u,.u,.u,.u,.u,.u,.u,.u,.u],nst S a l k ++ [opRow g false out]⟩ := by
 intro m
 induction m with
 | zero =>
  intro k out g hm hol ho hk h1
  refine rnd_step fun R hR => ?_
  simp only [p65_0,VV,pexec,binV,reduceIte]
  exact ⟨fun h => by simp at h,fun _ => h1 k out g ho (by omega) (by omega) ..⟩
 | succ m ih =>
  intro k out g hm hol ho hk h1
  have hw : IntKind.i64.wrap (((m + 1 : Nat) : Int) - 1) = (m : Int) := by rw [IntWalk.i64_in _ (by omega)]; omega
  refine rnd_stepW fun R hR => ?_
  simp only [p65_0]
  refine PWc.cut fun R1 hR1 => ?_
  simp only [VV,pexec,binV,reduceIte]
  refine ⟨fun _ => ?_,fun h => by simp at h <;> omega⟩
  refine hR1 _ (PWc.cvs (fr' := [.ptr a 0,.u,.u,.u,.u,.own S.length g,.i .i64 (m + 1 : Nat),.u,.u,.u,.u,.u,.u,.u,.u,.u,.u,.u,.u,.u,.u,.u,.u,.u,.u,.u,.u,.u,.u,.u,.u,.u,.u,.u,.u,.u,.u,.u,.u,.u,.u,.u,.u,.u,.u,.u,.u,.u,.u,.u,.u,.u,.u,.u,.u,.u,.u,.u,.u,.u,.u,.u,.u,.u]) ?_ (by repeat first | exact .nil | refine .cons (.refl _) ?_ | refine .cons (.forget _) ?_))
  clear hR1 R1
  refine PWc.cutW fun R2 hR2 => PWc.blk ?_
  have again : ∀ (out2 : List Opr) (g2 k2 : Nat) (ext : Store) {fr : List V},(∀ o ∈ out2,GenOp o) → out2.length ≤ out.length + 1 → k2 ≤ k + 1000 → Cvs fr [.ptr a 0,.u,.u,.u,.u,.own S.length g2,.i .i64 (m + 1 : Nat),.u,.u,.u,.u,.u,.u,.u,.u,.u,.u,.u,.u,.u,.u,.u,.u,.u,.u,.u,.u,.u,.u,.u,.u,.u,.u,.u,.u,.u,.u,.u,.u,.u,.u,.u,.u,.u,.u,.u,.u,.u,.u,.u,.u,.u,.u,.u,.u,.u,.u,.u,.u,.u,.u,.u,.u,.u] → R2 ⟨fr,nst S a l k2 ++ (opRow g2 false out2 :: ext)⟩ := by
   intro out2 g2 k2 ext fr c1 c2 c3 hc
   refine hR2 _ (PWc.cvs (wpc_sound ?_) hc)
   simp only [hw,VV,pexec,binV,reduceIte]
   have hw2 : Wk Tryz.prog S.length [.ptr a 0,.u,.u,.u,.u,.own S.length g2,.i .i64 m,.u,.u,.u,.u,.u,.u,.u,.u,.u,.u,.u,.u,.u,.u,.u,.u,.u,.u,.u,.u,.u,.u,.u,.u,.u,.u,.u,.u,.u,.u,.u,.u,.u,.u,.u,.u,.u,.u,.u,.u,.u,.u,.u,.u,.u,.u,.u,.u,.u,.u,.u,.u,.u,.u,.u,.u,.u] (nst S a l k2 ++ (opRow g2 false out2 :: ext)) [.ptr a 0,.u,.u,.u,.u,.own S.length g2,.i .i64 m,.u,.u,.u,.u,.u,.u,.u,.u,.u,.u,.u,.u,.u,.u,.u,.u,.u,.u,.u,.u,.u,.u,.u,.u,.u,.u,.u,.u,.u,.u,.u,.u,.u,.u,.u,.u,.u,.u,.u,.u,.u,.u,.u,.u,.u,.u,.u,.u,.u,.u,.u,.u,.u,.u,.u,.u,.u] (nst S a l k2 ++ [opRow g2 false out2]) := by
    have := Wk.drop0 (P := Tryz.prog) (n := S.length) (xs := [.ptr a 0,.u,.u,.u,.u,.own S.length g2,.i .i64 m,.u,.u,.u,.u,.u,.u,.u,.u,.u,.u,.u,.u,.u,.u,.u,.u,.u,.u,.u,.u,.u,.u,.u,.u,.u,.u,.u,.u,.u,.u,.u,.u,.u,.u,.u,.u,.u,.u,.u,.u,.u,.u,.u,.u,.u,.u,.u,.u,.u,.u,.u,.u,.u,.u,.u,.u,.u]) (σ := nst S a l k2 ++ [opRow g2 false out2]) (loc := ext) (by simp [nst_len]) (closed_add (nst_closed hcl) (by simp [opRow])) (allLt_iff.1 (by
     rw [List.length_append,nst_len]
     simp only [List.length_cons,List.length_nil,Nat.lt_add_one,Nat.lt_add_right 1 ha,Nat.zero_add,LW]))
    rwa [List.append_assoc,List.singleton_append] at this
   exact hR _ (rnd_wk ((Wk.cvs (by repeat first | exact .nil | refine .cons (.refl _) ?_ | refine .cons (.forget _) ?_)).trans hw2) (ih k2 out2 g2 (by omega) (by omega) c1 (by omega) h1))
  refine PWc.cut fun R3 hR3 => ?_
  simp only [opRow,VV,pexec]
  refine call_ex (op_at S a ha l k (by omega) _) rfl ?_
  rintro _ _ ⟨o,k1,rfl,hO,hk1,rfl⟩
  simp only [Opr.cells,Stamp.cells,En.cells,nst_len,nb,nbs,VV,xexec,Nat.reduceAdd]
  refine hR3 _ (PWc.cvs (fr' := [.ptr a 0,.u,.u,.u,.u,.own S.length g,.i .i64 (m + 1 : Nat),.ptr (S.length + 1) 0,.u,.u,.u,.u,.u,.u,.u,.u,.u,.u,.u,.u,.u,.u,.u,.u,.u,.u,.u,.u,.u,.u,.u,.u,.u,.u,.u,.u,.u,.u,.u,.u,.u,.u,.u,.u,.u,.u,.u,.u,.u,.u,.u,.u,.u,.u,.u,.u,.u,.u,.u,.u,.u,.u,.u,.u]) ?_ (by repeat first | exact .nil | refine .cons (.refl _) ?_ | refine .cons (.forget _) ?_))
  clear hR3 R3
  refine PWc.cutW fun R4 hR4 => ?_
  have tail : ∀ (o : Opr) (k2 : Nat) (ext : Store) {fr : List V},o.small → (opErr o = 0 → GenOp o) → k2 ≤ k + 1000 → Cvs fr [.ptr a 0,.u,.u,.u,.u,.own S.length g,.i .i64 (m + 1 : Nat),.ptr (S.length + 1) 0,.u,.u,.u,.u,.u,.u,.u,.u,.u,.u,.u,.u,.u,.u,.u,.u,.u,.u,.u,.u,.u,.u,.u,.u,.u,.u,.u,.u,.u,.u,.u,.u,.u,.u,.u,.u,.u,.u,.u,.u,.u,.u,.u,.u,.u,.u,.u,.u,.u,.u,.u,.u,.u,.u,.u,.u] →
    R4 ⟨fr,nst S a l k2 ++ (opRow g false out :: .box 33 o.cells :: ext)⟩ := by
   intro o k2 ext fr c1 c2 c3 hc
   refine hR4 _ (PWc.cvs (wpc_sound ?_) hc)
   simp only [opRow,Opr.cells,Stamp.cells,En.cells,List.cons_append,List.nil_append,nb,VV,pexec,Nat.reduceAdd]
   refine call_eq (r36ValidateOp_pc o c1 _) rfl ?_
   simp only [nb0,nb,nbs0,List.length_map,V.pure,VV,pexec,xexec,binV,Nat.reduceAdd,reduceIte]
   refine ⟨fun h => ⟨⟨by omega,by simp only [maxLen]; omega⟩,?_⟩,fun h => ?_⟩
   ·have e0 : out.map Opr.cells ++ [[.i .i64 o.stamp.time,.i .i64 o.stamp.office,.i .i64 o.stamp.number,.i .i64 o.kind,.sl 3 (o.entry.source.map It.cells),.sl 3 (o.entry.target.map It.cells),.s o.entry.previous,.s o.entry.next,.s o.entry.author,.s o.entry.project,.i .i64 o.entry.created,.i .i64 o.entry.origin,.sl 1 (o.seen.map iRow)]] = (out ++ [o]).map Opr.cells := by
     simp [Opr.cells,Stamp.cells,En.cells]
    rw [e0]
    refine again (out ++ [o]) (g + 1) k2 _ (fun z hz => ?_) (by simp) c3 (by repeat first | exact .nil | refine .cons (.refl _) ?_ | refine .cons (.forget _) ?_)
    rcases List.mem_append.1 hz with hz | hz
    ·exact ho z hz
    ·rw [List.mem_singleton] at hz; subst hz; exact c2 (by simpa using h)
   ·exact again out g k2 _ ho (by omega) c3 (by repeat first | exact .nil | refine .cons (.refl _) ?_ | refine .cons (.forget _) ?_)
  refine PWc.cut fun R5 hR5 => ?_
  have skip : ∀ (k2 : Nat) {fr : List V},k2 ≤ k1 + 1 → Cvs fr [.ptr a 0,.u,.u,.u,.u,.own S.length g,.i .i64 (m + 1 : Nat),.ptr (S.length + 1) 0,.u,.u,.u,.u,.u,.u,.u,.u,.u,.u,.u,.u,.u,.u,.u,.u,.u,.u,.b false,.u,.u,.u,.u,.u,.u,.u,.u,.u,.u,.u,.u,.u,.u,.u,.u,.u,.u,.u,.u,.u,.u,.u,.u,.u,.u,.u,.u,.u,.u,.u,.u,.u,.u,.u,.u,.u] → R5 ⟨fr,nst S a l k2 ++ [opRow g false out,.box 33 o.cells]⟩ := by
   intro k2 fr hk2 hc
   refine hR5 _ (PWc.cvs (PWc.iteF rfl (wpc_sound ?_)) hc)
   simp only [VV]
   exact tail o k2 [] hO.small (fun _ => hO) (by omega) (by repeat first | exact .nil | refine .cons (.refl _) ?_ | refine .cons (.forget _) ?_)
  simp only [nb0,List.length_map,VV,pexec,binV,reduceIte]
  by_cases hne : out = []
  ·have e1 : decide ((0 : Int) < (out.length : Int)) = false := by simp [hne]
   refine callg_ex (Q := fun _ _ => True) (c := false) (by simp only [e1,VV] <;> rfl) (fun h => by simp at h) rfl (fun h => by simp at h) fun _ => ⟨.i .i64 0,?_⟩
   simp only [e1,VV,pexec,binV,reduceIte]
   refine skip k1 (by omega) ?_
   repeat first | exact .nil | refine .cons (.refl _) ?_ | refine .cons (.forget _) ?_
  have e1 : decide ((0 : Int) < (out.length : Int)) = true := by
   have := List.length_pos_iff.2 hne
   simp; omega
  refine callg_ex (c := true) (by simp only [e1,VV] <;> rfl) (fun _ => next_at S a ha l k1 (by omega) 2 (by decide) (by decide) _) rfl ?_ (fun h => by simp at h)
  rintro _ _ _ ⟨v,rfl,hv,rfl⟩
  by_cases hv0 : v = 0
  ·have e2 : (v == 0) = true := by simp [hv0]
   simp only [e1,e2,VV,pexec,binV,reduceIte]
   refine hR5 _ (PWc.cvs (fr' := [.ptr a 0,.u,.u,.u,.u,.own S.length g,.i .i64 (m + 1 : Nat),.ptr (S.length + 1) 0,.u,.u,.u,.u,.u,.u,.u,.u,.u,.u,.u,.u,.u,.u,.u,.u,.u,.u,.b true,.u,.u,.u,.u,.u,.u,.u,.u,.u,.u,.u,.u,.u,.u,.u,.u,.u,.u,.u,.u,.u,.u,.u,.u,.u,.u,.u,.u,.u,.u,.u,.u,.u,.u,.u,.u,.u]) (PWc.iteT rfl ?_) (by repeat first | exact .nil | refine .cons (.refl _) ?_ | refine .cons (.forget _) ?_))
   clear hR5 skip R5
   refine PWc.cut fun R6 hR6 => ?_
   simp only [nb0,List.length_map,VV,pexec,reduceIte]
   refine call_ex (next_at S a ha l (k1 + 1) (by omega) out.length (by have := List.length_pos_iff.2 hne; omega) (by omega) _) rfl ?_
   rintro _ _ ⟨j,rfl,hj,rfl⟩
   simp only [nst_len,nb0,nb,nbs,List.length_map,VV,pexec,xexec,Nat.reduceAdd,reduceIte]
   obtain ⟨x,hxm,hxe⟩ := op_row (out := out) (n := j.toNat) (by omega)
   have hX := ho x hxm
   simp only [hxe,Opr.cells,Stamp.cells,En.cells,VV,Nat.reduceAdd,Nat.reduceLeDiff]
   refine ⟨⟨hj.1,hj.2⟩,?_⟩
   refine hR6 _ (PWc.cvs (fr' := [.ptr a 0,.u,.u,.u,.u,.own S.length g,.i .i64 (m + 1 : Nat),.ptr (S.length + 1) 0,.ptr (S.length + 2) 0,.u,.u,.u,.u,.u,.u,.u,.u,.u,.u,.u,.u,.u,.u,.u,.u,.u,.u,.u,.u,.u,.u,.u,.u,.u,.u,.u,.u,.u,.u,.u,.u,.u,.u,.u,.u,.u,.u,.u,.u,.u,.u,.u,.u,.u,.u,.u,.u,.u,.u,.u,.u,.u,.u,.u]) ?_ (by repeat first | exact .nil | refine .cons (.refl _) ?_ | refine .cons (.forget _) ?_))
   clear hR6 R6
   refine PWc.cut fun R7 hR7 => ?_
   simp only [nb,nbs,V.pure,VV,pexec,xexec,binV,Nat.reduceAdd,Nat.reduceLeDiff]
   refine hR7 _ (PWc.cvs (fr' := [.ptr a 0,.u,.u,.u,.u,.own S.length g,.i .i64 (m + 1 : Nat),.ptr (S.length + 1) 0,.ptr (S.length + 2) 0,.u,.u,.u,.u,.u,.u,.u,.u,.u,.u,.u,.u,.u,.u,.u,.u,.u,.u,.u,.u,.u,.u,.u,.u,.u,.u,.u,.u,.u,.u,.u,.u,.u,.u,.u,.u,.u,.u,.u,.u,.u,.u,.u,.u,.u,.u,.u,.u,.u,.u,.u,.u,.u,.u,.u]) (wpc_sound ?_) (by repeat first | exact .nil | refine .cons (.refl _) ?_ | refine .cons (.forget _) ?_))
   clear hR7 R7
   simp only [nb,VV,pexec,binV,reduceIte]
   refine ⟨fun hk1' => ?_,fun hk1' => ?_⟩
   ·refine call_ex (target_at S a ha l (k1 + 1 + 1) (by omega) x.entry.source hX.src (by have := hX.srcLen; omega) (by have := hX.srcText; omega) _) rfl ?_
    rintro _ _ ⟨t,k2,rfl,t1,t2,t3,t4,rfl⟩
    simp only [nb,nbs,VV,pexec,xexec,Nat.reduceAdd,Nat.reduceLeDiff]
    have hs := mix_small hO hX (t := t) (by have := hX.srcLen; omega) (by have := hX.srcLen; have := hX.srcText; omega) (fun y hy => by have := err_ids t1 y hy; omega)
    refine tail (mixOp o x t) k2 _ hs (mix_gen hO hX hs) (by have := hX.srcLen; omega) ?_
    repeat first | exact .nil | refine .cons (.refl _) ?_ | refine .cons (.forget _) ?_
   ·have hs := mix_small hO hX (t := o.entry.target) hO.small.entry.target hO.small.entry.targetT (fun y hy => hO.small.entry.ids y (List.mem_append_right _ hy))
    refine tail (mixOp o x o.entry.target) (k1 + 1 + 1) _ hs (mix_gen hO hX hs) (by omega) ?_
    repeat first | exact .nil | refine .cons (.refl _) ?_ | refine .cons (.forget _) ?_
  ·have e2 : (v == 0) = false := by simpa using hv0
   simp only [e1,e2,VV,pexec,binV,reduceIte]
   refine skip (k1 + 1) (by omega) ?_
   repeat first | exact .nil | refine .cons (.refl _) ?_ | refine .cons (.forget _) ?_
theorem ops_pc (S : Store) (a : Nat) (ha : a < S.length) (l : List Int) (k : Nat) (hk : k < 2 ^ 45) (N : Nat) (hN : N ≤ 20) :
  PC Tryz.prog 65 [.ptr a 0,.i .i64 N] (nst S a l k) (fun r σ' => ∃ (out : List Opr) (k' : Nat),r = .sl 13 (out.map Opr.cells) ∧ (∀ o ∈ out,GenOp o) ∧ out.length ≤ N ∧ σ' = nst S a l k') := by
 refine PC.intro Tryz.func65 c65 fun hcl hwf => wpc_sound ?_
 have hw : IntKind.i64.wrap ((N : Int) + 1) = ((N + 1 : Nat) : Int) := wrap_succ (by omega)
 simp only [p65,List.length_cons,List.length_nil,List.replicate,List.cons_append,List.nil_append,Nat.reduceAdd,Nat.reduceSub]
 simp only [nst_len,hw,VV,Int.reduceBEq,Int.reduceBNe,pexec,xexec,binV,Nat.reduceAdd,Nat.reduceSub,Nat.reduceLeDiff,Nat.reduceEqDiff,Int.reduceToNat,reduceIte,reduceCtorEq]
 refine call_ex (next_pc S a ha l k (by omega) ((N + 1 : Nat) : Int) (by omega) (by omega)) rfl ?_
 rintro _ _ ⟨v,rfl,hv,rfl⟩
 obtain ⟨m,rfl⟩ : ∃ m : Nat,v = m := ⟨v.toNat,by omega⟩
 simp only [nst_len,hw,VV,Int.reduceBEq,Int.reduceBNe,pexec,xexec,binV,Nat.reduceAdd,Nat.reduceSub,Nat.reduceLeDiff,Nat.reduceEqDiff,Int.reduceToNat,reduceIte,reduceCtorEq]
 refine PWc.wk (((Wk.cvs (ys := [.ptr a 0,.u,.u,.u,.u,.nil,.i .i64 m,.u,.u,.u,.u,.u,.u,.u,.u,.u,.u,.u,.u,.u,.u,.u,.u,.u,.u,.u,.u,.u,.u,.u,.u,.u,.u,.u,.u,.u,.u,.u,.u,.u,.u,.u,.u,.u,.u,.u,.u,.u,.u,.u,.u,.u,.u,.u,.u,.u,.u,.u,.u,.u,.u,.u,.u,.u]) (by repeat first | exact .nil | refine .cons (.refl _) ?_ | refine .cons (.forget _) ?_)).trans (Wk.promote (P := Tryz.prog) (σ := nst S a l (k + 1)) (k := 5) ti_opR rfl)).trans (Wk.cvs (ys := [.ptr a 0,.u,.u,.u,.u,.own S.length 0,.i .i64 m,.u,.u,.u,.u,.u,.u,.u,.u,.u,.u,.u,.u,.u,.u,.u,.u,.u,.u,.u,.u,.u,.u,.u,.u,.u,.u,.u,.u,.u,.u,.u,.u,.u,.u,.u,.u,.u,.u,.u,.u,.u,.u,.u,.u,.u,.u,.u,.u,.u,.u,.u,.u,.u,.u,.u,.u,.u]) ?_))
  (PWc.rnd (m + 1) (loop65 S a ha l (k + 1) (by omega) (nst_closed hcl) m (by omega) m (k + 1) [] 0 (Nat.le_refl _) (by simp) (by simp) (by omega) ?_))
 ·simp only [nst_len,List.length_cons,List.length_nil,VV,Int.reduceBEq,Int.reduceBNe,pexec,xexec,binV,Nat.reduceAdd,Nat.reduceSub,Nat.reduceLeDiff,Nat.reduceEqDiff,Int.reduceToNat,reduceIte,reduceCtorEq]
  repeat first | exact .nil | refine .cons (.refl _) ?_ | refine .cons (.forget _) ?_
 intro k' out g c1 c2 c3
 intros
 simp only [opRow,nst_len,nb0,nb,nbs0,nbs,VV,Int.reduceBEq,Int.reduceBNe,pexec,xexec,binV,Nat.reduceAdd,Nat.reduceSub,Nat.reduceLeDiff,Nat.reduceEqDiff,Int.reduceToNat,reduceIte,reduceCtorEq]
 refine ret_wk (xs' := [.sl 13 (out.map Opr.cells)]) (.inr rfl) rfl ((Wk.fz S.length (E := 33) (sz := 13) (by' := 184) (g := g) (sh := false) (rows := out.map Opr.cells) (by rw [nb0]; rfl)).trans ?_) rfl ⟨out,k',rfl,c1,by omega,rfl⟩
 rw [nbs0]
 simp only [List.map_cons,List.map_nil,ev,setd,List.getD_cons_zero,List.getD_cons_succ,List.set_cons_zero,List.set_cons_succ,fz,fz1,and_self,if_true]
 have := Wk.end0 (P := Tryz.prog) (xs := [.sl 13 (out.map Opr.cells)]) (loc := [Ob.row 33 13 184 g true (out.map Opr.cells)]) (nst_closed (k' := k') hcl) (by simp only [nst_len,LW])
 rw [nst_len] at this
 exact this
end Go.Proofs.Tryz

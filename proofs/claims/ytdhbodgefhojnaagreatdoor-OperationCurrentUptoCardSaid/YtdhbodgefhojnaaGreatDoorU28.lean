/- A part of the proof that OperationCurrent returns true and leaves its arguments as they were, for every input of bounded size. -/
import Derived.Deep.Slices
import Derived.Deep.Strs
import Derived.Test.YtdhbodgefhojnaaGreatDoorU15
import Derived.Test.YtdhbodgefhojnaaGreatDoorU27
set_option linter.all false

namespace Go.Proofs.Tryz
open Go Go.Pm Go.Bt Go.ChangeShapes Go.WideShapes Go.ChangeAt Go.RowKit Go.Proofs.YtdhbodgefhojnaaGreatDoor
theorem bulk_part {H : Type} {d : DataW H} : ∀ {l : List (DataW H)},d ∈ l → Rows.uptoBulk d ≤ Rows.uptoBulkAll l
 | [],h => by cases h
 | x :: r,h => by
  simp only [Rows.uptoBulkAll]
  rcases List.mem_cons.1 h with rfl | h
  ·omega
  ·have := bulk_part h; omega
theorem bulk_agg {H : Type} {d : DataW H} {l : List (DataW H)} (h : d ∈ l) : Rows.uptoBulk d ≤ Rows.uptoBulk (.agg l) := by
 have := bulk_part h
 simp only [Rows.uptoBulk]; omega
theorem cells1 : Tryz.prog.cellsOf 3 = 1 ∧ Tryz.prog.cellsOf 9 = 1 ∧ Tryz.prog.cellsOf 24 = 1 ∧ Tryz.prog.cellsOf 31 = 1 ∧ Tryz.prog.cellsOf 23 = 3 ∧ Tryz.prog.cellsOf 30 = 3 ∧ Tryz.prog.cellsOf 26 = 8 ∧ Tryz.prog.cellsOf 33 = 13 := by
 refine ⟨by kernel_rfl,by kernel_rfl,by kernel_rfl,by kernel_rfl,by kernel_rfl,by kernel_rfl,by kernel_rfl,by kernel_rfl⟩
theorem list3 {α : Type} : ∀ {l : List α},l.length = 3 → ∃ a b c,l = [a,b,c]
 | [a,b,c],_ => ⟨a,b,c,rfl⟩
theorem list4 {α : Type} : ∀ {l : List α},l.length = 4 → ∃ a b c d,l = [a,b,c,d]
 | [a,b,c,d],_ => ⟨a,b,c,d,rfl⟩
theorem list8 {α : Type} : ∀ {l : List α},l.length = 8 → ∃ a b c d e f g h,l = [a,b,c,d,e,f,g,h]
 | [a,b,c,d,e,f,g,h],_ => ⟨a,b,c,d,e,f,g,h,rfl⟩
theorem list13 {α : Type} : ∀ {l : List α},l.length = 13 → ∃ a b c d e f g h i j k m n,l = [a,b,c,d,e,f,g,h,i,j,k,m,n]
 | [a,b,c,d,e,f,g,h,i,j,k,m,n],_ => ⟨a,b,c,d,e,f,g,h,i,j,k,m,n,rfl⟩
section
variable {H : Type} {enc : TypeId × Value → H} {W : World} {base : Nat} {held : Bool} (μ : Mem)
theorem bytes_len (b : ByteArray) : b.data.toList.length = b.size := by simp
theorem read_str {n : Nat} {v : Value} {x : DataW H × List MemPlace} (h : DataW.trod enc Tryz.prog W base (fun _ => true) held n 9 [v] = some x) : ∃ s : List UInt8,VR W [] μ (.s s) v ∧ s.length ≤ Rows.uptoBulk x.1 := by
 obtain ⟨b,h1,rfl,h3⟩ := DataW.trod_string Tryz.underlying9 h
 simp only [List.cons.injEq,and_true] at h1
 subst h1
 refine ⟨b.data.toList,.s _ b rfl (by rw [bytes_len]; exact h3),?_⟩
 simp [Rows.uptoBulk]
theorem read_int {n : Nat} {v : Value} {x : DataW H × List MemPlace} (h : DataW.trod enc Tryz.prog W base (fun _ => true) held n 3 [v] = some x) : ∃ k : Int,v = .int .i64 k ∧ -9223372036854775808 ≤ k ∧ k ≤ 9223372036854775807 := by
 obtain ⟨k,h1,rfl,h3⟩ := DataW.trod_int Tryz.underlying3 h
 simp only [List.cons.injEq,and_true] at h1
 have := bounds_i64 h3
 exact ⟨k,h1,this.1,this.2⟩
structure ItC (cs : List Value) (y : Int × ByteArray × Int) (B : Nat) : Prop where
 cells : cs = [.int .i64 y.1,.string y.2.1,.int .i64 y.2.2]
 size : y.2.1.size ≤ maxLen
 id : -9223372036854775808 ≤ y.2.2 ∧ y.2.2 ≤ 9223372036854775807
 bulk : y.2.1.size + 1 ≤ B
theorem read_item {n : Nat} {cs : List Value} {x : DataW H × List MemPlace} (h : DataW.trod enc Tryz.prog W base (fun _ => true) held n 23 cs = some x) : ∃ y : Int × ByteArray × Int,ItC cs y (Rows.uptoBulk x.1) := by
 obtain ⟨y0,y1,y2,m,rfl,hl,h0,h1,h2⟩ := Deep.trod_struct3 Tryz.underlying23 h
 rw [cells1.2.2.2.2.1] at hl
 obtain ⟨c0,c1,c2,rfl⟩ := list3 hl
 simp only [cells1.1,cells1.2.1,List.drop_zero,List.drop_succ_cons,List.take_succ_cons,List.take_zero] at h0 h1 h2
 obtain ⟨k,rfl,_⟩ := read_int h0
 obtain ⟨b,e1,rfl,h3⟩ := DataW.trod_string Tryz.underlying9 h1
 simp only [List.cons.injEq,and_true] at e1
 subst e1
 obtain ⟨i,rfl,hi⟩ := read_int h2
 refine ⟨(k,b,i),rfl,h3,hi,?_⟩
 simp [Rows.uptoBulk,Rows.uptoBulkAll]
 omega
def mkIt (y : Int × ByteArray × Int) : It := ⟨y.1,y.2.1.data.toList,y.2.2⟩
theorem bulk_items {D : Nat → DataW H} {F : Nat → Int × ByteArray × Int} : ∀ (l : List Nat),(∀ i ∈ l,(F i).2.1.size + 1 ≤ Rows.uptoBulk (D i)) → (l.map fun i => mkIt (F i)).length + textLen (l.map fun i => mkIt (F i)) ≤ Rows.uptoBulkAll (l.map D)
 | [],_ => by simp [textLen,Rows.uptoBulkAll]
 | i :: l,h => by
  have h1 := h i (by simp)
  have h2 := bulk_items l fun j hj => h j (by simp [hj])
  have e : (mkIt (F i)).text.length = (F i).2.1.size := bytes_len _
  simp only [List.map_cons,List.length_cons,textLen,Rows.uptoBulkAll,e] at h2 ⊢
  omega
theorem spot_add {b o k : Nat} : (Addr.mk b o none).add k = ⟨b,o + k,none⟩ := by
 simp only [Addr.add]; split
 ·rename_i h; subst h; simp
 ·rfl
theorem spot_or {n : Nat} {t e : TypeId} {v : Value} {x : DataW H × List MemPlace} (ht : Tryz.prog.underlying t = some (.slice e)) (hk : 0 < Tryz.prog.cellsOf e) (h : DataW.trod enc Tryz.prog W base (fun _ => true) held n t [v] = some x) :
  (∀ a len cap,v = .slice (some a) len cap → a.spot = none) ∨ ∃ a,v = .slice (some a) 0 0 := by
 rcases Deep.open_slice ht h with ⟨h0,_⟩ | ⟨a,len,cap,m,n',D,Pl,h0,_,hl,hm,hmm,_,hx⟩
 ·simp only [List.cons.injEq,and_true] at h0
  subst h0
  exact .inl fun a len cap h => by simp at h
 ·simp only [List.cons.injEq,and_true] at h0
  simp only [if_true] at hmm
  subst hmm
  by_cases h1 : m = 0
  ·subst h1
   have : len = 0 := by omega
   subst this
   exact .inr ⟨a,h0⟩
  ·refine .inl fun a' len' cap' h => ?_
   rw [h0] at h
   simp only [Value.slice.injEq,Option.some.injEq] at h
   obtain ⟨rfl,_,_⟩ := h
   obtain ⟨cs',h2,_⟩ := hx 0 (by omega)
   obtain ⟨_,h4,h3⟩ := World.cells?_some h2
   have h3 := h3 0 hk
   rw [List.getElem?_eq_getElem (by omega)] at h3
   simp only [Nat.zero_mul,Addr.add,if_true,World.cell?] at h3
   cases hs : a.spot with
   | none => rfl
   | some s =>
    rw [hs] at h3
    split at h3 <;> simp at h3
theorem read_items {n : Nat} {v : Value} {x : DataW H × List MemPlace} (h : DataW.trod enc Tryz.prog W base (fun _ => true) held n 24 [v] = some x) :
  ∃ f : List It,VR W [] μ (.sl 3 (f.map It.cells)) v ∧ f.length + textLen f ≤ Rows.uptoBulk x.1 ∧ ∀ y ∈ f,-9223372036854775808 ≤ y.id ∧ y.id ≤ 9223372036854775807 := by
 rcases spot_or Tryz.underlying24 (by rw [cells1.2.2.2.2.1]; decide) h with hs | ⟨a,rfl⟩
 case inr => exact ⟨[],.sle _ a,by simp [textLen],by simp⟩
 rcases Deep.open_slice Tryz.underlying24 h with ⟨h0,rfl⟩ | ⟨a,len,cap,m,n',D,Pl,h0,_,hl,hm,hmm,rfl,hx⟩
 ·simp only [List.cons.injEq,and_true] at h0
  subst h0
  exact ⟨[],.sl0 _,by simp [textLen],by simp⟩
 ·simp only [List.cons.injEq,and_true] at h0
  have hsp := hs _ _ _ h0
  obtain ⟨b,o,s⟩ := a
  simp only at hsp
  subst hsp
  subst h0
  have hle : len ≤ m := by rw [hmm]; split <;> omega
  obtain ⟨F,hF⟩ := Deep.choose_lt (α := Int × ByteArray × Int) (n := len) (p := fun i y => ∃ cs',W.cells? base ((Addr.mk b o none).add (i * 3)) 3 = some cs' ∧ ItC cs' y (Rows.uptoBulk (D i))) (fun i hi => by
   obtain ⟨cs',h1,h2⟩ := hx i (by omega)
   obtain ⟨y,hy⟩ := read_item h2
   rw [cells1.2.2.2.2.1] at h1
   exact ⟨y,cs',h1,hy⟩)
  refine ⟨(List.range len).map fun i => mkIt (F i),?_,?_,?_⟩
  ·have hcell : ∀ i,i < len → W.cell? ⟨b,o + i * 3,none⟩ = some (.int .i64 (F i).1) ∧ W.cell? ⟨b,o + i * 3 + 1,none⟩ = some (.string (F i).2.1) ∧ W.cell? ⟨b,o + i * 3 + 2,none⟩ = some (.int .i64 (F i).2.2) := by
    intro i hi
    obtain ⟨cs',h1,h2⟩ := hF i hi
    rw [h2.cells,spot_add] at h1
    obtain ⟨_,_,h3⟩ := World.cells?_some h1
    have a0 := h3 0 (by decide)
    have a1 := h3 1 (by decide)
    have a2 := h3 2 (by decide)
    simp only [spot_add,Nat.add_zero] at a0 a1 a2
    exact ⟨a0,a1,a2⟩
   let f : Nat → Nat → Value := fun i j => if j = 0 then .int .i64 (F i).1 else if j = 1 then .string (F i).2.1 else .int .i64 (F i).2.2
   have hat : ∀ i j x,at2 (((List.range len).map fun i => mkIt (F i)).map It.cells) i j = some x → i < len ∧ ((j = 0 ∧ x = .i .i64 (F i).1) ∨ (j = 1 ∧ x = .s (F i).2.1.data.toList) ∨ (j = 2 ∧ x = .i .i64 (F i).2.2)) := by
    intro i j x hx
    simp only [at2,Option.bind_eq_some_iff,List.getElem?_map,Option.map_eq_some_iff] at hx
    obtain ⟨row,⟨y,⟨k,hk,rfl⟩,rfl⟩,hj⟩ := hx
    have hil : i < len := by simpa using (List.getElem?_eq_some_iff.1 hk).1
    rw [List.getElem?_range hil] at hk
    simp only [Option.some.injEq] at hk
    subst hk
    refine ⟨hil,?_⟩
    rcases j with _ | _ | _ | j
    ·simp only [It.cells,mkIt,List.getElem?_cons_zero,Option.some.injEq] at hj; exact .inl ⟨rfl,hj.symm⟩
    ·simp only [It.cells,mkIt,List.getElem?_cons_zero,List.getElem?_cons_succ,Option.some.injEq] at hj; exact .inr (.inl ⟨rfl,hj.symm⟩)
    ·simp only [It.cells,mkIt,List.getElem?_cons_zero,List.getElem?_cons_succ,Option.some.injEq] at hj; exact .inr (.inr ⟨rfl,hj.symm⟩)
    ·simp [It.cells,mkIt] at hj
   have hlen : (((List.range len).map fun i => mkIt (F i)).map It.cells).length = len := by simp
   have := VR.sl (w := W) (σ := []) (μ := μ) 3 (((List.range len).map fun i => mkIt (F i)).map It.cells) b o cap f (by omega) hm (fun r hr => by
    obtain ⟨y,_,rfl⟩ := List.mem_map.1 hr; rfl) (fun i j x hx => by
    obtain ⟨hi,hx⟩ := hat i j x hx
    obtain ⟨a0,a1,a2⟩ := hcell i hi
    rcases hx with ⟨rfl,rfl⟩ | ⟨rfl,rfl⟩ | ⟨rfl,rfl⟩
    ·exact ⟨a0,no_wr,rfl⟩
    ·exact ⟨a1,no_wr,rfl⟩
    ·exact ⟨a2,no_wr,rfl⟩) (fun i j x hx => by
    obtain ⟨hi,hx⟩ := hat i j x hx
    rcases hx with ⟨rfl,rfl⟩ | ⟨rfl,rfl⟩ | ⟨rfl,rfl⟩
    ·exact .i _ _
    ·obtain ⟨cs',h1,h2⟩ := hF i hi
     exact .s _ _ rfl (by rw [bytes_len]; exact h2.size)
    ·exact .i _ _)
   rwa [hlen] at this
  ·have := bulk_items (D := D) (F := F) (List.range len) (fun i hi => by
    obtain ⟨_,_,h2⟩ := hF i (List.mem_range.1 hi)
    exact h2.bulk)
   simp only [Rows.uptoBulk]
   omega
  ·intro y hy
   obtain ⟨i,hi,rfl⟩ := List.mem_map.1 hy
   obtain ⟨_,_,h2⟩ := hF i (List.mem_range.1 hi)
   exact h2.id
theorem bulk_len {H : Type} : ∀ (l : List (DataW H)),l.length ≤ Rows.uptoBulkAll l
 | [] => by simp [Rows.uptoBulkAll]
 | d :: r => by
  have h1 := bulk_len r
  have h2 : 1 ≤ Rows.uptoBulk d := by cases d with
   | lit l => cases l <;> simp [Rows.uptoBulk]
   | nil => simp [Rows.uptoBulk]
   | ptr d => simp [Rows.uptoBulk]
   | slice elems spare => simp [Rows.uptoBulk]
   | agg parts => simp [Rows.uptoBulk]
   | iface t d => simp [Rows.uptoBulk]
   | map entries => simp [Rows.uptoBulk]
   | held h => simp [Rows.uptoBulk]
  simp only [Rows.uptoBulkAll,List.length_cons]; omega
theorem read_ints {n : Nat} {v : Value} {x : DataW H × List MemPlace} (h : DataW.trod enc Tryz.prog W base (fun _ => true) held n 31 [v] = some x) :
  ∃ l : List Int,VR W [] μ (.sl 1 (l.map iRow)) v ∧ l.length ≤ Rows.uptoBulk x.1 := by
 rcases spot_or Tryz.underlying31 (by rw [cells1.1]; decide) h with hs | ⟨a,rfl⟩
 case inr => exact ⟨[],.sle _ a,by simp⟩
 rcases open_ints Tryz.underlying31 Tryz.underlying3 cells1.1 h with ⟨h0,rfl⟩ | ⟨a,len,cap,zs,h0,_,hl,hm,hz,rfl,hcell,hwf⟩
 ·simp only [List.cons.injEq,and_true] at h0
  subst h0
  exact ⟨[],.sl0 _,by simp⟩
 ·simp only [List.cons.injEq,and_true] at h0
  have hsp := hs _ _ _ h0
  obtain ⟨b,o,s⟩ := a
  simp only at hsp
  subst hsp
  subst h0
  have hle : len ≤ zs.length := by rw [hz]; split <;> omega
  have hat : ∀ i j x,at2 ((zs.take len).map iRow) i j = some x → j = 0 ∧ i < len ∧ x = .i .i64 (zs.getD i 0) := by
   intro i j x hx
   simp only [at2,Option.bind_eq_some_iff,List.getElem?_map,Option.map_eq_some_iff] at hx
   obtain ⟨row,⟨n,hn,rfl⟩,hj⟩ := hx
   have hil : i < len := by
    have := (List.getElem?_eq_some_iff.1 hn).1
    simp at this; omega
   rcases j with _ | j
   ·simp only [iRow,List.getElem?_cons_zero,Option.some.injEq] at hj
    refine ⟨rfl,hil,?_⟩
    rw [List.getElem?_take_of_lt hil] at hn
    rw [← hj,List.getD_eq_getElem?_getD,hn]; rfl
   ·simp [iRow] at hj
  have hlen : ((zs.take len).map iRow).length = len := by simp; omega
  refine ⟨zs.take len,?_,?_⟩
  ·have := VR.sl (w := W) (σ := []) (μ := μ) 1 ((zs.take len).map iRow) b o cap (fun i _ => .int .i64 (zs.getD i 0)) (by omega) hm (fun r hr => by obtain ⟨n,_,rfl⟩ := List.mem_map.1 hr; rfl) (fun i j x hx => by
    obtain ⟨rfl,hi,rfl⟩ := hat i j x hx
    have := hcell i (by omega)
    rw [spot_add] at this
    simp only [Nat.mul_one,Nat.add_zero]
    exact ⟨this,no_wr,rfl⟩) (fun i j x hx => by
    obtain ⟨rfl,hi,rfl⟩ := hat i j x hx
    exact .i _ _)
   rwa [hlen] at this
  ·have := bulk_len (H := H) (lits .i64 (zs.take len))
   simp only [Rows.uptoBulk]
   have e : (lits (H := H) .i64 (zs.take len)).length = (zs.take len).length := by simp [lits]
   omega
def Reads (W : World) (μ : Mem) (xs : List V) (cs : List Value) : Prop := xs.length = cs.length ∧ ∀ (i : Nat) (x : V) (v : Value),xs[i]? = some x → cs[i]? = some v → VR W [] μ x v
theorem Reads.nil : Reads W μ [] [] := ⟨rfl,by simp⟩
theorem Reads.cons {x : V} {v : Value} {xs : List V} {cs : List Value} (h : VR W [] μ x v) (t : Reads W μ xs cs) : Reads W μ (x :: xs) (v :: cs) := by
 refine ⟨by simp [t.1],fun i y u hy hu => ?_⟩
 cases i with
 | zero => simp only [List.getElem?_cons_zero,Option.some.injEq] at hy hu; subst hy; subst hu; exact h
 | succ i => exact t.2 i y u (by simpa using hy) (by simpa using hu)
theorem drop_take {α : Type} {a b c d e f g h : α} : ([a,b,c,d,e,f,g,h].drop 0).take 1 = [a] ∧ ([a,b,c,d,e,f,g,h].drop 1).take 1 = [b] ∧ ([a,b,c,d,e,f,g,h].drop 2).take 1 = [c] ∧ ([a,b,c,d,e,f,g,h].drop 3).take 1 = [d] ∧
  ([a,b,c,d,e,f,g,h].drop 4).take 1 = [e] ∧ ([a,b,c,d,e,f,g,h].drop 5).take 1 = [f] ∧ ([a,b,c,d,e,f,g,h].drop 6).take 1 = [g] ∧ ([a,b,c,d,e,f,g,h].drop 7).take 1 = [h] := ⟨rfl,rfl,rfl,rfl,rfl,rfl,rfl,rfl⟩
theorem read_entry {n : Nat} {cs : List Value} {x : DataW H × List MemPlace} (h : DataW.trod enc Tryz.prog W base (fun _ => true) held n 26 cs = some x) :
  ∃ e : En,Reads W μ e.cells cs ∧ (e.source.length + textLen e.source ≤ Rows.uptoBulk x.1 ∧ e.target.length + textLen e.target ≤ Rows.uptoBulk x.1 ∧ e.previous.length ≤ Rows.uptoBulk x.1 ∧ e.next.length ≤ Rows.uptoBulk x.1 ∧ e.author.length ≤ Rows.uptoBulk x.1 ∧ e.project.length ≤ Rows.uptoBulk x.1) ∧
   (∀ y ∈ e.source ++ e.target,-9223372036854775808 ≤ y.id ∧ y.id ≤ 9223372036854775807) ∧ -9223372036854775808 ≤ e.origin ∧ e.origin ≤ 9223372036854775807 := by
 obtain ⟨xs,m,_,rfl,hl,hxl,hf⟩ := DataW.trod_struct Tryz.underlying26 h
 rw [cells1.2.2.2.2.2.2.1] at hl
 obtain ⟨c0,c1,c2,c3,c4,c5,c6,c7,rfl⟩ := list8 hl
 obtain ⟨y0,y1,y2,y3,y4,y5,y6,y7,rfl⟩ := list8 (l := xs) (by rw [hxl]; rfl)
 have f0 : DataW.trod enc Tryz.prog W base (fun _ => true) held m 24 (([c0,c1,c2,c3,c4,c5,c6,c7].drop 0).take (Tryz.prog.cellsOf 24)) = some y0 := hf 0 _ rfl
 have f1 : DataW.trod enc Tryz.prog W base (fun _ => true) held m 24 (([c0,c1,c2,c3,c4,c5,c6,c7].drop 1).take (Tryz.prog.cellsOf 24)) = some y1 := hf 1 _ rfl
 have f2 : DataW.trod enc Tryz.prog W base (fun _ => true) held m 9 (([c0,c1,c2,c3,c4,c5,c6,c7].drop 2).take (Tryz.prog.cellsOf 9)) = some y2 := hf 2 _ rfl
 have f3 : DataW.trod enc Tryz.prog W base (fun _ => true) held m 9 (([c0,c1,c2,c3,c4,c5,c6,c7].drop 3).take (Tryz.prog.cellsOf 9)) = some y3 := hf 3 _ rfl
 have f4 : DataW.trod enc Tryz.prog W base (fun _ => true) held m 9 (([c0,c1,c2,c3,c4,c5,c6,c7].drop 4).take (Tryz.prog.cellsOf 9)) = some y4 := hf 4 _ rfl
 have f5 : DataW.trod enc Tryz.prog W base (fun _ => true) held m 9 (([c0,c1,c2,c3,c4,c5,c6,c7].drop 5).take (Tryz.prog.cellsOf 9)) = some y5 := hf 5 _ rfl
 have f6 : DataW.trod enc Tryz.prog W base (fun _ => true) held m 3 (([c0,c1,c2,c3,c4,c5,c6,c7].drop 6).take (Tryz.prog.cellsOf 3)) = some y6 := hf 6 _ rfl
 have f7 : DataW.trod enc Tryz.prog W base (fun _ => true) held m 3 (([c0,c1,c2,c3,c4,c5,c6,c7].drop 7).take (Tryz.prog.cellsOf 3)) = some y7 := hf 7 _ rfl
 clear hf
 obtain ⟨t0,t1,t2,t3,t4,t5,t6,t7⟩ := drop_take (a := c0) (b := c1) (c := c2) (d := c3) (e := c4) (f := c5) (g := c6) (h := c7)
 simp only [cells1.1,cells1.2.1,cells1.2.2.1,t0,t1,t2,t3,t4,t5,t6,t7] at f0 f1 f2 f3 f4 f5 f6 f7
 obtain ⟨a,va,ba,ia⟩ := read_items μ f0
 obtain ⟨b,vb,bb,ib⟩ := read_items μ f1
 obtain ⟨p,vp,bp⟩ := read_str μ f2
 obtain ⟨q,vq,bq⟩ := read_str μ f3
 obtain ⟨u,vu,bu⟩ := read_str μ f4
 obtain ⟨r,vr,br⟩ := read_str μ f5
 obtain ⟨k,rfl,hk⟩ := read_int f6
 obtain ⟨o,rfl,ho⟩ := read_int f7
 have B : ∀ y ∈ [y0,y1,y2,y3,y4,y5,y6,y7],Rows.uptoBulk y.1 ≤ Rows.uptoBulk (.agg ([y0,y1,y2,y3,y4,y5,y6,y7].map (·.1))) := fun y hy => bulk_agg (List.mem_map.2 ⟨y,hy,rfl⟩)
 refine ⟨⟨a,b,p,q,u,r,k,o⟩,.cons μ va (.cons μ vb (.cons μ vp (.cons μ vq (.cons μ vu (.cons μ vr (.cons μ (.i _ _) (.cons μ (.i _ _) (.nil μ)))))))),⟨Nat.le_trans ba (B y0 (by simp)),Nat.le_trans bb (B y1 (by simp)),Nat.le_trans bp (B y2 (by simp)),Nat.le_trans bq (B y3 (by simp)),Nat.le_trans bu (B y4 (by simp)),Nat.le_trans br (B y5 (by simp))⟩,fun y hy => ?_,ho⟩
 rcases List.mem_append.1 hy with hy | hy
 ·exact ia y hy
 ·exact ib y hy
theorem read_stamp {n : Nat} {cs : List Value} {x : DataW H × List MemPlace} (h : DataW.trod enc Tryz.prog W base (fun _ => true) held n 30 cs = some x) : ∃ t : Stamp,Reads W μ t.cells cs := by
 obtain ⟨y0,y1,y2,m,rfl,hl,h0,h1,h2⟩ := Deep.trod_struct3 Tryz.underlying30 h
 rw [cells1.2.2.2.2.2.1] at hl
 obtain ⟨c0,c1,c2,rfl⟩ := list3 hl
 simp only [cells1.1,List.drop_zero,List.drop_succ_cons,List.take_succ_cons,List.take_zero] at h0 h1 h2
 obtain ⟨a,rfl,_⟩ := read_int h0
 obtain ⟨b,rfl,_⟩ := read_int h1
 obtain ⟨c,rfl,_⟩ := read_int h2
 exact ⟨⟨a,b,c⟩,.cons μ (.i _ _) (.cons μ (.i _ _) (.cons μ (.i _ _) (.nil μ)))⟩
theorem Reads.app {xs ys : List V} {cs ds : List Value} (h : Reads W μ xs cs) (k : Reads W μ ys ds) : Reads W μ (xs ++ ys) (cs ++ ds) := by
 refine ⟨by simp [h.1,k.1],fun i x v hx hv => ?_⟩
 rcases Nat.lt_or_ge i xs.length with hl | hg
 ·rw [List.getElem?_append_left hl] at hx
  rw [List.getElem?_append_left (by rw [← h.1]; exact hl)] at hv
  exact h.2 i x v hx hv
 ·rw [List.getElem?_append_right hg] at hx
  rw [List.getElem?_append_right (by rw [← h.1]; exact hg),← h.1] at hv
  exact k.2 _ x v hx hv
theorem read_op {n : Nat} {cs : List Value} {x : DataW H × List MemPlace} (h : DataW.trod enc Tryz.prog W base (fun _ => true) held n 33 cs = some x) (hB : Rows.uptoBulk x.1 ≤ 1048576) : ∃ o : Opr,Reads W μ o.cells cs ∧ o.small := by
 obtain ⟨xs,m,_,rfl,hl,hxl,hf⟩ := DataW.trod_struct Tryz.underlying33 h
 rw [cells1.2.2.2.2.2.2.2] at hl
 obtain ⟨c0,c1,c2,c3,c4,c5,c6,c7,c8,c9,c10,c11,c12,rfl⟩ := list13 hl
 obtain ⟨y0,y1,y2,y3,rfl⟩ := list4 (l := xs) (by rw [hxl]; rfl)
 have f0 : DataW.trod enc Tryz.prog W base (fun _ => true) held m 30 (([c0,c1,c2,c3,c4,c5,c6,c7,c8,c9,c10,c11,c12].drop 0).take (Tryz.prog.cellsOf 30)) = some y0 := hf 0 _ rfl
 have f1 : DataW.trod enc Tryz.prog W base (fun _ => true) held m 3 (([c0,c1,c2,c3,c4,c5,c6,c7,c8,c9,c10,c11,c12].drop 3).take (Tryz.prog.cellsOf 3)) = some y1 := hf 1 _ rfl
 have f2 : DataW.trod enc Tryz.prog W base (fun _ => true) held m 26 (([c0,c1,c2,c3,c4,c5,c6,c7,c8,c9,c10,c11,c12].drop 4).take (Tryz.prog.cellsOf 26)) = some y2 := hf 2 _ rfl
 have f3 : DataW.trod enc Tryz.prog W base (fun _ => true) held m 31 (([c0,c1,c2,c3,c4,c5,c6,c7,c8,c9,c10,c11,c12].drop 12).take (Tryz.prog.cellsOf 31)) = some y3 := hf 3 _ rfl
 clear hf
 simp only [cells1.1,cells1.2.2.2.1,cells1.2.2.2.2.2.1,cells1.2.2.2.2.2.2.1,List.drop_zero,List.drop_succ_cons,List.take_succ_cons,List.take_zero] at f0 f1 f2 f3
 obtain ⟨t,vt⟩ := read_stamp μ f0
 obtain ⟨k,rfl,_⟩ := read_int f1
 obtain ⟨e,ve,⟨b1,b2,b3,b4,b5,b6⟩,ie,_⟩ := read_entry μ f2
 obtain ⟨l,vl,bl⟩ := read_ints μ f3
 have B2 : Rows.uptoBulk y2.1 ≤ Rows.uptoBulk (.agg ([y0,y1,y2,y3].map (·.1))) := bulk_agg (List.mem_map.2 ⟨y2,by simp,rfl⟩)
 have B3 : Rows.uptoBulk y3.1 ≤ Rows.uptoBulk (.agg ([y0,y1,y2,y3].map (·.1))) := bulk_agg (List.mem_map.2 ⟨y3,by simp,rfl⟩)
 have hB : Rows.uptoBulk (DataW.agg ([y0,y1,y2,y3].map (·.1))) ≤ 1048576 := hB
 have g1 : e.source.length < 2 ^ 30 := by omega
 have g2 : textLen e.source < 2 ^ 30 := by omega
 have g3 : e.target.length < 2 ^ 30 := by omega
 have g4 : textLen e.target < 2 ^ 30 := by omega
 have g5 : e.previous.length < 2 ^ 30 := by omega
 have g6 : e.next.length < 2 ^ 30 := by omega
 have g7 : e.author.length < 2 ^ 30 := by omega
 have g8 : e.project.length < 2 ^ 30 := by omega
 have g9 : l.length < 2 ^ 30 := by omega
 refine ⟨⟨t,k,e,l⟩,((vt.app μ (.cons μ (.i _ _) (.nil μ))).app μ ve).app μ (.cons μ vl (.nil μ)),⟨⟨g1,g2,g3,g4,g5,g6,ie⟩,g7,g8,g9⟩⟩
end
theorem op_pure {o : Opr} {j : Nat} {x : V} (h : o.cells[j]? = some x) : x.pure = true := by
 have : ∀ x ∈ o.cells,x.pure = true := by simp [Opr.cells,Stamp.cells,En.cells,V.pure]
 exact this x (List.mem_of_getElem? h)
set_option maxRecDepth 20000 in
theorem arg_ops {H : Type} {enc : TypeId × Value → H} {W : World} {r : Reach} {base : Nat} {v : Value} {d : DataW H} {p : List MemPlace} (μ : Mem) (hval : Value.okWide Tryz.prog W r base 27 v) (hd : DataW.Trod enc Tryz.prog W 0 (fun _ => true) true 27 v d p) (hB : Rows.uptoBulk d ≤ 1048576) :
  ∃ l : List Opr,VR W [] μ (.sl 13 (l.map Opr.cells)) v ∧ ∀ o ∈ l,o.small := by
 obtain ⟨a0,len,cap,rfl⟩ := okWide_slice Tryz.underlying27 hval
 obtain ⟨fuel,hf⟩ := hd
 rw [slice_cells] at hf
 have hc := cells1.2.2.2.2.2.2.2
 rcases spot_or Tryz.underlying27 (by rw [hc]; decide) hf with hs | ⟨a,h⟩
 case inr => exact ⟨[],by rw [h]; exact .sle _ a,by simp⟩
 rcases Deep.open_slice Tryz.underlying27 hf with ⟨h0,_⟩ | ⟨a,len',cap',m,n',D,Pl,h0,_,hl,hm,hmm,hxe,hx⟩
 ·simp only [List.cons.injEq,and_true] at h0
  rw [h0]
  exact ⟨[],.sl0 _,by simp⟩
 ·simp only [Prod.mk.injEq] at hxe
  obtain ⟨rfl,_⟩ := hxe
  simp only [List.cons.injEq,and_true] at h0
  have hsp := hs _ _ _ h0
  obtain ⟨b,o,s⟩ := a
  simp only at hsp
  subst hsp
  rw [h0]
  simp only [if_true] at hmm
  have hBi : ∀ i,i < len' → Rows.uptoBulk (D i) ≤ 1048576 := fun i hi => by
   have h1 : Rows.uptoBulk (D i) ≤ Rows.uptoBulkAll ((List.range len').map D) := bulk_part (List.mem_map.2 ⟨i,List.mem_range.2 hi,rfl⟩)
   simp only [Rows.uptoBulk] at hB
   omega
  haveI : Inhabited Opr := ⟨noOp⟩
  obtain ⟨F,hF⟩ := Deep.choose_lt (α := Opr) (n := len') (p := fun i y => ∃ cs',W.cells? 0 ((Addr.mk b o none).add (i * 13)) 13 = some cs' ∧ Reads W μ y.cells cs' ∧ y.small) (fun i hi => by
   obtain ⟨cs',h1,h2⟩ := hx i (by omega)
   obtain ⟨y,hy,hys⟩ := read_op μ h2 (hBi i hi)
   rw [hc] at h1
   exact ⟨y,cs',h1,hy,hys⟩)
  refine ⟨(List.range len').map F,?_,fun y hy => ?_⟩
  ·have hat : ∀ i j x,at2 (((List.range len').map F).map Opr.cells) i j = some x → i < len' ∧ (F i).cells[j]? = some x := by
    intro i j x hx
    simp only [at2,Option.bind_eq_some_iff,List.getElem?_map,Option.map_eq_some_iff] at hx
    obtain ⟨row,⟨y,⟨k,hk,rfl⟩,rfl⟩,hj⟩ := hx
    have hil : i < len' := by simpa using (List.getElem?_eq_some_iff.1 hk).1
    rw [List.getElem?_range hil] at hk
    simp only [Option.some.injEq] at hk
    subst hk
    exact ⟨hil,hj⟩
   have hcell : ∀ i j x,i < len' → (F i).cells[j]? = some x → ∃ u,W.cell? ⟨b,o + i * 13 + j,none⟩ = some u ∧ VR W [] μ x u := by
    intro i j x hi hj
    obtain ⟨cs',h1,h2,_⟩ := hF i hi
    rw [spot_add] at h1
    obtain ⟨_,h4,h3⟩ := World.cells?_some h1
    have hjl : j < 13 := by
     have := (List.getElem?_eq_some_iff.1 hj).1
     rw [h2.1] at this; omega
    have h3 := h3 j hjl
    rw [spot_add,List.getElem?_eq_getElem (by omega)] at h3
    exact ⟨_,h3,h2.2 j x _ hj (List.getElem?_eq_getElem (by omega))⟩
   have hlen : (((List.range len').map F).map Opr.cells).length = len' := by simp
   have := VR.sl (w := W) (σ := []) (μ := μ) 13 (((List.range len').map F).map Opr.cells) b o cap' (fun i j => (W.cell? ⟨b,o + i * 13 + j,none⟩).getD undef) (by omega) hm (fun r hr => by
    obtain ⟨y,_,rfl⟩ := List.mem_map.1 hr; rfl) (fun i j x hx => by
    obtain ⟨hi,hx⟩ := hat i j x hx
    obtain ⟨u,h1,_⟩ := hcell i j x hi hx
    exact ⟨by rw [h1]; rfl,no_wr,op_pure hx⟩) (fun i j x hx => by
    obtain ⟨hi,hx⟩ := hat i j x hx
    obtain ⟨u,h1,h2⟩ := hcell i j x hi hx
    rw [h1]; exact h2)
   rwa [hlen] at this
  ·obtain ⟨i,hi,rfl⟩ := List.mem_map.1 hy
   obtain ⟨_,_,_,h2⟩ := hF i (List.mem_range.1 hi)
   exact h2
end Go.Proofs.Tryz

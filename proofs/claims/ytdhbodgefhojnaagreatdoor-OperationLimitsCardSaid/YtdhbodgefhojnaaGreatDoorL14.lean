/- A part of the proof of the statement of the last text of this claim: for every input the law returns true and leaves its argument as it was. -/
import Derived.Test.YtdhbodgefhojnaaGreatDoorL10
import Derived.Test.YtdhbodgefhojnaaGreatDoorL13
set_option linter.unusedSectionVars false
set_option linter.unusedVariables false
set_option linter.unusedSimpArgs false
set_option linter.constructorNameAsVariable false

namespace Go.Bt
open Go Go.Pm

theorem hexhi (c : UInt8) : 0 ≤ (c.toNat : Int).fdiv (2 ^ min 4 IntKind.u8.bits) ∧ (c.toNat : Int).fdiv (2 ^ min 4 IntKind.u8.bits) < 16 ∧
    ([48, 49, 50, 51, 52, 53, 54, 55, 56, 57, 97, 98, 99, 100, 101, 102] : List UInt8).getD ((c.toNat : Int).fdiv (2 ^ min 4 IntKind.u8.bits)).toNat 0 = hexDig (c.toNat / 16) := by
  revert c; exact u8_all (by decide +kernel)

theorem hexlo (c : UInt8) : 0 ≤ IntKind.u8.wrap (((BitVec.ofInt IntKind.u8.bits (c.toNat : Int) &&& BitVec.ofInt IntKind.u8.bits 15).toNat : Nat) : Int) ∧ IntKind.u8.wrap (((BitVec.ofInt IntKind.u8.bits (c.toNat : Int) &&& BitVec.ofInt IntKind.u8.bits 15).toNat : Nat) : Int) < 16 ∧
    ([48, 49, 50, 51, 52, 53, 54, 55, 56, 57, 97, 98, 99, 100, 101, 102] : List UInt8).getD (IntKind.u8.wrap (((BitVec.ofInt IntKind.u8.bits (c.toNat : Int) &&& BitVec.ofInt IntKind.u8.bits 15).toNat : Nat) : Int)).toNat 0 = hexDig (c.toNat % 16) := by
  revert c; exact u8_all (by decide +kernel)

def itemText (x : It) : List UInt8 :=
  if x.kind = 1 then x.text.flatMap writB else if x.kind = 2 then 60 :: (Lib.itoa x.id ++ 58 :: (x.text ++ [62])) else if x.kind = 3 then 60 :: 47 :: (Lib.itoa x.id ++ 58 :: (x.text ++ [62]))
  else if x.kind = 4 then 60 :: (Lib.itoa x.id ++ 58 :: (x.text ++ [47, 62])) else if x.kind = 5 then 123 :: (x.text ++ [125]) else []

def format (f : List It) : List UInt8 × Int := if validItems f ≠ 0 then ([], validItems f) else (f.flatMap itemText, 0)

theorem writB_len (c : UInt8) : (writB c).length ≤ 4 := by
  simp only [writB]
  (repeat' split) <;> simp

theorem flatW_len (s : List UInt8) : (s.flatMap writB).length ≤ 4 * s.length := by
  induction s with
  | nil => simp
  | cons c s ih =>
    have := writB_len c
    simp only [List.flatMap_cons, List.length_append, List.length_cons]; omega

theorem itemsErr_kind : ∀ (rest pre : List It), itemsErr pre rest = 0 → ∀ x ∈ rest, 1 ≤ x.kind ∧ x.kind ≤ 5 := by
  intro rest
  induction rest with
  | nil => intro pre h x hx; simp at hx
  | cons y rest ih =>
    intro pre h x hx
    simp only [itemsErr] at h
    split at h
    · simp at h
    · rename_i h1
      split at h
      · simp at h
      · rcases List.mem_cons.1 hx with rfl | hx
        · simp only [itemFine] at h1
          by_cases k1 : x.kind = 1
          · omega
          · by_cases k5 : x.kind = 5
            · omega
            · by_cases k2 : x.kind = 2 ∨ x.kind = 4
              · omega
              · by_cases k3 : x.kind = 3
                · omega
                · simp [k1, k5, k2, k3] at h1
        · exact ih _ h x hx

theorem validItems_kind {f : List It} (h : validItems f = 0) : ∀ x ∈ f, 1 ≤ x.kind ∧ x.kind ≤ 5 := by
  simp only [validItems] at h
  split at h
  · simp at h
  · exact itemsErr_kind f [] h

theorem itemText_len (x : It) (h : -9223372036854775808 ≤ x.id ∧ x.id ≤ 9223372036854775807) : (itemText x).length ≤ 4 * x.text.length + 30 := by
  have h1 := Lib.itoa_length_le x.id h.1 h.2
  have h2 := flatW_len x.text
  simp only [itemText]
  split
  · omega
  · split
    · simp; omega
    · split
      · simp; omega
      · split
        · simp; omega
        · split
          · simp; omega
          · simp

theorem format_len (f : List It) (hl : f.length < 2 ^ 30) (ht : textLen f < 2 ^ 30) (hid : ∀ x ∈ f, -9223372036854775808 ≤ x.id ∧ x.id ≤ 9223372036854775807) : (format f).1.length < 2 ^ 36 := by
  have key : ∀ f : List It, (∀ x ∈ f, -9223372036854775808 ≤ x.id ∧ x.id ≤ 9223372036854775807) → (f.flatMap itemText).length ≤ 4 * textLen f + 30 * f.length := by
    intro f
    induction f with
    | nil => intro _; simp
    | cons x f ih =>
      intro h
      have h1 := ih fun y hy => h y (by simp [hy])
      have h2 := itemText_len x (h x (by simp))
      simp only [List.flatMap_cons, List.length_append, textLen, List.length_cons]
      omega
  have := key f hid
  simp only [format]
  split
  · simp
  · simp only; omega

theorem indexByte_low (c : UInt8) : ∀ l : List UInt8, -1 ≤ Lib.indexByte l c := by
  intro l
  induction l with
  | nil => simp [Lib.indexByte]
  | cons a l ih =>
    simp only [Lib.indexByte]
    split
    · omega
    · split <;> omega

theorem indexByte_none {c : UInt8} : ∀ {l : List UInt8}, c ∉ l → Lib.indexByte l c = -1 := by
  intro l
  induction l with
  | nil => intro _; simp [Lib.indexByte]
  | cons a l ih =>
    intro h
    have h1 : (a == c) = false := by
      simp only [List.mem_cons, not_or] at h
      simpa using fun e => h.1 e.symm
    have h2 := ih (fun hm => h (List.mem_cons_of_mem _ hm))
    simp [Lib.indexByte, h1, h2]

theorem indexByte_at {c : UInt8} {rest : List UInt8} : ∀ {pre : List UInt8}, c ∉ pre → Lib.indexByte (pre ++ c :: rest) c = pre.length := by
  intro pre
  induction pre with
  | nil => intro _; simp [Lib.indexByte]
  | cons a l ih =>
    intro h
    have h1 : (a == c) = false := by
      simp only [List.mem_cons, not_or] at h
      simpa using fun e => h.1 e.symm
    have h2 := ih (fun hm => h (List.mem_cons_of_mem _ hm))
    simp only [List.cons_append, Lib.indexByte, h1, h2, Bool.false_eq_true, if_false, List.length_cons]
    have : ((l.length : Int) == -1) = false := by rw [beq_eq_false_iff_ne]; omega
    rw [this]
    simp

theorem indexByte_some {c : UInt8} {l : List UInt8} (h : c ∈ l) : 0 ≤ Lib.indexByte l c := by
  induction l with
  | nil => simp at h
  | cons a l ih =>
    have hl := indexByte_low c l
    simp only [Lib.indexByte]
    by_cases h1 : a = c
    · simp [h1]
    · have h2 : (a == c) = false := by simpa using h1
      have h3 : c ∈ l := by
        rcases List.mem_cons.1 h with h | h
        · exact absurd h.symm h1
        · exact h
      have h4 := ih h3
      have h5 : (Lib.indexByte l c == -1) = false := by simp; omega
      simp [h2, h5]; omega

end Go.Bt

namespace Go.Bt
open Go Go.Pm

structure En where
  source : List It
  target : List It
  previous : List UInt8
  next : List UInt8
  author : List UInt8
  project : List UInt8
  created : Int
  origin : Int

def En.cells (e : En) : List V := [.sl 3 (e.source.map It.cells), .sl 3 (e.target.map It.cells), .s e.previous, .s e.next, .s e.author, .s e.project, .i .i64 e.created, .i .i64 e.origin]

def named (s : List UInt8) : Bool := s == [] || isName s

def canonOk (e : En) : Bool := !(e.source.length == 0) && itsEq (canonS e.source e.target) e.source && itsEq (canonT e.source e.target) e.target

def entryErr (e : En) : Int :=
  if validItems e.source ≠ 0 then validItems e.source else if validItems e.target ≠ 0 then validItems e.target else
  if canonOk e = false then 1 else
  if (parse e.previous).2.2 ≠ 0 then (parse e.previous).2.2 else if (parse e.next).2.2 ≠ 0 then (parse e.next).2.2 else
  if (named e.author && named e.project) = false then 4 else
  if e.created < 0 ∨ 1073741824 < e.created ∨ e.origin < 1 ∨ 3 < e.origin then 1 else 0

structure En.small (e : En) : Prop where
  source : e.source.length < 2 ^ 30
  sourceT : textLen e.source < 2 ^ 30
  target : e.target.length < 2 ^ 30
  targetT : textLen e.target < 2 ^ 30
  previous : e.previous.length < 2 ^ 30
  next : e.next.length < 2 ^ 30
  ids : ∀ x ∈ e.source ++ e.target, -9223372036854775808 ≤ x.id ∧ x.id ≤ 9223372036854775807

def joinKey (e : En) : List UInt8 := (format e.source).1 ++ 10 :: (e.previous ++ 10 :: e.next)

def entryKey (e : En) : List UInt8 := if entryErr e ≠ 0 then [] else joinKey e

end Go.Bt

namespace Go.Bt
open Go Go.Pm

structure Opr where
  stamp : Stamp
  kind : Int
  entry : En
  seen : List Int

def Opr.cells (o : Opr) : List V := o.stamp.cells ++ [.i .i64 o.kind] ++ o.entry.cells ++ [.sl 1 (o.seen.map iRow)]

structure Opr.small (o : Opr) : Prop where
  entry : o.entry.small
  author : o.entry.author.length < 2 ^ 30
  project : o.entry.project.length < 2 ^ 30
  seen : o.seen.length < 2 ^ 30

def asked (e : En) : En := ⟨e.source, e.source, e.previous, e.next, [], [], 0, 1⟩

def looked (o : Opr) : En := if o.kind ≠ 2 then o.entry else asked o.entry

def bareEn (e : En) : Bool := e.target.length == 0 && (e.author == [] && (e.project == [] && (e.created == 0 && e.origin == 0)))

theorem looked_small {o : Opr} (h : o.small) : (looked o).small := by
  simp only [looked]
  split
  · exact h.entry
  · exact ⟨h.entry.source, h.entry.sourceT, h.entry.source, h.entry.sourceT, h.entry.previous, h.entry.next, fun x hx => h.entry.ids x (by
      simp only [asked, List.mem_append] at hx ⊢
      rcases hx with hx | hx <;> exact .inl hx)⟩

def vTrim (v : List Int) : List Int := vJoin v []

def opErr (o : Opr) : Int :=
  if stampOk o.stamp = false then 1 else
  if (o.kind ≠ 1 ∧ o.kind ≠ 2) ∨ vTrim o.seen ≠ o.seen then 1 else
  if o.seen.any (fun n => decide (128 < n)) then 1 else
  if vAt o.seen o.stamp.office ≠ o.stamp.number - 1 then 11 else
  if o.kind = 2 ∧ bareEn o.entry = false then 1 else entryErr (looked o)

def opKey (o : Opr) : List UInt8 := if opErr o ≠ 0 then [] else entryKey (looked o)

def lowB (n : Int) : UInt8 := UInt8.ofNat (n % 256).toNat

def be2 (n : Int) : List UInt8 := [lowB (n / 256), lowB n]
def be4 (n : Int) : List UInt8 := be2 (n / 65536) ++ be2 n

theorem be4_length (n : Int) : (be4 n).length = 4 := rfl
theorem be2_length (n : Int) : (be2 n).length = 2 := rfl

def encText (s : List UInt8) : List UInt8 := be4 s.length ++ s

def encBody (o : Opr) : List UInt8 :=
  [1, lowB o.kind] ++ be4 o.stamp.time ++ [lowB o.stamp.office] ++ be2 o.stamp.number ++ [lowB o.seen.length] ++ o.seen.flatMap be2 ++
  encText (format o.entry.source).1 ++ encText o.entry.previous ++ encText o.entry.next ++
  (if o.kind = 1 then encText (format o.entry.target).1 ++ encText o.entry.author ++ encText o.entry.project ++ be4 o.entry.created ++ [lowB o.entry.origin] else [])

def encode (o : Opr) : List UInt8 × Int := if opErr o ≠ 0 then ([], opErr o) else (encBody o, 0)

def cmpB : List UInt8 → List UInt8 → Int
  | [], [] => 0
  | [], _ :: _ => -1
  | _ :: _, [] => 1
  | a :: x, b :: y => if a < b then -1 else if b < a then 1 else cmpB x y

def opOrd (a b : Opr) : Int :=
  let n := orI [cmpI a.stamp.office b.stamp.office, cmpI a.stamp.number b.stamp.number, cmpI a.stamp.time b.stamp.time, cmpI a.kind b.kind]
  if n ≠ 0 then n else cmpB (encode a).1 (encode b).1

def wins (a b : Opr) : Bool := decide (0 < cmpStamp a.stamp b.stamp) || (decide (cmpStamp a.stamp b.stamp = 0) && decide (0 < opOrd a b))

def concurrent (a b : Opr) : Bool :=
  !(a.stamp.office == b.stamp.office && a.stamp.number == b.stamp.number) && !covers a.seen b.stamp && !covers b.seen a.stamp

structure Rb where
  b : List UInt8
  bad : Bool

def Rb.take (r : Rb) (n : Nat) : List UInt8 × Rb :=
  if r.b.length < n then (List.replicate (min n 4) 0, ⟨[], true⟩) else (r.b.take n, ⟨r.b.drop n, r.bad⟩)

def beNat (l : List UInt8) : Int := l.foldl (fun a x => a * 256 + x.toNat) 0

def Rb.number (r : Rb) (n : Nat) : Int × Rb := (beNat (r.take n).1, (r.take n).2)

def Rb.text (r : Rb) : List UInt8 × Rb :=
  let p := r.number 4
  if (p.2.b.length : Int) < p.1 then ([], ⟨p.2.b, true⟩) else p.2.take p.1.toNat

def Rb.fragment (r : Rb) : List It × Rb :=
  let p := r.text
  let q := parse p.1
  (q.1, ⟨p.2.b, p.2.bad || q.2.2 != 0⟩)

def Rb.numbers : Nat → Rb → List Int × Rb
  | 0, r => ([], r)
  | n + 1, r => let p := r.number 2; let q := Rb.numbers n p.2; (p.1 :: q.1, q.2)

def noEn : En := ⟨[], [], [], [], [], [], 0, 0⟩
def noOp : Opr := ⟨⟨0, 0, 0⟩, 0, noEn, []⟩

def readOp (b : List UInt8) : Opr × Int × Rb :=
  let v := (Rb.mk b false).number 1
  let k := v.2.number 1
  let t := k.2.number 4
  let f := t.2.number 1
  let m := f.2.number 2
  let c := m.2.number 1
  let s := Rb.numbers c.1.toNat c.2
  let src := s.2.fragment
  let pv := src.2.text
  let nx := pv.2.text
  if k.1 = 1 then
    let tg := nx.2.fragment
    let au := tg.2.text
    let pr := au.2.text
    let cr := pr.2.number 4
    let og := cr.2.number 1
    (⟨⟨t.1, f.1, m.1⟩, k.1, ⟨src.1, tg.1, pv.1, nx.1, au.1, pr.1, cr.1, og.1⟩, s.1⟩, v.1, og.2)
  else (⟨⟨t.1, f.1, m.1⟩, k.1, ⟨src.1, [], pv.1, nx.1, [], [], 0, 0⟩, s.1⟩, v.1, nx.2)

def decode (b : List UInt8) : Opr × Int :=
  let p := readOp b
  if p.2.2.bad = true ∨ 0 < p.2.2.b.length ∨ p.2.1 ≠ 1 then (noOp, 12) else
  if (encode p.1).2 ≠ 0 ∨ (encode p.1).1 ≠ b then (noOp, 12) else (p.1, 0)

def winStep (m : List (List UInt8 × Opr)) (o : Opr) : List (List UInt8 × Opr) :=
  if opKey o = [] then m else match getA (opKey o) m with
    | none => updA m (opKey o) o
    | some was => if wins o was then updA m (opKey o) o else m

def winners (l : List Opr) : List (List UInt8 × Opr) := if 1024 < l.length then [] else l.foldl winStep []

def leB (x y : List UInt8) : Bool := decide (x ≤ y)

def current (l : List Opr) : List Opr := (((winners l).map (·.1)).mergeSort leB).filterMap fun k => getA k (winners l)

def memoryOf (l : List Opr) : List En := ((current l).filter fun o => o.kind == 1).map (·.entry)

end Go.Bt

namespace Go.Bt
open Go Go.Pm

section
variable {α β : Type} [DecidableEq α]

theorem updA_keys (l : List (α × β)) (a : α) (b : β) : (updA l a b).map (·.1) = if (getA a l).isSome = true then l.map (·.1) else l.map (·.1) ++ [a] := by
  induction l with
  | nil => simp [updA, getA_nil]
  | cons p l ih =>
    simp only [updA, getA_cons]
    by_cases h : a = p.1
    · simp [h]
    · rw [if_neg h, List.map_cons, ih, if_neg h]
      split <;> rename_i h2
      · simp
      · simp

theorem getA_none {a : α} : ∀ {l : List (α × β)}, getA a l = none ↔ a ∉ l.map (·.1) := by
  intro l
  induction l with
  | nil => simp [getA_nil]
  | cons p l ih =>
    rw [getA_cons]
    by_cases h : a = p.1
    · simp [h]
    · simp only [if_neg h, ih, List.map_cons, List.mem_cons, not_or]
      exact ⟨fun h2 => ⟨h, h2⟩, fun h2 => h2.2⟩

theorem getA_some {a : α} {l : List (α × β)} (h : a ∈ l.map (·.1)) : ∃ b, getA a l = some b := by
  cases hg : getA a l with
  | none => exact absurd h (getA_none.1 hg)
  | some b => exact ⟨b, rfl⟩

theorem updA_nodup {l : List (α × β)} {a : α} {b : β} (h : (l.map (·.1)).Nodup) : ((updA l a b).map (·.1)).Nodup := by
  rw [updA_keys]
  split
  · exact h
  · rename_i h2
    have h3 : a ∉ l.map (·.1) := fun hm => h2 (by obtain ⟨b, hb⟩ := getA_some hm; simp [hb])
    rw [List.nodup_append]
    refine ⟨h, by simp, ?_⟩
    intro x hx y hy
    simp only [List.mem_cons, List.not_mem_nil, or_false] at hy
    subst hy
    exact fun e => h3 (e ▸ hx)

theorem getA_memN {a : α} {b : β} : ∀ {l : List (α × β)}, getA a l = some b → (a, b) ∈ l := by
  intro l
  induction l with
  | nil => intro h; simp [getA_nil] at h
  | cons p l ih =>
    intro h
    rw [getA_cons] at h
    split at h
    · rename_i e
      simp only [Option.some.injEq] at h
      subst e; subst h
      exact List.mem_cons_self ..
    · exact List.mem_cons_of_mem _ (ih h)

end

theorem winStep_nodup {m : List (List UInt8 × Opr)} {o : Opr} (h : (m.map (·.1)).Nodup) : ((winStep m o).map (·.1)).Nodup := by
  simp only [winStep]
  split
  · exact h
  · split
    · exact updA_nodup h
    · split
      · exact updA_nodup h
      · exact h

theorem winStep_len (m : List (List UInt8 × Opr)) (o : Opr) : (winStep m o).length ≤ m.length + 1 := by
  simp only [winStep]
  split
  · omega
  · split
    · exact updA_len _ _ _
    · split
      · exact updA_len _ _ _
      · omega

theorem fold_nodup (l : List Opr) : ∀ (m : List (List UInt8 × Opr)), (m.map (·.1)).Nodup → ((l.foldl winStep m).map (·.1)).Nodup := by
  induction l with
  | nil => intro m h; exact h
  | cons o l ih => intro m h; exact ih _ (winStep_nodup h)

theorem fold_len (l : List Opr) : ∀ (m : List (List UInt8 × Opr)), (l.foldl winStep m).length ≤ m.length + l.length := by
  induction l with
  | nil => intro m; simp
  | cons o l ih =>
    intro m
    have h1 := ih (winStep m o)
    have h2 := winStep_len m o
    simp only [List.foldl_cons, List.length_cons]
    omega

theorem winners_nodup (l : List Opr) : ((winners l).map (·.1)).Nodup := by
  simp only [winners]
  split
  · simp
  · exact fold_nodup l [] (by simp)

theorem winners_len (l : List Opr) : (winners l).length ≤ 1024 := by
  simp only [winners]
  split
  · simp
  · have := fold_len l []
    simp at this
    omega

theorem winStep_memN {m : List (List UInt8 × Opr)} {o : Opr} {p : List UInt8 × Opr} (h : p ∈ winStep m o) : p = (opKey o, o) ∨ p ∈ m := by
  have upd : ∀ {m : List (List UInt8 × Opr)}, p ∈ updA m (opKey o) o → p = (opKey o, o) ∨ p ∈ m := by
    intro m
    induction m with
    | nil => intro h; simp [updA] at h; exact .inl h
    | cons q l ih =>
      intro h
      simp only [updA] at h
      split at h
      · rcases List.mem_cons.1 h with h | h
        · exact .inl h
        · exact .inr (List.mem_cons_of_mem _ h)
      · rcases List.mem_cons.1 h with h | h
        · exact .inr (h ▸ List.mem_cons_self ..)
        · rcases ih h with h | h
          · exact .inl h
          · exact .inr (List.mem_cons_of_mem _ h)
  simp only [winStep] at h
  split at h
  · exact .inr h
  · split at h
    · exact upd h
    · split at h
      · exact upd h
      · exact .inr h

theorem fold_mem (l : List Opr) : ∀ (m : List (List UInt8 × Opr)) (p : List UInt8 × Opr), p ∈ l.foldl winStep m → (p.1 = opKey p.2 ∧ p.2 ∈ l) ∨ p ∈ m := by
  induction l with
  | nil => intro m p h; exact .inr h
  | cons o l ih =>
    intro m p h
    rcases ih _ p h with h | h
    · exact .inl ⟨h.1, List.mem_cons_of_mem _ h.2⟩
    · rcases winStep_memN h with rfl | h
      · exact .inl ⟨rfl, List.mem_cons_self ..⟩
      · exact .inr h

theorem winners_mem {l : List Opr} {p : List UInt8 × Opr} (h : p ∈ winners l) : p.1 = opKey p.2 ∧ p.2 ∈ l := by
  simp only [winners] at h
  split at h
  · simp at h
  · rcases fold_mem l [] p h with h | h
    · exact h
    · simp at h

def sortedKeys (l : List Opr) : List (List UInt8) := ((winners l).map (·.1)).mergeSort leB

theorem sortedKeys_perm (l : List Opr) : (sortedKeys l).Perm ((winners l).map (·.1)) := List.mergeSort_perm _ _

theorem sortedKeys_some {l : List Opr} {k : List UInt8} (h : k ∈ sortedKeys l) : ∃ o, getA k (winners l) = some o := getA_some ((sortedKeys_perm l).mem_iff.1 h)

theorem sortedKeys_len (l : List Opr) : (sortedKeys l).length ≤ 1024 := by
  have := winners_len l
  rw [(sortedKeys_perm l).length_eq]; simpa using this

theorem current_mem {l : List Opr} {o : Opr} (h : o ∈ current l) : o ∈ l := by
  simp only [current, List.mem_filterMap] at h
  obtain ⟨k, _, hk⟩ := h
  exact (winners_mem (getA_memN hk)).2

theorem current_len (l : List Opr) : (current l).length ≤ 1024 := Nat.le_trans (List.length_filterMap_le _ _) (sortedKeys_len l)

theorem memoryOf_len (l : List Opr) : (memoryOf l).length ≤ 1024 := by
  have := current_len l
  simp only [memoryOf, List.length_map]
  exact Nat.le_trans (List.length_filter_le _ _) this

end Go.Bt

namespace Go.Bt
open Go Go.Pm

def enEq (a b : En) : Bool := itsEq a.source b.source && (itsEq a.target b.target && (a.previous == b.previous && (a.next == b.next && (a.author == b.author && (a.project == b.project && (a.created == b.created && a.origin == b.origin))))))

theorem enEq_iff {a b : En} : enEq a b = true ↔ a = b := by
  obtain ⟨a1, a2, a3, a4, a5, a6, a7, a8⟩ := a
  obtain ⟨b1, b2, b3, b4, b5, b6, b7, b8⟩ := b
  simp [enEq, itsEq_iff]

def ensEq : List En → List En → Bool
  | [], [] => true
  | a :: x, b :: y => enEq a b && ensEq x y
  | _, _ => false

theorem ensEq_iff : ∀ {a b : List En}, ensEq a b = true ↔ a = b
  | [], [] => by simp [ensEq]
  | a :: x, b :: y => by simp [ensEq, enEq_iff, ensEq_iff (a := x) (b := y)]
  | [], b :: y => by simp [ensEq]
  | a :: x, [] => by simp [ensEq]

theorem ensEq_len : ∀ {a b : List En}, ensEq a b = true → a.length = b.length := fun h => by rw [ensEq_iff.1 h]

def place (x n : Int) : Int := if x.tmod n < 0 then x.tmod n + n else x.tmod n

theorem place_range {x n : Int} (h : 0 < n) : 0 ≤ place x n ∧ place x n < n := by
  have h1 := Int.tmod_lt_of_pos x h
  have h2 : - n < x.tmod n := Int.neg_lt_of_neg_lt (by
    have := Int.tmod_lt_of_pos (-x) h
    rw [Int.neg_tmod] at this
    omega)
  simp only [place]
  split <;> omega

def knEntry : En := ⟨[⟨1, [97], 0⟩], [⟨1, [98], 0⟩], [], [], [], [], 0, 1⟩
def knX : Opr := ⟨⟨4, 0, 1⟩, 1, knEntry, []⟩
def knY : Opr := ⟨⟨5, 1, 1⟩, 2, ⟨[⟨1, [97], 0⟩], [], [], [], [], [], 0, 0⟩, [1]⟩

theorem knX_ok : opErr knX = 0 := by decide +kernel
theorem knY_ok : opErr knY = 0 := by decide +kernel
theorem kn_wins : wins knY knX = true ∧ wins knX knY = false ∧ concurrent knX knY = false := by decide +kernel
theorem knY_code : (encode knY).1.length = 25 ∧ (encode knY).2 = 0 := by decide +kernel
theorem kn_keys : opKey knX = [97, 10, 10] ∧ opKey knY = [97, 10, 10] := by decide +kernel

theorem sort_one (k : List UInt8) : List.mergeSort [k] leB = [k] := by simp

theorem kn_mem1 : memoryOf [knX] = [knEntry] := by
  have h : winners [knX] = [([97, 10, 10], knX)] := by
    simp [winners, winStep, kn_keys, getA_nil, updA]
  simp only [memoryOf, current, h, List.map_cons, List.map_nil, sort_one, List.filterMap_cons, List.filterMap_nil, getA_cons, if_true]
  rfl

theorem kn_mem2 : memoryOf [knY, knX] = [] := by
  have h : winners [knY, knX] = [([97, 10, 10], knY)] := by
    simp [winners, winStep, kn_keys, getA_nil, getA_cons, updA, kn_wins]
  simp only [memoryOf, current, h, List.map_cons, List.map_nil, sort_one, List.filterMap_cons, List.filterMap_nil, getA_cons, if_true]
  rfl

theorem small_of {f : List It} (h : f.length < 2 ^ 30 ∧ textLen f < 2 ^ 30) : f.length < 2 ^ 30 ∧ textLen f < 2 ^ 30 := h

theorem knEntry_small : knEntry.small := ⟨by decide, by decide, by decide, by decide, by decide, by decide, by decide⟩
theorem knX_small : knX.small := ⟨knEntry_small, by decide, by decide, by decide⟩
theorem knY_small : knY.small := ⟨⟨by decide, by decide, by decide, by decide, by decide, by decide, by decide⟩, by decide, by decide, by decide⟩

def liEntry : En := ⟨[⟨1, [97], 0⟩], [], [], [], [], [], 0, 1⟩
def liOp : Opr := ⟨⟨1, 0, 1⟩, 1, liEntry, []⟩

theorem liOp_small : liOp.small := ⟨⟨by decide, by decide, by decide, by decide, by decide, by decide, by decide⟩, by decide, by decide, by decide⟩
theorem li_key : opKey liOp = [97, 10, 10] := by decide +kernel
theorem li_self : wins liOp liOp = false := by decide +kernel

theorem li_fold : ∀ n : Nat, (List.replicate n liOp).foldl winStep [([97, 10, 10], liOp)] = [([97, 10, 10], liOp)] := by
  intro n
  induction n with
  | zero => rfl
  | succ n ih =>
    rw [List.replicate_succ, List.foldl_cons]
    have : winStep [([97, 10, 10], liOp)] liOp = [([97, 10, 10], liOp)] := by
      simp [winStep, li_key, getA_cons, li_self]
    rw [this, ih]

theorem li_winners {n : Nat} (h : 1 ≤ n) (h2 : n ≤ 1024) : winners (List.replicate n liOp) = [([97, 10, 10], liOp)] := by
  obtain ⟨n, rfl⟩ : ∃ k, n = k + 1 := ⟨n - 1, by omega⟩
  simp only [winners, List.length_replicate]
  rw [if_neg (by omega), List.replicate_succ, List.foldl_cons]
  have : winStep [] liOp = [([97, 10, 10], liOp)] := by
    simp [winStep, li_key, getA_nil, updA]
  rw [this, li_fold]

theorem li_current {n : Nat} (h : 1 ≤ n) (h2 : n ≤ 1024) : current (List.replicate n liOp) = [liOp] := by
  simp only [current, li_winners h h2, List.map_cons, List.map_nil, sort_one, List.filterMap_cons, List.filterMap_nil, getA_cons, if_true]

theorem li_memory {n : Nat} (h : 1 ≤ n) (h2 : n ≤ 1024) : memoryOf (List.replicate n liOp) = [liEntry] := by
  simp only [memoryOf, li_current h h2]; rfl

theorem many_current {l : List Opr} (h : 1024 < l.length) : current l = [] := by
  have : winners l = [] := by simp only [winners, if_pos h]
  simp [current, this]

end Go.Bt

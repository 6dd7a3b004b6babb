/- A part of the proof that OperationKeeps returns true and leaves its argument as it was, for every input. -/
import Derived.Test.YtdhbodgefhojnaaGreatDoorK11
import Derived.Test.YtdhbodgefhojnaaGreatDoorK14
set_option linter.all false

namespace Go.Bt
open Go Go.Pm
theorem hexhi (c : UInt8) : 0 ≤ (c.toNat : Int).fdiv (2 ^ min 4 IntKind.u8.bits) ∧ (c.toNat : Int).fdiv (2 ^ min 4 IntKind.u8.bits) < 16 ∧
  ([48,49,50,51,52,53,54,55,56,57,97,98,99,100,101,102] : List UInt8).getD ((c.toNat : Int).fdiv (2 ^ min 4 IntKind.u8.bits)).toNat 0 = hexDig (c.toNat / 16) := by
 revert c; exact u8_all (by decide +kernel)
theorem hexlo (c : UInt8) : 0 ≤ IntKind.u8.wrap (((BitVec.ofInt IntKind.u8.bits (c.toNat : Int) &&& BitVec.ofInt IntKind.u8.bits 15).toNat : Nat) : Int) ∧ IntKind.u8.wrap (((BitVec.ofInt IntKind.u8.bits (c.toNat : Int) &&& BitVec.ofInt IntKind.u8.bits 15).toNat : Nat) : Int) < 16 ∧
  ([48,49,50,51,52,53,54,55,56,57,97,98,99,100,101,102] : List UInt8).getD (IntKind.u8.wrap (((BitVec.ofInt IntKind.u8.bits (c.toNat : Int) &&& BitVec.ofInt IntKind.u8.bits 15).toNat : Nat) : Int)).toNat 0 = hexDig (c.toNat % 16) := by
 revert c; exact u8_all (by decide +kernel)
def itemText (x : It) : List UInt8 :=
 if x.kind = 1 then x.text.flatMap writB else if x.kind = 2 then 60 :: (Lib.itoa x.id ++ 58 :: (x.text ++ [62])) else if x.kind = 3 then 60 :: 47 :: (Lib.itoa x.id ++ 58 :: (x.text ++ [62]))
 else if x.kind = 4 then 60 :: (Lib.itoa x.id ++ 58 :: (x.text ++ [47,62])) else if x.kind = 5 then 123 :: (x.text ++ [125]) else []
def format (f : List It) : List UInt8 × Int := if validItems f ≠ 0 then ([],validItems f) else (f.flatMap itemText,0)
theorem writB_len (c : UInt8) : (writB c).length ≤ 4 := by
 simp only [writB]
 (repeat' split) <;> simp
theorem flatW_len (s : List UInt8) : (s.flatMap writB).length ≤ 4 * s.length := by
 induction s with
 | nil => simp
 | cons c s ih =>
  have := writB_len c
  simp only [List.flatMap_cons,List.length_append,List.length_cons]; omega
theorem itemsErr_kind : ∀ (rest pre : List It),itemsErr pre rest = 0 → ∀ x ∈ rest,1 ≤ x.kind ∧ x.kind ≤ 5 := by
 intro rest
 induction rest with
 | nil => intro pre h x hx; simp at hx
 | cons y rest ih =>
  intro pre h x hx
  simp only [itemsErr] at h
  split at h
  ·simp at h
  ·rename_i h1
   split at h
   ·simp at h
   ·rcases List.mem_cons.1 hx with rfl | hx
    ·simp only [itemFine] at h1
     by_cases k1 : x.kind = 1
     ·omega
     ·by_cases k5 : x.kind = 5
      ·omega
      ·by_cases k2 : x.kind = 2 ∨ x.kind = 4
       ·omega
       ·by_cases k3 : x.kind = 3
        ·omega
        ·simp [k1,k5,k2,k3] at h1
    ·exact ih _ h x hx
theorem validItems_kind {f : List It} (h : validItems f = 0) : ∀ x ∈ f,1 ≤ x.kind ∧ x.kind ≤ 5 := by
 simp only [validItems] at h
 split at h
 ·simp at h
 ·exact itemsErr_kind f [] h
theorem itemText_len (x : It) (h : -9223372036854775808 ≤ x.id ∧ x.id ≤ 9223372036854775807) : (itemText x).length ≤ 4 * x.text.length + 30 := by
 have h1 := Lib.itoa_length_le x.id h.1 h.2
 have h2 := flatW_len x.text
 simp only [itemText]
 split
 ·omega
 ·split
  ·simp; omega
  ·split
   ·simp; omega
   ·split
    ·simp; omega
    ·split
     ·simp; omega
     ·simp
theorem format_len (f : List It) (hl : f.length < 2 ^ 30) (ht : textLen f < 2 ^ 30) (hid : ∀ x ∈ f,-9223372036854775808 ≤ x.id ∧ x.id ≤ 9223372036854775807) : (format f).1.length < 2 ^ 36 := by
 have key : ∀ f : List It,(∀ x ∈ f,-9223372036854775808 ≤ x.id ∧ x.id ≤ 9223372036854775807) → (f.flatMap itemText).length ≤ 4 * textLen f + 30 * f.length := by
  intro f
  induction f with
  | nil => intro _; simp
  | cons x f ih =>
   intro h
   have h1 := ih fun y hy => h y (by simp [hy])
   have h2 := itemText_len x (h x (by simp))
   simp only [List.flatMap_cons,List.length_append,textLen,List.length_cons]
   omega
 have := key f hid
 simp only [format]
 split
 ·simp
 ·simp only; omega
theorem indexByte_low (c : UInt8) : ∀ l : List UInt8,-1 ≤ Lib.indexByte l c := by
 intro l
 induction l with
 | nil => simp [Lib.indexByte]
 | cons a l ih =>
  simp only [Lib.indexByte]
  split
  ·omega
  ·split <;> omega
theorem indexByte_none {c : UInt8} : ∀ {l : List UInt8},c ∉ l → Lib.indexByte l c = -1 := by
 intro l
 induction l with
 | nil => intro _; simp [Lib.indexByte]
 | cons a l ih =>
  intro h
  have h1 : (a == c) = false := by
   simp only [List.mem_cons,not_or] at h
   simpa using fun e => h.1 e.symm
  have h2 := ih (fun hm => h (List.mem_cons_of_mem _ hm))
  simp [Lib.indexByte,h1,h2]
theorem indexByte_at {c : UInt8} {rest : List UInt8} : ∀ {pre : List UInt8},c ∉ pre → Lib.indexByte (pre ++ c :: rest) c = pre.length := by
 intro pre
 induction pre with
 | nil => intro _; simp [Lib.indexByte]
 | cons a l ih =>
  intro h
  have h1 : (a == c) = false := by
   simp only [List.mem_cons,not_or] at h
   simpa using fun e => h.1 e.symm
  have h2 := ih (fun hm => h (List.mem_cons_of_mem _ hm))
  simp only [List.cons_append,Lib.indexByte,h1,h2,Bool.false_eq_true,if_false,List.length_cons]
  have : ((l.length : Int) == -1) = false := by rw [beq_eq_false_iff_ne]; omega
  rw [this]
  simp
theorem indexByte_some {c : UInt8} {l : List UInt8} (h : c ∈ l) : 0 ≤ Lib.indexByte l c := by
 induction l with
 | nil => simp at h
 | cons a l ih =>
  have hl := indexByte_low c l
  simp only [Lib.indexByte]
  by_cases h1 : a = c
  ·simp [h1]
  ·have h2 : (a == c) = false := by simpa using h1
   have h3 : c ∈ l := by
    rcases List.mem_cons.1 h with h | h
    ·exact absurd h.symm h1
    ·exact h
   have h4 := ih h3
   have h5 : (Lib.indexByte l c == -1) = false := by simp; omega
   simp [h2,h5]; omega
structure En where
 source : List It
 target : List It
 previous : List UInt8
 next : List UInt8
 author : List UInt8
 project : List UInt8
 created : Int
 origin : Int
def En.cells (e : En) : List V := [.sl 3 (e.source.map It.cells),.sl 3 (e.target.map It.cells),.s e.previous,.s e.next,.s e.author,.s e.project,.i .i64 e.created,.i .i64 e.origin]
def named (s : List UInt8) : Bool := s == [] || isName s
def canonOk (e : En) : Bool := !(e.source.length == 0) && itsEq (canonS e.source e.target) e.source && itsEq (canonT e.source e.target) e.target
def entryErr (e : En) : Int :=
 if validItems e.source ≠ 0 then validItems e.source else if validItems e.target ≠ 0 then validItems e.target else
 if canonOk e = false then 1 else
 if (parse e.previous).2.2 ≠ 0 then (parse e.previous).2.2 else if (parse e.next).2.2 ≠ 0 then (parse e.next).2.2 else
 if (named e.author && named e.project) = false then 4 else
 if e.created < 0 ∨ 1073741824 < e.created ∨ e.origin < 1 ∨ 3 < e.origin then 1 else 0
structure En.small (e : En) : Prop where
 source : e.source.length < 2 ^ 30
 sourceT : textLen e.source < 2 ^ 30
 target : e.target.length < 2 ^ 30
 targetT : textLen e.target < 2 ^ 30
 previous : e.previous.length < 2 ^ 30
 next : e.next.length < 2 ^ 30
 ids : ∀ x ∈ e.source ++ e.target,-9223372036854775808 ≤ x.id ∧ x.id ≤ 9223372036854775807
def joinKey (e : En) : List UInt8 := (format e.source).1 ++ 10 :: (e.previous ++ 10 :: e.next)
def entryKey (e : En) : List UInt8 := if entryErr e ≠ 0 then [] else joinKey e
structure Opr where
 stamp : Stamp
 kind : Int
 entry : En
 seen : List Int
def Opr.cells (o : Opr) : List V := o.stamp.cells ++ [.i .i64 o.kind] ++ o.entry.cells ++ [.sl 1 (o.seen.map iRow)]
structure Opr.small (o : Opr) : Prop where
 entry : o.entry.small
 author : o.entry.author.length < 2 ^ 30
 project : o.entry.project.length < 2 ^ 30
 seen : o.seen.length < 2 ^ 30
def asked (e : En) : En := ⟨e.source,e.source,e.previous,e.next,[],[],0,1⟩
def looked (o : Opr) : En := if o.kind ≠ 2 then o.entry else asked o.entry
def bareEn (e : En) : Bool := e.target.length == 0 && (e.author == [] && (e.project == [] && (e.created == 0 && e.origin == 0)))
theorem looked_small {o : Opr} (h : o.small) : (looked o).small := by
 simp only [looked]
 split
 ·exact h.entry
 ·exact ⟨h.entry.source,h.entry.sourceT,h.entry.source,h.entry.sourceT,h.entry.previous,h.entry.next,fun x hx => h.entry.ids x (by
   simp only [asked,List.mem_append] at hx ⊢
   rcases hx with hx | hx <;> exact .inl hx)⟩
def vTrim (v : List Int) : List Int := vJoin v []
def opErr (o : Opr) : Int :=
 if stampOk o.stamp = false then 1 else
 if (o.kind ≠ 1 ∧ o.kind ≠ 2) ∨ vTrim o.seen ≠ o.seen then 1 else
 if o.seen.any (fun n => decide (128 < n)) then 1 else
 if vAt o.seen o.stamp.office ≠ o.stamp.number - 1 then 11 else
 if o.kind = 2 ∧ bareEn o.entry = false then 1 else entryErr (looked o)
def opKey (o : Opr) : List UInt8 := if opErr o ≠ 0 then [] else entryKey (looked o)
def lowB (n : Int) : UInt8 := UInt8.ofNat (n % 256).toNat
def be2 (n : Int) : List UInt8 := [lowB (n / 256),lowB n]
def be4 (n : Int) : List UInt8 := be2 (n / 65536) ++ be2 n
theorem be4_length (n : Int) : (be4 n).length = 4 := rfl
theorem be2_length (n : Int) : (be2 n).length = 2 := rfl
def encText (s : List UInt8) : List UInt8 := be4 s.length ++ s
def encBody (o : Opr) : List UInt8 :=
 [1,lowB o.kind] ++ be4 o.stamp.time ++ [lowB o.stamp.office] ++ be2 o.stamp.number ++ [lowB o.seen.length] ++ o.seen.flatMap be2 ++
 encText (format o.entry.source).1 ++ encText o.entry.previous ++ encText o.entry.next ++
 (if o.kind = 1 then encText (format o.entry.target).1 ++ encText o.entry.author ++ encText o.entry.project ++ be4 o.entry.created ++ [lowB o.entry.origin] else [])
def encode (o : Opr) : List UInt8 × Int := if opErr o ≠ 0 then ([],opErr o) else (encBody o,0)
def cmpB : List UInt8 → List UInt8 → Int
 | [],[] => 0
 | [],_ :: _ => -1
 | _ :: _,[] => 1
 | a :: x,b :: y => if a < b then -1 else if b < a then 1 else cmpB x y
def opOrd (a b : Opr) : Int :=
 let n := orI [cmpI a.stamp.office b.stamp.office,cmpI a.stamp.number b.stamp.number,cmpI a.stamp.time b.stamp.time,cmpI a.kind b.kind]
 if n ≠ 0 then n else cmpB (encode a).1 (encode b).1
def wins (a b : Opr) : Bool := decide (0 < cmpStamp a.stamp b.stamp) || (decide (cmpStamp a.stamp b.stamp = 0) && decide (0 < opOrd a b))
def concurrent (a b : Opr) : Bool :=
 !(a.stamp.office == b.stamp.office && a.stamp.number == b.stamp.number) && !covers a.seen b.stamp && !covers b.seen a.stamp
structure Rb where
 b : List UInt8
 bad : Bool
def Rb.take (r : Rb) (n : Nat) : List UInt8 × Rb :=
 if r.b.length < n then (List.replicate (min n 4) 0,⟨[],true⟩) else (r.b.take n,⟨r.b.drop n,r.bad⟩)
def beNat (l : List UInt8) : Int := l.foldl (fun a x => a * 256 + x.toNat) 0
def Rb.number (r : Rb) (n : Nat) : Int × Rb := (beNat (r.take n).1,(r.take n).2)
def Rb.text (r : Rb) : List UInt8 × Rb :=
 let p := r.number 4
 if (p.2.b.length : Int) < p.1 then ([],⟨p.2.b,true⟩) else p.2.take p.1.toNat
def Rb.fragment (r : Rb) : List It × Rb :=
 let p := r.text
 let q := parse p.1
 (q.1,⟨p.2.b,p.2.bad || q.2.2 != 0⟩)
def Rb.numbers : Nat → Rb → List Int × Rb
 | 0,r => ([],r)
 | n + 1,r => let p := r.number 2; let q := Rb.numbers n p.2; (p.1 :: q.1,q.2)
def readOp (b : List UInt8) : Opr × Int × Rb :=
 let v := (Rb.mk b false).number 1
 let k := v.2.number 1
 let t := k.2.number 4
 let f := t.2.number 1
 let m := f.2.number 2
 let c := m.2.number 1
 let s := Rb.numbers c.1.toNat c.2
 let src := s.2.fragment
 let pv := src.2.text
 let nx := pv.2.text
 if k.1 = 1 then
  let tg := nx.2.fragment
  let au := tg.2.text
  let pr := au.2.text
  let cr := pr.2.number 4
  let og := cr.2.number 1
  (⟨⟨t.1,f.1,m.1⟩,k.1,⟨src.1,tg.1,pv.1,nx.1,au.1,pr.1,cr.1,og.1⟩,s.1⟩,v.1,og.2)
 else (⟨⟨t.1,f.1,m.1⟩,k.1,⟨src.1,[],pv.1,nx.1,[],[],0,0⟩,s.1⟩,v.1,nx.2)
def winStep (m : List (List UInt8 × Opr)) (o : Opr) : List (List UInt8 × Opr) :=
 if opKey o = [] then m else match getA (opKey o) m with
  | none => updA m (opKey o) o
  | some was => if wins o was then updA m (opKey o) o else m
def winners (l : List Opr) : List (List UInt8 × Opr) := if 1024 < l.length then [] else l.foldl winStep []
def leB (x y : List UInt8) : Bool := decide (x ≤ y)
def current (l : List Opr) : List Opr := (((winners l).map (·.1)).mergeSort leB).filterMap fun k => getA k (winners l)
def memoryOf (l : List Opr) : List En := ((current l).filter fun o => o.kind == 1).map (·.entry)
section
variable {α β : Type} [DecidableEq α]
theorem updA_keys (l : List (α × β)) (a : α) (b : β) : (updA l a b).map (·.1) = if (getA a l).isSome = true then l.map (·.1) else l.map (·.1) ++ [a] := by
 induction l with
 | nil => simp [updA,getA_nil]
 | cons p l ih =>
  simp only [updA,getA_cons]
  by_cases h : a = p.1
  ·simp [h]
  ·rw [if_neg h,List.map_cons,ih,if_neg h]
   split <;> rename_i h2
   ·simp
   ·simp
theorem getA_none {a : α} : ∀ {l : List (α × β)},getA a l = none ↔ a ∉ l.map (·.1) := by
 intro l
 induction l with
 | nil => simp [getA_nil]
 | cons p l ih =>
  rw [getA_cons]
  by_cases h : a = p.1
  ·simp [h]
  ·simp only [if_neg h,ih,List.map_cons,List.mem_cons,not_or]
   exact ⟨fun h2 => ⟨h,h2⟩,fun h2 => h2.2⟩
theorem getA_some {a : α} {l : List (α × β)} (h : a ∈ l.map (·.1)) : ∃ b,getA a l = some b := by
 cases hg : getA a l with
 | none => exact absurd h (getA_none.1 hg)
 | some b => exact ⟨b,rfl⟩
theorem updA_nodup {l : List (α × β)} {a : α} {b : β} (h : (l.map (·.1)).Nodup) : ((updA l a b).map (·.1)).Nodup := by
 rw [updA_keys]
 split
 ·exact h
 ·rename_i h2
  have h3 : a ∉ l.map (·.1) := fun hm => h2 (by obtain ⟨b,hb⟩ := getA_some hm; simp [hb])
  rw [List.nodup_append]
  refine ⟨h,by simp,?_⟩
  intro x hx y hy
  simp only [List.mem_cons,List.not_mem_nil,or_false] at hy
  subst hy
  exact fun e => h3 (e ▸ hx)
theorem getA_memN {a : α} {b : β} : ∀ {l : List (α × β)},getA a l = some b → (a,b) ∈ l := by
 intro l
 induction l with
 | nil => intro h; simp [getA_nil] at h
 | cons p l ih =>
  intro h
  rw [getA_cons] at h
  split at h
  ·rename_i e
   simp only [Option.some.injEq] at h
   subst e; subst h
   exact List.mem_cons_self ..
  ·exact List.mem_cons_of_mem _ (ih h)
end
theorem winStep_nodup {m : List (List UInt8 × Opr)} {o : Opr} (h : (m.map (·.1)).Nodup) : ((winStep m o).map (·.1)).Nodup := by
 simp only [winStep]
 split
 ·exact h
 ·split
  ·exact updA_nodup h
  ·split
   ·exact updA_nodup h
   ·exact h
theorem winStep_len (m : List (List UInt8 × Opr)) (o : Opr) : (winStep m o).length ≤ m.length + 1 := by
 simp only [winStep]
 split
 ·omega
 ·split
  ·exact updA_len _ _ _
  ·split
   ·exact updA_len _ _ _
   ·omega
theorem fold_nodup (l : List Opr) : ∀ (m : List (List UInt8 × Opr)),(m.map (·.1)).Nodup → ((l.foldl winStep m).map (·.1)).Nodup := by
 induction l with
 | nil => intro m h; exact h
 | cons o l ih => intro m h; exact ih _ (winStep_nodup h)
theorem fold_len (l : List Opr) : ∀ (m : List (List UInt8 × Opr)),(l.foldl winStep m).length ≤ m.length + l.length := by
 induction l with
 | nil => intro m; simp
 | cons o l ih =>
  intro m
  have h1 := ih (winStep m o)
  have h2 := winStep_len m o
  simp only [List.foldl_cons,List.length_cons]
  omega
theorem winners_nodup (l : List Opr) : ((winners l).map (·.1)).Nodup := by
 simp only [winners]
 split
 ·simp
 ·exact fold_nodup l [] (by simp)
theorem winners_len (l : List Opr) : (winners l).length ≤ 1024 := by
 simp only [winners]
 split
 ·simp
 ·have := fold_len l []
  simp at this
  omega
theorem winStep_memN {m : List (List UInt8 × Opr)} {o : Opr} {p : List UInt8 × Opr} (h : p ∈ winStep m o) : p = (opKey o,o) ∨ p ∈ m := by
 have upd : ∀ {m : List (List UInt8 × Opr)},p ∈ updA m (opKey o) o → p = (opKey o,o) ∨ p ∈ m := by
  intro m
  induction m with
  | nil => intro h; simp [updA] at h; exact .inl h
  | cons q l ih =>
   intro h
   simp only [updA] at h
   split at h
   ·rcases List.mem_cons.1 h with h | h
    ·exact .inl h
    ·exact .inr (List.mem_cons_of_mem _ h)
   ·rcases List.mem_cons.1 h with h | h
    ·exact .inr (h ▸ List.mem_cons_self ..)
    ·rcases ih h with h | h
     ·exact .inl h
     ·exact .inr (List.mem_cons_of_mem _ h)
 simp only [winStep] at h
 split at h
 ·exact .inr h
 ·split at h
  ·exact upd h
  ·split at h
   ·exact upd h
   ·exact .inr h
theorem fold_mem (l : List Opr) : ∀ (m : List (List UInt8 × Opr)) (p : List UInt8 × Opr),p ∈ l.foldl winStep m → (p.1 = opKey p.2 ∧ p.2 ∈ l) ∨ p ∈ m := by
 induction l with
 | nil => intro m p h; exact .inr h
 | cons o l ih =>
  intro m p h
  rcases ih _ p h with h | h
  ·exact .inl ⟨h.1,List.mem_cons_of_mem _ h.2⟩
  ·rcases winStep_memN h with rfl | h
   ·exact .inl ⟨rfl,List.mem_cons_self ..⟩
   ·exact .inr h
theorem winners_mem {l : List Opr} {p : List UInt8 × Opr} (h : p ∈ winners l) : p.1 = opKey p.2 ∧ p.2 ∈ l := by
 simp only [winners] at h
 split at h
 ·simp at h
 ·rcases fold_mem l [] p h with h | h
  ·exact h
  ·simp at h
def sortedKeys (l : List Opr) : List (List UInt8) := ((winners l).map (·.1)).mergeSort leB
theorem sortedKeys_perm (l : List Opr) : (sortedKeys l).Perm ((winners l).map (·.1)) := List.mergeSort_perm _ _
theorem sortedKeys_some {l : List Opr} {k : List UInt8} (h : k ∈ sortedKeys l) : ∃ o,getA k (winners l) = some o := getA_some ((sortedKeys_perm l).mem_iff.1 h)
theorem sortedKeys_len (l : List Opr) : (sortedKeys l).length ≤ 1024 := by
 have := winners_len l
 rw [(sortedKeys_perm l).length_eq]; simpa using this
theorem current_mem {l : List Opr} {o : Opr} (h : o ∈ current l) : o ∈ l := by
 simp only [current,List.mem_filterMap] at h
 obtain ⟨k,_,hk⟩ := h
 exact (winners_mem (getA_memN hk)).2
theorem current_len (l : List Opr) : (current l).length ≤ 1024 := Nat.le_trans (List.length_filterMap_le _ _) (sortedKeys_len l)
theorem memoryOf_len (l : List Opr) : (memoryOf l).length ≤ 1024 := by
 have := current_len l
 simp only [memoryOf,List.length_map]
 exact Nat.le_trans (List.length_filter_le _ _) this
structure IsOrd {α : Type} (c : α → α → Int) : Prop where
 anti : ∀ a b,c b a = - c a b
 trans : ∀ a b d,0 ≤ c a b → 0 ≤ c b d → 0 ≤ c a d
theorem IsOrd.self {α : Type} {c : α → α → Int} (h : IsOrd c) (a : α) : c a a = 0 := by have := h.anti a a; omega
theorem IsOrd.gt {α : Type} {c : α → α → Int} (h : IsOrd c) {a b d : α} (h1 : 0 < c a b) (h2 : 0 < c b d) : 0 < c a d := by
 have h3 := h.trans a b d (by omega) (by omega)
 rcases (by omega : 0 < c a d ∨ c a d = 0) with h4 | h4
 ·exact h4
 ·have h5 := h.anti a d
  have h6 := h.trans d a b (by omega) (by omega)
  have h7 := h.anti d b
  omega
theorem IsOrd.on {α β : Type} {c : β → β → Int} (h : IsOrd c) (f : α → β) : IsOrd fun a b => c (f a) (f b) :=
 ⟨fun _ _ => h.anti _ _,fun _ _ _ => h.trans _ _ _⟩
def lexI {α : Type} (c d : α → α → Int) (a b : α) : Int := if c a b ≠ 0 then c a b else d a b
theorem IsOrd.lex {α : Type} {c d : α → α → Int} (h : IsOrd c) (k : IsOrd d) : IsOrd (lexI c d) := by
 refine ⟨fun a b => ?_,fun a b e h1 h2 => ?_⟩
 ·have h1 := h.anti a b
  have h2 := k.anti a b
  simp only [lexI]
  split <;> split <;> omega
 ·have g1 := h.anti a b
  have g2 := h.anti b e
  have g3 := h.trans a b e
  have g4 := h.trans e a b
  have g5 := h.anti e b
  have g6 := h.anti a e
  have g7 := h.trans b e a
  have g8 := h.anti b a
  have k3 := k.trans a b e
  simp only [lexI] at h1 h2 ⊢
  split at h1 <;> split at h2 <;> split <;> omega
theorem cmpI_ord : IsOrd cmpI := by
 refine ⟨fun a b => ?_,fun a b d => ?_⟩ <;> simp only [cmpI] <;> (repeat' split) <;> omega
theorem cmpI_zero {a b : Int} : cmpI a b = 0 ↔ a = b := by
 simp only [cmpI]
 (repeat' split) <;> omega
theorem u8_lt {a b : UInt8} : a < b ↔ a.toNat < b.toNat := Iff.rfl
theorem cmpB_ord : IsOrd cmpB := by
 have anti : ∀ a b,cmpB b a = - cmpB a b := by
  intro a
  induction a with
  | nil => intro b; cases b <;> simp [cmpB]
  | cons x a ih =>
   intro b
   cases b with
   | nil => simp [cmpB]
   | cons y b =>
    simp only [cmpB,ih]
    by_cases h1 : x < y
    ·have h2 : ¬ y < x := by rw [u8_lt] at *; omega
     simp [h1,h2]
    ·by_cases h2 : y < x <;> simp [h1,h2]
 refine ⟨anti,?_⟩
 intro a
 induction a with
 | nil =>
  intro b d h1 h2
  cases b with
  | nil => exact h2
  | cons y b => simp [cmpB] at h1
 | cons x a ih =>
  intro b d h1 h2
  cases d with
  | nil => simp [cmpB]
  | cons z d =>
   cases b with
   | nil => simp [cmpB] at h2
   | cons y b =>
    simp only [cmpB] at h1 h2 ⊢
    by_cases hxy : x < y
    ·simp [hxy] at h1
    ·by_cases hyz : y < z
     ·simp [hyz] at h2
     ·rw [if_neg hxy] at h1
      rw [if_neg hyz] at h2
      have hxz : ¬ x < z := by rw [u8_lt] at *; omega
      rw [if_neg hxz]
      by_cases hzx : z < x
      ·rw [if_pos hzx]; decide
      ·rw [if_neg hzx]
       have h3 : ¬ y < x := by rw [u8_lt] at *; omega
       have h4 : ¬ z < y := by rw [u8_lt] at *; omega
       rw [if_neg h3] at h1
       rw [if_neg h4] at h2
       exact ih b d h1 h2
theorem cmpB_zero : ∀ {a b : List UInt8},cmpB a b = 0 ↔ a = b := by
 intro a
 induction a with
 | nil => intro b; cases b <;> simp [cmpB]
 | cons x a ih =>
  intro b
  cases b with
  | nil => simp [cmpB]
  | cons y b =>
   simp only [cmpB]
   by_cases h1 : x < y
   ·have : x ≠ y := by rintro rfl; rw [u8_lt] at h1; omega
    simp [h1,this]
   ·by_cases h2 : y < x
    ·have : x ≠ y := by rintro rfl; rw [u8_lt] at h2; omega
     simp [h1,h2,this]
    ·have : x = y := by
      rw [u8_lt] at h1 h2
      exact UInt8.toNat_inj.1 (by omega)
     simp [h1,h2,this,ih]
theorem cmpStamp_lex : cmpStamp = lexI (fun a b => cmpI a.time b.time) (lexI (fun a b => cmpI a.office b.office) (fun a b => cmpI a.number b.number)) := by
 funext a b
 simp only [cmpStamp,orI,lexI]
 (repeat' split) <;> omega
theorem cmpStamp_ord : IsOrd cmpStamp := by
 rw [cmpStamp_lex]
 exact (cmpI_ord.on (fun s : Stamp => s.time)).lex ((cmpI_ord.on (fun s : Stamp => s.office)).lex (cmpI_ord.on (fun s : Stamp => s.number)))
theorem opOrd_lex : opOrd = lexI (fun a b => cmpI a.stamp.office b.stamp.office) (lexI (fun a b => cmpI a.stamp.number b.stamp.number) (lexI (fun a b => cmpI a.stamp.time b.stamp.time)
  (lexI (fun a b => cmpI a.kind b.kind) fun a b => cmpB (encode a).1 (encode b).1))) := by
 funext a b
 simp only [opOrd,orI,lexI]
 (repeat' split) <;> omega
theorem opOrd_ord : IsOrd opOrd := by
 rw [opOrd_lex]
 exact (cmpI_ord.on (fun s : Opr => s.stamp.office)).lex ((cmpI_ord.on (fun s : Opr => s.stamp.number)).lex ((cmpI_ord.on (fun s : Opr => s.stamp.time)).lex ((cmpI_ord.on (fun s : Opr => s.kind)).lex (cmpB_ord.on (fun o : Opr => (encode o).1)))))
def winOrd : Opr → Opr → Int := lexI (fun a b => cmpStamp a.stamp b.stamp) opOrd
theorem winOrd_ord : IsOrd winOrd := (cmpStamp_ord.on (fun o : Opr => o.stamp)).lex opOrd_ord
theorem wins_iff {a b : Opr} : wins a b = true ↔ 0 < winOrd a b := by
 simp only [wins,winOrd,lexI,Bool.or_eq_true,Bool.and_eq_true,decide_eq_true_eq]
 split <;> omega
theorem wins_self (a : Opr) : wins a a = false := by
 have h : ¬ wins a a = true := by rw [wins_iff,winOrd_ord.self]; omega
 simpa using h
theorem wins_asymm {a b : Opr} (h : wins a b = true) : wins b a = false := by
 have h2 : ¬ wins b a = true := by
  rw [wins_iff] at *
  have := winOrd_ord.anti a b
  omega
 simpa using h2
theorem winOrd_zero {a b : Opr} (h : winOrd a b = 0) : a.stamp = b.stamp ∧ a.kind = b.kind ∧ (encode a).1 = (encode b).1 := by
 simp only [winOrd,lexI] at h
 split at h
 ·rename_i h1; exact absurd h h1
 ·rename_i h1
  rw [cmpStamp_lex] at h1
  rw [opOrd_lex] at h
  simp only [lexI] at h h1
  obtain ⟨⟨t,f,n⟩,k,e,s⟩ := a
  obtain ⟨⟨t',f',n'⟩,k',e',s'⟩ := b
  simp only at h h1
  have ht : t = t' := cmpI_zero.1 (by split at h1 <;> omega)
  subst ht
  have z : ∀ x,cmpI x x = 0 := fun x => cmpI_zero.2 rfl
  simp only [z,ne_eq,not_true,if_false] at h h1
  have hf : f = f' := cmpI_zero.1 (by split at h1 <;> omega)
  subst hf
  simp only [z,not_true,if_false] at h h1
  have hn : n = n' := cmpI_zero.1 (by omega)
  subst hn
  simp only [z,not_true,if_false] at h
  split at h
  ·rename_i h2; exact absurd h h2
  ·rename_i h2
   exact ⟨rfl,cmpI_zero.1 (by simpa using h2),cmpB_zero.1 h⟩
theorem plainB_ne : ∀ c : UInt8,plainB c = true → c ≠ 92 ∧ c ≠ 60 ∧ c ≠ 123 := u8_all (by decide +kernel)
theorem esc_hex : ∀ c : UInt8,hexByte (hexDig (c.toNat / 16)) (hexDig (c.toNat % 16)) = c ∧ (hexOf (hexDig (c.toNat / 16))).2 = true ∧ (hexOf (hexDig (c.toNat % 16))).2 = true := u8_all (by decide +kernel)
theorem esc_ctl : ∀ c : UInt8,plainB c = false → c ≠ 10 → c ≠ 9 → ¬ (c = 92 ∨ c = 60 ∨ c = 123) → (c == 13 || classOf c == 1) = true := u8_all (by decide +kernel)
theorem esc_two (a d : UInt8) (r : List UInt8) : escapeOf (a :: d :: r) = if d = 92 ∨ d = 60 ∨ d = 123 then (d,2,true) else if d = 110 then (10,2,true) else if d = 116 then (9,2,true) else if d = 120 then
  (if r.length < 2 then (0,0,false) else (hexByte (r.getD 0 0) (r.getD 1 0),4,(hexOf (r.getD 0 0)).2 && (hexOf (r.getD 1 0)).2 && (hexByte (r.getD 0 0) (r.getD 1 0) == 13 || classOf (hexByte (r.getD 0 0) (r.getD 1 0)) == 1))) else (0,0,false) := by
 simp only [escapeOf,List.length_cons,List.getD_cons_zero,List.getD_cons_succ]
 rw [if_neg (by omega)]
 have e : (r.length + 1 + 1 < 4) = (r.length < 2) := by rw [eq_iff_iff]; omega
 simp only [e]
theorem elem_esc (d : UInt8) (r : List UInt8) : elementOf (92 :: d :: r) = (⟨1,[(escapeOf (92 :: d :: r)).1],0⟩,(escapeOf (92 :: d :: r)).2.1,(escapeOf (92 :: d :: r)).2.2) := by
 simp only [elementOf,List.getD_cons_zero,if_true]
theorem elem_char (c : UInt8) (rest : List UInt8) : elementOf (writB c ++ rest) = (⟨1,[c],0⟩,((writB c).length : Int),true) := by
 unfold writB
 split
 ·rename_i h
  have hn := plainB_ne c h
  simp [elementOf,hn,h]
 ·rename_i h
  have h : plainB c = false := by simpa using h
  split
  ·rename_i h1; subst h1
   simp only [List.cons_append,List.nil_append,elem_esc,esc_two]; rfl
  ·split
   ·rename_i h1 h2; subst h2
    simp only [List.cons_append,List.nil_append,elem_esc,esc_two]; rfl
   ·split
    ·rename_i h1 h2 h3
     simp only [List.cons_append,List.nil_append,elem_esc,esc_two,if_pos h3]; rfl
    ·rename_i h1 h2 h3
     have he := esc_hex c
     have hc := esc_ctl c h h1 h2 h3
     simp only [List.cons_append,List.nil_append,elem_esc,esc_two]
     rw [if_neg (by decide),if_neg (by decide),if_neg (by decide),if_pos (by decide),if_neg (by simp)]
     simp only [List.getD_cons_zero,List.getD_cons_succ,he.1,he.2.1,he.2.2,hc,Bool.and_true]
     rfl
theorem nameByte_ne : ∀ c : UInt8,nameByte c = true → c ≠ 62 ∧ c ≠ 125 ∧ c ≠ 58 ∧ c ≠ 47 ∧ c ≠ 32 ∧ contentBad c = false := u8_all (by decide +kernel)
theorem nameFirst : ∀ c : UInt8,(97 ≤ c.toNat ∧ c.toNat ≤ 122) → nameByte c = true := u8_all (by decide +kernel)
theorem content_ne : ∀ c : UInt8,contentBad c = false → c ≠ 62 ∧ c ≠ 125 ∧ c ≠ 60 ∧ c ≠ 123 := u8_all (by decide +kernel)
theorem digit_ne : ∀ c : UInt8,digitB c = true → c ≠ 62 ∧ c ≠ 58 ∧ c ≠ 47 ∧ contentBad c = false := u8_all (by decide +kernel)
theorem isName_all {s : List UInt8} (h : isName s = true) : ∀ c ∈ s,nameByte c = true := by
 cases s with
 | nil => simp [isName] at h
 | cons c r =>
  simp only [isName,Bool.and_eq_true,decide_eq_true_eq,List.all_eq_true] at h
  intro x hx
  rcases List.mem_cons.1 hx with rfl | hx
  ·exact nameFirst _ h.1.2
  ·exact h.2 x hx
theorem elem_slot (t rest : List UInt8) (h : isName t = true) : elementOf (123 :: (t ++ 125 :: rest)) = (⟨5,t,0⟩,(t.length : Int) + 2,true) := by
 have hi : Lib.indexByte (123 :: (t ++ 125 :: rest)) 125 = ((123 :: t : List UInt8).length : Int) := by
  have := indexByte_at (c := 125) (rest := rest) (pre := 123 :: t) (by
   intro hm
   rcases List.mem_cons.1 hm with hm | hm
   ·exact absurd hm (by decide)
   ·exact (nameByte_ne _ (isName_all h _ hm)).2.1 rfl)
  simpa using this
 have e : ((123 :: (t ++ 125 :: rest)).take (Lib.indexByte (123 :: (t ++ 125 :: rest)) 125).toNat).drop 1 = t := by
  rw [hi]; simp
 simp only [elementOf,List.getD_cons_zero,e,h]
 rw [if_neg (by decide),if_neg (by decide),if_pos (by decide),if_neg (by rw [hi]; simp; omega),hi]
 simp; omega
theorem cutAt_at {c : UInt8} {a b : List UInt8} (h : c ∉ a) : cutAt (a ++ c :: b) c = (a,b,true) := by
 simp only [cutAt,indexByte_at h]
 rw [if_pos (by omega)]
 simp
def d3 (n : Nat) : List UInt8 := if n < 10 then [UInt8.ofNat (48 + n)] else if n < 100 then [UInt8.ofNat (48 + n / 10),UInt8.ofNat (48 + n % 10)] else [UInt8.ofNat (48 + n / 100),UInt8.ofNat (48 + n / 10 % 10),UInt8.ofNat (48 + n % 10)]
theorem itoa_d3 (n : Nat) (h : n < 1000) : Lib.itoa (n : Int) = d3 n := by
 unfold Lib.itoa
 rw [if_neg (by omega)]
 simp only [Int.toNat_natCast,d3]
 by_cases h1 : n < 10
 ·rw [if_pos h1,Lib.decDigits_one h1]
 ·rw [if_neg h1]
  by_cases h2 : n < 100
  ·rw [if_pos h2,Lib.decDigits_two h1 h2]
  ·rw [if_neg h2,Lib.decDigits,dif_neg h1,Lib.decDigits_two (by omega) (by omega)]
   simp only [List.cons_append,List.nil_append]
   have e : n / 10 / 10 = n / 100 := by omega
   rw [e]
theorem d3_num : ∀ n : Fin 1000,1 ≤ n.val → numberOf (d3 n.val) = ((n.val : Int),true) ∧ (d3 n.val).all digitB = true ∧ (d3 n.val) ≠ [] := by decide +kernel
theorem itoa_num (n : Int) (h : 1 ≤ n ∧ n ≤ 999) : numberOf (Lib.itoa n) = (n,true) ∧ (∀ c ∈ Lib.itoa n,digitB c = true) ∧ Lib.itoa n ≠ [] := by
 obtain ⟨m,rfl⟩ : ∃ m : Nat,n = m := ⟨n.toNat,by omega⟩
 have := d3_num ⟨m,by omega⟩ (by show 1 ≤ m; omega)
 rw [itoa_d3 m (by omega)]
 exact ⟨this.1,fun c hc => List.all_eq_true.1 this.2.1 c hc,this.2.2⟩
theorem content_all {s : List UInt8} (h : isContent s = true) : (∀ c ∈ s,contentBad c = false) ∧ s ≠ [] ∧ (s.getD (s.length - 1) 0).toNat ≠ 47 := by
 simp only [isContent,contentEnds,Bool.and_eq_true,decide_eq_true_eq,List.all_eq_true,Bool.not_eq_true'] at h
 exact ⟨h.1.2,by intro e; simp [e] at h,h.1.1.2⟩
theorem elem_angle (t rest : List UInt8) (h : ∀ c ∈ t,c ≠ 62) : elementOf (60 :: (t ++ 62 :: rest)) = ((tagOf t).1,(t.length : Int) + 2,(tagOf t).2) := by
 have hi : Lib.indexByte (60 :: (t ++ 62 :: rest)) 62 = ((60 :: t : List UInt8).length : Int) := by
  have := indexByte_at (c := 62) (rest := rest) (pre := 60 :: t) (by
   intro hm
   rcases List.mem_cons.1 hm with hm | hm
   ·exact absurd hm (by decide)
   ·exact h _ hm rfl)
  simpa using this
 have e : ((60 :: (t ++ 62 :: rest)).take (Lib.indexByte (60 :: (t ++ 62 :: rest)) 62).toNat).drop 1 = t := by
  rw [hi]; simp
 simp only [elementOf,List.getD_cons_zero,e]
 rw [if_neg (by decide),if_pos (by decide),if_neg (by rw [hi]; simp; omega),hi]
 simp; omega
theorem hasPrefix_no {s : List UInt8} {c : UInt8} (h : s.getD 0 0 ≠ c) : hasPrefix s [c] = false := by
 cases s with
 | nil => simp [hasPrefix]
 | cons a s => simp only [List.getD_cons_zero] at h; simp [hasPrefix,h]
theorem hasSuffix_no {s : List UInt8} {c : UInt8} (h : s.getD (s.length - 1) 0 ≠ c) : hasSuffix s [c] = false := by
 simp only [hasSuffix,List.length_cons,List.length_nil,Nat.zero_add]
 by_cases hl : 1 ≤ s.length
 ·have hd : s.drop (s.length - 1) = [s.getD (s.length - 1) 0] := by
   rw [List.drop_eq_getElem_cons (by omega)]
   have e : s.length - 1 + 1 = s.length := by omega
   rw [e]; simp [List.getD_eq_getElem?_getD,show s.length - 1 < s.length by omega]
  rw [hd]; simpa using fun _ => h
 ·simp; omega
theorem hasSuffix_yes (s : List UInt8) (c : UInt8) : hasSuffix (s ++ [c]) [c] = true := by
 simp [hasSuffix]
theorem itoa_first (n : Int) (h : 1 ≤ n ∧ n ≤ 999) (t : List UInt8) (c : UInt8) (hc : digitB c = false) : (Lib.itoa n ++ t).getD 0 0 ≠ c := by
 obtain ⟨_,h2,h3⟩ := itoa_num n h
 cases hd : Lib.itoa n with
 | nil => exact absurd hd h3
 | cons a s =>
  simp only [List.cons_append,List.getD_cons_zero]
  intro e
  have := h2 a (by rw [hd]; simp)
  rw [e,hc] at this
  simp at this
theorem elem_open (id : Int) (t rest : List UInt8) (hid : 1 ≤ id ∧ id ≤ 999) (h : isContent t = true) : elementOf (60 :: (Lib.itoa id ++ 58 :: (t ++ 62 :: rest))) = (⟨2,t,id⟩,((Lib.itoa id).length : Int) + t.length + 3,true) := by
 obtain ⟨h1,h2,h3⟩ := itoa_num id hid
 obtain ⟨c1,c2,c3⟩ := content_all h
 have := elem_angle (Lib.itoa id ++ 58 :: t) rest (by
  intro c hc
  rcases List.mem_append.1 hc with hc | hc
  ·exact (digit_ne c (h2 c hc)).1
  ·rcases List.mem_cons.1 hc with rfl | hc
   ·decide
   ·exact (content_ne c (c1 c hc)).1)
 simp only [List.append_assoc,List.cons_append] at this
 rw [this]
 have hp : hasPrefix (Lib.itoa id ++ 58 :: t) [47] = false := hasPrefix_no (itoa_first id hid _ 47 (by decide))
 have hc : cutAt (Lib.itoa id ++ 58 :: t) 58 = (Lib.itoa id,t,true) := cutAt_at fun hm => (digit_ne _ (h2 _ hm)).2.1 rfl
 have hs : hasSuffix t [47] = false := hasSuffix_no fun e => c3 (by rw [e]; rfl)
 simp [tagOf,hp,hc,hs,h1,h]
 omega
theorem elem_empty (id : Int) (t rest : List UInt8) (hid : 1 ≤ id ∧ id ≤ 999) (h : isContent t = true) : elementOf (60 :: (Lib.itoa id ++ 58 :: (t ++ 47 :: 62 :: rest))) = (⟨4,t,id⟩,((Lib.itoa id).length : Int) + t.length + 4,true) := by
 obtain ⟨h1,h2,h3⟩ := itoa_num id hid
 obtain ⟨c1,c2,c3⟩ := content_all h
 have := elem_angle (Lib.itoa id ++ 58 :: (t ++ [47])) rest (by
  intro c hc
  rcases List.mem_append.1 hc with hc | hc
  ·exact (digit_ne c (h2 c hc)).1
  ·rcases List.mem_cons.1 hc with rfl | hc
   ·decide
   ·rcases List.mem_append.1 hc with hc | hc
    ·exact (content_ne c (c1 c hc)).1
    ·simp only [List.mem_cons,List.not_mem_nil,or_false] at hc; subst hc; decide)
 simp only [List.append_assoc,List.cons_append,List.nil_append] at this
 rw [this]
 have hp : hasPrefix (Lib.itoa id ++ 58 :: (t ++ [47])) [47] = false := hasPrefix_no (itoa_first id hid _ 47 (by decide))
 have hc : cutAt (Lib.itoa id ++ 58 :: (t ++ [47])) 58 = (Lib.itoa id,t ++ [47],true) := cutAt_at fun hm => (digit_ne _ (h2 _ hm)).2.1 rfl
 have hs : hasSuffix (t ++ [47]) [47] = true := hasSuffix_yes t 47
 simp [tagOf,hp,hc,hs,h1,h]
 omega
theorem elem_close (id : Int) (t rest : List UInt8) (hid : 1 ≤ id ∧ id ≤ 999) (h : isName t = true) : elementOf (60 :: 47 :: (Lib.itoa id ++ 58 :: (t ++ 62 :: rest))) = (⟨3,t,id⟩,((Lib.itoa id).length : Int) + t.length + 4,true) := by
 obtain ⟨h1,h2,h3⟩ := itoa_num id hid
 have := elem_angle (47 :: (Lib.itoa id ++ 58 :: t)) rest (by
  intro c hc
  rcases List.mem_cons.1 hc with rfl | hc
  ·decide
  rcases List.mem_append.1 hc with hc | hc
  ·exact (digit_ne c (h2 c hc)).1
  ·rcases List.mem_cons.1 hc with rfl | hc
   ·decide
   ·exact (nameByte_ne c (isName_all h c hc)).1)
 simp only [List.append_assoc,List.cons_append] at this
 rw [this]
 have hp : hasPrefix (47 :: (Lib.itoa id ++ 58 :: t)) [47] = true := by simp [hasPrefix]
 have hc : cutAt (Lib.itoa id ++ 58 :: t) 58 = (Lib.itoa id,t,true) := cutAt_at fun hm => (digit_ne _ (h2 _ hm)).2.1 rfl
 simp [tagOf,hp,hc,h1,h]
 omega
def wid (x : It) : Nat := if x.kind = 1 then x.text.length else 1
def total (f : List It) : Nat := (f.map wid).sum
def tagPut (m : List (Int × It)) (x : It) : List (Int × It) := if tagged x then updA m x.id x else m
def tagMap (f : List It) : List (Int × It) := f.foldl tagPut []
def rdOf (f : List It) (t : List UInt8) : Rd := ⟨f,t,total f + t.length,tagMap f⟩
def closed (f : List It) (t : List UInt8) : List It := if t = [] then f else f ++ [⟨1,t,0⟩]
theorem total_append (a b : List It) : total (a ++ b) = total a + total b := by simp [total]
theorem total_one (x : It) : total [x] = wid x := by simp [total]
theorem tagMap_snoc (f : List It) (x : It) : tagMap (f ++ [x]) = tagPut (tagMap f) x := by simp [tagMap]
theorem tagPut_text {m : List (Int × It)} {t : List UInt8} {i : Int} : tagPut m ⟨1,t,i⟩ = m := by simp [tagPut,tagged]
theorem tagMap_closed (f : List It) (t : List UInt8) : tagMap (closed f t) = tagMap f := by
 simp only [closed]
 split
 ·rfl
 ·rw [tagMap_snoc,tagPut_text]
theorem total_closed (f : List It) (t : List UInt8) : total (closed f t) = total f + t.length := by
 simp only [closed]
 split
 ·rename_i h; simp [h]
 ·rw [total_append,total_one]; simp [wid]
theorem closed_len (f : List It) (t : List UInt8) : (closed f t).length = f.length + (if 0 < t.length then 1 else 0) := by
 simp only [closed]
 split
 ·rename_i h; simp [h]
 ·rename_i h
  have : 0 < t.length := List.length_pos_iff.2 h
  simp [this]
theorem rdFlush_of (f : List It) (t : List UInt8) : (rdFlush (rdOf f t)).f = closed f t := by
 by_cases h : t = []
 ·subst h; rfl
 ·have h1 : 0 < t.length := List.length_pos_iff.2 h
  have e : rdFlush (rdOf f t) = ⟨f ++ [⟨1,t,0⟩],[],total f + t.length,tagMap f⟩ := if_pos h1
  rw [e,closed,if_neg h]
theorem rev_ind {α : Type} {p : List α → Prop} (h0 : p []) (h1 : ∀ l x,p l → p (l ++ [x])) (l : List α) : p l := by
 have : ∀ l : List α,p l.reverse := by
  intro l
  induction l with
  | nil => exact h0
  | cons x l ih => rw [List.reverse_cons]; exact h1 _ _ ih
 have := this l.reverse
 rwa [List.reverse_reverse] at this
def tooMany (f : List It) (t : List UInt8) (x : It) : Prop := 512 < f.length + (if 0 < t.length then 1 else 0) + (if x.kind ≠ 1 ∨ t.length = 0 then 1 else 0) ∨ 1024 < total f + t.length + 1
instance (f : List It) (t : List UInt8) (x : It) : Decidable (tooMany f t x) := by unfold tooMany; infer_instance
theorem rdAdd_char (f : List It) (t : List UInt8) (c : UInt8) : rdAdd (rdOf f t) ⟨1,[c],0⟩ = if tooMany f t ⟨1,[c],0⟩ then (3,rdOf f t) else (0,rdOf f (t ++ [c])) := by
 simp only [rdAdd,tagged,addItems,tooMany,rdOf]
 simp only [bne_self_eq_false,Bool.false_and,Bool.false_eq_true,if_false,List.length_append,List.length_cons,List.length_nil,if_true]
 rfl
theorem rdAdd_item (f : List It) (t : List UInt8) (x : It) (hx : x.kind ≠ 1) : rdAdd (rdOf f t) x =
  if tagged x && clash (rdOf f t) x then (7,rdOf f t) else if tooMany f t x then (3,rdOf f t) else (0,rdOf (closed f t ++ [x]) []) := by
 simp only [rdAdd,addItems,tooMany,hx,if_false]
 have e : rdPut (rdFlush (rdTag (rdOf f t) x)) x = rdOf (closed f t ++ [x]) [] := by
  have hw : wid x = 1 := by simp [wid,hx]
  simp only [rdOf,total_append,total_one,total_closed,tagMap_snoc,tagMap_closed,hw,List.length_nil,Nat.add_zero]
  by_cases h : t = []
  ·subst h; rfl
  ·have h1 : 0 < t.length := List.length_pos_iff.2 h
   have e : rdFlush (rdTag ⟨f,t,total f + t.length,tagMap f⟩ x) = ⟨f ++ [⟨1,t,0⟩],[],total f + t.length + 1,tagPut (tagMap f) x⟩ := if_pos h1
   rw [e,closed,if_neg h]
   rfl
 rw [e]
 rfl
theorem itemFine_any {x : It} {p : Option It} (h : x.kind ≠ 1) : itemFine p x = itemFine none x := by simp only [itemFine,h,if_false]
theorem isTag_tagged {x : It} (h : itemFine none x = true) : isTag x = tagged x := by
 simp only [itemFine] at h
 by_cases k1 : x.kind = 1
 ·simp [isTag,tagged,k1]
 ·by_cases k5 : x.kind = 5
  ·simp [isTag,tagged,k5]
  ·by_cases k2 : x.kind = 2 ∨ x.kind = 4
   ·rcases k2 with k2 | k2 <;> simp [isTag,tagged,k2]
   ·by_cases k3 : x.kind = 3
    ·simp [isTag,tagged,k3]
    ·simp [k1,k5,k2,k3] at h
theorem itemsErr_snoc : ∀ (f pre : List It) (x : It),itemsErr pre (f ++ [x]) = 0 ↔ itemsErr pre f = 0 ∧ itemFine (pre ++ f).getLast? x = true ∧ (isTag x && !fits (pre ++ f) x) = false := by
 intro f
 induction f with
 | nil =>
  intro pre x
  simp only [List.nil_append,List.append_nil,itemsErr]
  by_cases h1 : itemFine pre.getLast? x = false
  ·simp [h1]
  ·rw [if_neg h1]
   have h1 : itemFine pre.getLast? x = true := by simpa using h1
   by_cases h2 : (isTag x && !fits pre x) = true
   ·simp [h2]
   ·rw [if_neg h2]
    have h2 : (isTag x && !fits pre x) = false := by simpa using h2
    simp [h1,h2]
 | cons y f ih =>
  intro pre x
  simp only [List.cons_append,itemsErr]
  by_cases h1 : itemFine pre.getLast? y = false
  ·simp [h1]
  ·rw [if_neg h1,if_neg h1]
   by_cases h2 : (isTag y && !fits pre y) = true
   ·simp [h2]
   ·rw [if_neg h2,if_neg h2,ih]
    simp
theorem itemsErr_fine : ∀ (f pre : List It),itemsErr pre f = 0 → ∀ y ∈ f,itemFine none y = true := by
 intro f
 induction f with
 | nil => simp
 | cons x f ih =>
  intro pre h y hy
  simp only [itemsErr] at h
  split at h
  ·simp at h
  ·rename_i h1
   split at h
   ·simp at h
   ·rcases List.mem_cons.1 hy with rfl | hy
    ·have h1 : itemFine pre.getLast? y = true := by simpa using h1
     by_cases k1 : y.kind = 1
     ·simp only [itemFine,k1,if_true,Bool.and_eq_true] at h1 ⊢
      exact ⟨h1.1,trivial⟩
     ·rw [← itemFine_any (p := pre.getLast?) k1]; exact h1
    ·exact ih _ h y hy
theorem clash_fits {f : List It} {t : List UInt8} {x : It} (hf : itemsErr [] f = 0) (hx : itemFine none x = true) : (tagged x && clash (rdOf f t) x) = (isTag x && !fits (closed f t) x) := by
 rw [isTag_tagged hx]
 by_cases hxt : tagged x = true
 ·rw [hxt,Bool.true_and,Bool.true_and]
  have hxi : isTag x = true := by rw [isTag_tagged hx]; exact hxt
  have hfc : fits (closed f t) x = fits f x := by
   simp only [closed]
   split
   ·rfl
   ·simp [fits,fitsBad,isTag]
  rw [hfc]
  simp only [clash,rdOf]
  have key : ∀ f : List It,itemsErr [] f = 0 → (match getA x.id (tagMap f) with | some b => x.kind != 3 || b.kind != 2 || tagName b.text != x.text | none => false) = !fits f x := by
   intro f
   induction f using rev_ind with
   | h0 => intro _; simp [tagMap,getA_nil,fits]
   | h1 f y ih =>
    intro h
    rw [itemsErr_snoc] at h
    obtain ⟨h1,h2,h3⟩ := h
    have ih := ih h1
    simp only [List.nil_append] at h2 h3
    have hy : itemFine none y = true := by
     by_cases k1 : y.kind = 1
     ·simp only [itemFine,k1,if_true,Bool.and_eq_true] at h2 ⊢
      exact ⟨h2.1,trivial⟩
     ·rw [← itemFine_any (p := f.getLast?) k1]; exact h2
    have e : fits (f ++ [y]) x = (fits f x && !fitsBad x y) := by simp [fits]
    rw [tagMap_snoc,e]
    simp only [tagPut]
    by_cases hyt : tagged y = true
    ·rw [if_pos hyt,getA_upd]
     have hyi : isTag y = true := by rw [isTag_tagged hy]; exact hyt
     by_cases hi : x.id = y.id
     ·rw [if_pos hi]
      rw [hyi,Bool.true_and,Bool.not_eq_false'] at h3
      have eb : fitsBad x y = (x.kind != 3 || y.kind != 2 || !(tagName y.text == x.text)) := by simp [fitsBad,hyi,hi]
      rw [eb]
      by_cases hb : (x.kind != 3 || y.kind != 2 || !(tagName y.text == x.text)) = true
      ·simp only [bne] at hb ⊢
       rw [hb]; simp
      ·have hb : (x.kind != 3 || y.kind != 2 || !(tagName y.text == x.text)) = false := by simpa using hb
       have hall : fits f x = true := by
        simp only [fits,List.all_eq_true,Bool.not_eq_true'] at h3 ⊢
        intro z hz
        have hz3 := h3 z hz
        simp only [Bool.or_eq_false_iff,bne_eq_false_iff_eq] at hb
        simp only [fitsBad] at hz3 ⊢
        have : (y.kind != 3) = true := by rw [hb.1.2]; decide
        rw [this,Bool.true_or,Bool.true_or,Bool.and_true] at hz3
        rw [hi,hz3,Bool.false_and]
       rw [hall]
       simp only [bne] at hb ⊢
       rw [hb]; simp
     ·rw [if_neg hi,ih]
      have eb : fitsBad x y = false := by
       have : (y.id != x.id) = true := by simpa using fun e => hi e.symm
       simp [fitsBad,this]
      rw [eb]; simp
    ·rw [if_neg hyt,ih]
     have hyi : isTag y = false := by rw [isTag_tagged hy]; simpa using hyt
     have eb : fitsBad x y = false := by simp [fitsBad,hyi]
     rw [eb]; simp
  exact key f hf
 ·have h0 : tagged x = false := by simpa using hxt
  simp [h0]
theorem lengthFrom_total : ∀ (l : List It) (a : Nat),a + total l < 2 ^ 63 → lengthFrom (a : Int) l = ((a + total l : Nat) : Int) := by
 intro l
 induction l with
 | nil => intro a _; simp [lengthFrom,total]
 | cons x l ih =>
  intro a h
  have ht : total (x :: l) = wid x + total l := by simp [total]
  rw [ht] at h ⊢
  have hw : width x = (wid x : Int) := by simp only [width,wid]; split <;> rfl
  have : lengthFrom (a : Int) (x :: l) = lengthFrom ((a + wid x : Nat) : Int) l := by
   simp only [lengthFrom,List.foldl_cons,hw]
   rw [IntWalk.i64_in _ (by omega)]
   rfl
  rw [this,ih (a + wid x) (by omega)]
  congr 1; omega
theorem wid_le (x : It) : wid x ≤ x.text.length + 1 := by simp only [wid]; split <;> omega
theorem total_le (f : List It) : total f ≤ textLen f + f.length := by
 induction f with
 | nil => simp [total,textLen]
 | cons x f ih =>
  have ht : total (x :: f) = wid x + total f := by simp [total]
  have := wid_le x
  simp only [textLen,List.length_cons,ht]; omega
theorem validItems_iff {f : List It} (h : total f < 2 ^ 63) : validItems f = 0 ↔ f.length ≤ 512 ∧ total f ≤ 1024 ∧ itemsErr [] f = 0 := by
 have e := lengthFrom_total f 0 (by omega)
 simp only [Nat.zero_add,Int.natCast_zero] at e
 simp only [validItems]
 rw [show lengthFrom 0 f = (total f : Int) from e]
 split
 ·constructor
  ·intro h; simp at h
  ·rintro ⟨h1,h2,_⟩; omega
 ·constructor
  ·intro h; exact ⟨by omega,by omega,h⟩
  ·intro h; exact h.2.2
theorem itemsErr_append : ∀ (a pre b : List It),itemsErr pre (a ++ b) = 0 ↔ itemsErr pre a = 0 ∧ itemsErr (pre ++ a) b = 0 := by
 intro a
 induction a with
 | nil => intro pre b; simp [itemsErr]
 | cons x a ih =>
  intro pre b
  simp only [List.cons_append,itemsErr]
  by_cases h1 : itemFine pre.getLast? x = false
  ·simp [h1]
  ·rw [if_neg h1,if_neg h1]
   by_cases h2 : (isTag x && !fits pre x) = true
   ·simp [h2]
   ·rw [if_neg h2,if_neg h2,ih]; simp
theorem itemsErr_cons {pre : List It} {x : It} {b : List It} : itemsErr pre (x :: b) = 0 ↔ itemFine pre.getLast? x = true ∧ (isTag x && !fits pre x) = false ∧ itemsErr (pre ++ [x]) b = 0 := by
 simp only [itemsErr]
 by_cases h1 : itemFine pre.getLast? x = false
 ·simp [h1]
 ·rw [if_neg h1]
  have h1 : itemFine pre.getLast? x = true := by simpa using h1
  by_cases h2 : (isTag x && !fits pre x) = true
  ·simp [h2]
  ·rw [if_neg h2]
   have h2 : (isTag x && !fits pre x) = false := by simpa using h2
   simp [h1,h2]
theorem parse_step {w tail : List UInt8} (hw : w ≠ []) {x : It} {s s' : Rd} (he : elementOf (w ++ tail) = (x,(w.length : Int),true)) (ha : rdAdd s x = (0,s')) (n : Nat) (at' : Int) :
  parseN (n + 1) s (w ++ tail) at' = parseN n s' tail (at' + w.length) := by
 cases w with
 | nil => exact absurd rfl hw
 | cons a w =>
  simp only [List.cons_append] at he
  simp only [List.cons_append,parseN,he,ha]
  simp
theorem writB_ne (c : UInt8) : writB c ≠ [] := by
 simp only [writB]
 (repeat' split) <;> simp
theorem parse_chars : ∀ (t : List UInt8) (f : List It) (u rest : List UInt8) (n : Nat) (at' : Int),f.length + 1 ≤ 512 → total f + u.length + t.length ≤ 1024 → (t.flatMap writB ++ rest).length < n →
  ∃ m at2,rest.length < m ∧ parseN n (rdOf f u) (t.flatMap writB ++ rest) at' = parseN m (rdOf f (u ++ t)) rest at2 := by
 intro t
 induction t with
 | nil => intro f u rest n at' _ _ h; exact ⟨n,at',by simpa using h,by simp⟩
 | cons c t ih =>
  intro f u rest n at' h1 h2 h3
  obtain ⟨n,rfl⟩ : ∃ k,n = k + 1 := ⟨n - 1,by omega⟩
  simp only [List.flatMap_cons,List.append_assoc,List.length_append,List.length_cons] at h2 h3 ⊢
  have hl : 0 < (writB c).length := List.length_pos_iff.2 (writB_ne c)
  have hadd : rdAdd (rdOf f u) ⟨1,[c],0⟩ = (0,rdOf f (u ++ [c])) := by
   rw [rdAdd_char,if_neg]
   simp only [tooMany,ne_eq,not_true,false_or]
   by_cases h0 : u.length = 0
   ·rw [if_neg (by omega),if_pos h0]; omega
   ·rw [if_pos (by omega),if_neg h0]; omega
  rw [parse_step (writB_ne c) (elem_char c _) hadd]
  obtain ⟨m,at2,h4,h5⟩ := ih f (u ++ [c]) rest n (at' + (writB c).length) h1 (by simp; omega) (by rw [List.length_append]; omega)
  exact ⟨m,at2,h4,by rw [h5]; simp⟩
theorem elem_item {x : It} (hk : x.kind ≠ 1) (h : itemFine none x = true) (rest : List UInt8) : elementOf (itemText x ++ rest) = (x,((itemText x).length : Int),true) := by
 obtain ⟨k,t,i⟩ := x
 simp only at hk
 simp only [itemFine,hk,if_false] at h
 by_cases k5 : k = 5
 ·subst k5
  simp only [if_true,Bool.and_eq_true,beq_iff_eq] at h
  obtain ⟨h,rfl⟩ := h
  simp only [itemText]
  rw [if_neg (by decide),if_neg (by decide),if_neg (by decide),if_neg (by decide),if_pos (by decide)]
  simp only [List.cons_append,List.append_assoc,List.nil_append]
  rw [elem_slot t rest h]; simp; omega
 ·rw [if_neg k5] at h
  by_cases k2 : k = 2 ∨ k = 4
  ·rw [if_pos k2] at h
   simp only [Bool.and_eq_true,decide_eq_true_eq] at h
   rcases k2 with rfl | rfl
   ·simp only [itemText]
    rw [if_neg (by decide),if_pos (by decide)]
    simp only [List.cons_append,List.append_assoc,List.nil_append]
    rw [elem_open i t rest ⟨h.1.2,h.2⟩ h.1.1]; simp; omega
   ·simp only [itemText]
    rw [if_neg (by decide),if_neg (by decide),if_neg (by decide),if_pos (by decide)]
    simp only [List.cons_append,List.append_assoc,List.nil_append]
    rw [elem_empty i t rest ⟨h.1.2,h.2⟩ h.1.1]; simp; omega
  ·rw [if_neg k2] at h
   by_cases k3 : k = 3
   ·subst k3
    simp only [if_true,Bool.and_eq_true,decide_eq_true_eq] at h
    simp only [itemText]
    rw [if_neg (by decide),if_neg (by decide),if_pos (by decide)]
    simp only [List.cons_append,List.append_assoc,List.nil_append]
    rw [elem_close i t rest ⟨h.1.2,h.2⟩ h.1.1]; simp; omega
   ·simp [k3] at h
theorem closed_nil (f : List It) : closed f [] = f := by simp [closed]
theorem parse_fmt : ∀ (rest f : List It) (t : List UInt8) (n : Nat) (at' : Int),itemsErr [] (closed f t ++ rest) = 0 → (closed f t ++ rest).length ≤ 512 → total (closed f t ++ rest) ≤ 1024 →
  (rest.flatMap itemText).length < n → parseN n (rdOf f t) (rest.flatMap itemText) at' = (closed f t ++ rest,0,0) := by
 intro rest
 induction rest with
 | nil =>
  intro f t n at' _ _ _ h
  obtain ⟨n,rfl⟩ : ∃ k,n = k + 1 := ⟨n - 1,by omega⟩
  simp only [List.flatMap_nil,parseN,rdFlush_of,List.append_nil]
 | cons x rest ih =>
  intro f t n at' h1 h2 h3 h4
  have h1' := h1
  rw [itemsErr_append,itemsErr_cons] at h1
  obtain ⟨e1,e2,e3,e4⟩ := h1
  simp only [List.nil_append] at e2 e3 e4
  simp only [List.flatMap_cons,List.length_append,List.length_cons,total_append] at h2 h3 h4 ⊢
  have htx : total (x :: rest) = wid x + total rest := by simp [total]
  by_cases hk : x.kind = 1
  ·
   have hx : x = ⟨1,x.text,0⟩ ∧ x.text ≠ [] ∧ t = [] := by
    obtain ⟨k,u,i⟩ := x
    simp only at hk; subst hk
    simp only [itemFine,if_true,Bool.and_eq_true,beq_iff_eq,Bool.not_eq_true',beq_eq_false_iff_ne] at e2
    obtain ⟨⟨e5,e6⟩,e7⟩ := e2
    refine ⟨by rw [e6],e5,?_⟩
    by_cases ht : t = []
    ·exact ht
    ·simp [closed,ht] at e7
   obtain ⟨hx1,hx2,rfl⟩ := hx
   have hw : wid x = x.text.length := by simp [wid,hk]
   have hit : itemText x = x.text.flatMap writB := by simp [itemText,hk]
   rw [closed_nil] at h2 h3 h1' ⊢
   rw [hit] at h4 ⊢
   obtain ⟨m,at2,h5,h6⟩ := parse_chars x.text f [] (rest.flatMap itemText) n at' (by omega) (by simp only [List.length_nil]; omega) (by rw [List.length_append]; omega)
   have hcl : closed f x.text = f ++ [x] := by simp only [closed,if_neg hx2]; rw [← hx1]
   rw [h6,List.nil_append,ih f x.text m at2 (by rw [hcl]; simpa using h1') (by rw [hcl]; simp; omega) (by rw [hcl,total_append,total_append,total_one]; omega) h5,hcl]
   simp
  ·have hw : wid x = 1 := by simp [wid,hk]
   have hfine : itemFine none x = true := by rw [← itemFine_any (p := (closed f t).getLast?) hk]; exact e2
   obtain ⟨n,rfl⟩ : ∃ k,n = k + 1 := ⟨n - 1,by omega⟩
   have hne : itemText x ≠ [] := by
    intro e
    have := elem_item hk hfine []
    rw [e] at this
    have h0 : (elementOf ([] ++ [])).2.1 = 1 := by decide
    rw [this] at h0
    simp at h0
   have hadd : rdAdd (rdOf f t) x = (0,rdOf (closed f t ++ [x]) []) := by
    rw [rdAdd_item _ _ _ hk,clash_fits (by
     have := e1
     simp only [closed] at this
     split at this
     ·exact this
     ·rw [itemsErr_snoc] at this; exact this.1) hfine,e3,if_neg (by simp),if_neg]
    simp only [tooMany]
    rw [closed_len] at h2
    rw [total_closed] at h3
    simp only [hk,ne_eq,not_false_eq_true,true_or,if_true]
    omega
   rw [parse_step hne (elem_item hk hfine _) hadd]
   have hl : 0 < (itemText x).length := List.length_pos_iff.2 hne
   have := ih (closed f t ++ [x]) [] n (at' + (itemText x).length) (by rw [closed_nil]; simpa using h1') (by rw [closed_nil]; simp; omega) (by rw [closed_nil,total_append,total_append,total_one]; omega) (by omega)
   rw [this,closed_nil]
   simp
theorem parse_format {f : List It} (hs : total f < 2 ^ 63) (h : validItems f = 0) : parse (format f).1 = (f,0,0) := by
 have h' := (validItems_iff hs).1 h
 have e : (format f).1 = f.flatMap itemText := by simp [format,h]
 have := parse_fmt f [] [] ((format f).1.length + 1) 0 (by rw [closed_nil]; exact h'.2.2) (by rw [closed_nil]; exact h'.1) (by rw [closed_nil]; exact h'.2.1) (by rw [e]; omega)
 rw [closed_nil] at this
 simp only [parse]
 rw [e] at this ⊢
 exact this
theorem hexDig_of : ∀ p : UInt8,(hexOf p).2 = true → hexDig (hexOf p).1.toNat = p := u8_all (by decide +kernel)
theorem ctl_writ : ∀ b : UInt8,(b == 13 || classOf b == 1) = true → writB b = [92,120,hexDig (b.toNat / 16),hexDig (b.toNat % 16)] := u8_all (by decide +kernel)
theorem hexByte_parts (p q : UInt8) : (hexByte p q).toNat / 16 = (hexOf p).1.toNat ∧ (hexByte p q).toNat % 16 = (hexOf q).1.toNat := by
 have h1 := hexOf_lt p
 have h2 := hexOf_lt q
 have : (hexByte p q).toNat = 16 * (hexOf p).1.toNat + (hexOf q).1.toNat := by
  simp only [hexByte,UInt8.toNat_ofNat']
  omega
 omega
theorem digit_fin : ∀ c : UInt8,digitB c = true → ∃ i : Fin 10,c = UInt8.ofNat (48 + i.val) ∧ ((c.toNat : Int) - 48) = i.val := by
 intro c h
 refine ⟨⟨c.toNat - 48,by simp [digitB] at h; omega⟩,?_,?_⟩
 ·simp only [digitB,Bool.and_eq_true,decide_eq_true_eq] at h
  have : 48 + (c.toNat - 48) = c.toNat := by omega
  simp [this]
 ·simp only [digitB,Bool.and_eq_true,decide_eq_true_eq] at h
  simp only; omega
theorem d3_inv1 : ∀ i : Fin 10,i.val ≠ 0 → d3 i.val = [UInt8.ofNat (48 + i.val)] := by decide +kernel
theorem d3_inv2 : ∀ i j : Fin 10,i.val ≠ 0 → d3 (10 * i.val + j.val) = [UInt8.ofNat (48 + i.val),UInt8.ofNat (48 + j.val)] := by decide +kernel
theorem d3_inv3 : ∀ i j k : Fin 10,i.val ≠ 0 → d3 (100 * i.val + 10 * j.val + k.val) = [UInt8.ofNat (48 + i.val),UInt8.ofNat (48 + j.val),UInt8.ofNat (48 + k.val)] := by decide +kernel
theorem numberOf_inv {a : List UInt8} (h : (numberOf a).2 = true) : a = Lib.itoa (numberOf a).1 ∧ 1 ≤ (numberOf a).1 ∧ (numberOf a).1 ≤ 999 := by
 simp only [numberOf] at h ⊢
 by_cases h1 : a.length < 1 ∨ 3 < a.length ∨ a.getD 0 0 = 48
 ·rw [if_pos h1] at h; simp at h
 ·rw [if_neg h1] at h ⊢
  by_cases h2 : a.all digitB = true
  ·rw [if_pos h2]
   match a,h1,h2 with
   | [x],h1,h2 =>
    simp only [List.all_cons,List.all_nil,Bool.and_true] at h2
    obtain ⟨i,hi,hv⟩ := digit_fin x h2
    have hz : i.val ≠ 0 := by
     intro e
     apply h1; right; right
     rw [List.getD_cons_zero,hi,e]; rfl
    have e : decFrom 0 [x] = (i.val : Int) := by simp [decFrom]; omega
    simp only [e]
    rw [itoa_d3 _ (by omega),d3_inv1 i hz,← hi]
    exact ⟨rfl,by omega,by omega⟩
   | [x,y],h1,h2 =>
    simp only [List.all_cons,List.all_nil,Bool.and_true,Bool.and_eq_true] at h2
    obtain ⟨i,hi,hv⟩ := digit_fin x h2.1
    obtain ⟨j,hj,hw⟩ := digit_fin y h2.2
    have hz : i.val ≠ 0 := by
     intro e
     apply h1; right; right
     rw [List.getD_cons_zero,hi,e]; rfl
    have e : decFrom 0 [x,y] = ((10 * i.val + j.val : Nat) : Int) := by simp [decFrom]; omega
    simp only [e]
    rw [itoa_d3 _ (by omega),d3_inv2 i j hz,← hi,← hj]
    exact ⟨rfl,by omega,by omega⟩
   | [x,y,z],h1,h2 =>
    simp only [List.all_cons,List.all_nil,Bool.and_true,Bool.and_eq_true] at h2
    obtain ⟨i,hi,hv⟩ := digit_fin x h2.1
    obtain ⟨j,hj,hw⟩ := digit_fin y h2.2.1
    obtain ⟨k,hk,hu⟩ := digit_fin z h2.2.2
    have hz : i.val ≠ 0 := by
     intro e
     apply h1; right; right
     rw [List.getD_cons_zero,hi,e]; rfl
    have e : decFrom 0 [x,y,z] = ((100 * i.val + 10 * j.val + k.val : Nat) : Int) := by simp [decFrom]; omega
    simp only [e]
    rw [itoa_d3 _ (by omega),d3_inv3 i j k hz,← hi,← hj,← hk]
    exact ⟨rfl,by omega,by omega⟩
   | [],h1,_ => simp at h1
   | _ :: _ :: _ :: _ :: _,h1,_ => simp at h1
  ·rw [if_neg h2] at h; simp at h
theorem cutAt_inv {s : List UInt8} {c : UInt8} (h : (cutAt s c).2.2 = true) : s = (cutAt s c).1 ++ c :: (cutAt s c).2.1 := by
 simp only [cutAt] at h ⊢
 by_cases h0 : 0 ≤ Lib.indexByte s c
 ·rw [if_pos h0]
  have key : ∀ s : List UInt8,0 ≤ Lib.indexByte s c → s = s.take (Lib.indexByte s c).toNat ++ c :: s.drop ((Lib.indexByte s c).toNat + 1) := by
   intro s
   induction s with
   | nil => intro h; simp [Lib.indexByte] at h
   | cons a s ih =>
    intro h
    have hl := indexByte_low c s
    by_cases ha : a = c
    ·subst ha; simp [Lib.indexByte]
    ·have ha2 : (a == c) = false := by simpa using ha
     simp only [Lib.indexByte,ha2,Bool.false_eq_true,if_false] at h ⊢
     by_cases h1 : (Lib.indexByte s c == -1) = true
     ·rw [if_pos h1] at h; omega
     ·rw [if_neg h1] at h ⊢
      have h2 : Lib.indexByte s c ≠ -1 := by simpa using h1
      have h3 : (Lib.indexByte s c + 1).toNat = (Lib.indexByte s c).toNat + 1 := by omega
      rw [h3]
      simp only [List.take_succ_cons,List.drop_succ_cons,List.cons_append]
      rw [← ih (by omega)]
  exact key s h0
 ·rw [if_neg h0] at h; simp at h
theorem hasSuffix_inv {s : List UInt8} {c : UInt8} (h : hasSuffix s [c] = true) : s = s.take (s.length - 1) ++ [c] := by
 simp only [hasSuffix,Bool.and_eq_true,decide_eq_true_eq,beq_iff_eq,List.length_cons,List.length_nil,Nat.zero_add] at h
 rw [← h.2,List.take_append_drop]
theorem hasPrefix_inv {s : List UInt8} {c : UInt8} (h : hasPrefix s [c] = true) : s = c :: s.drop 1 := by
 simp only [hasPrefix,Bool.and_eq_true,decide_eq_true_eq,beq_iff_eq,List.length_cons,List.length_nil,Nat.zero_add] at h
 cases s with
 | nil => simp at h
 | cons a s => simp at h; simp [h]
theorem tagOf_inv {t : List UInt8} (h : (tagOf t).2 = true) : (tagOf t).1.kind ≠ 1 ∧ itemFine none (tagOf t).1 = true ∧ itemText (tagOf t).1 = 60 :: (t ++ [62]) := by
 unfold tagOf at h ⊢
 dsimp only at h ⊢
 cases hp : hasPrefix t [47] with
 | true =>
  simp only [hp,if_true,Bool.not_true,Bool.false_and,Bool.false_eq_true,if_false] at h ⊢
  by_cases hc : ((cutAt (t.drop 1) 58).2.2 && (numberOf (cutAt (t.drop 1) 58).1).2) = true
  ·rw [if_pos hc] at h ⊢
   dsimp only at h ⊢
   simp only [Bool.and_eq_true] at hc
   obtain ⟨n1,n2,n3⟩ := numberOf_inv hc.2
   have e1 := cutAt_inv hc.1
   have e2 := hasPrefix_inv hp
   refine ⟨by decide,?_,?_⟩
   ·simp only [itemFine]
    rw [if_neg (by decide),if_neg (by decide),if_neg (by decide),if_pos (by decide)]
    simp only [h,n2,n3,decide_true,Bool.and_true]
   ·simp only [itemText]
    rw [if_neg (by decide),if_neg (by decide),if_pos (by decide),← n1]
    conv => rhs; rw [e2,e1]
    simp
  ·rw [if_neg hc] at h; simp at h
 | false =>
  simp only [hp,Bool.false_eq_true,if_false,Bool.not_false,Bool.true_and] at h ⊢
  cases hs : hasSuffix (cutAt t 58).2.1 [47] with
  | true =>
   simp only [hs,if_true] at h ⊢
   by_cases hc : ((cutAt t 58).2.2 && (numberOf (cutAt t 58).1).2) = true
   ·rw [if_pos hc] at h ⊢
    dsimp only at h ⊢
    simp only [Bool.and_eq_true] at hc
    obtain ⟨n1,n2,n3⟩ := numberOf_inv hc.2
    have e1 := cutAt_inv hc.1
    have e2 := hasSuffix_inv hs
    have h : isContent ((cutAt t 58).2.1.take ((cutAt t 58).2.1.length - 1)) = true := by simpa using h
    refine ⟨by decide,?_,?_⟩
    ·simp only [itemFine]
     rw [if_neg (by decide),if_neg (by decide),if_pos (.inr (by decide))]
     simp only [h,n2,n3,decide_true,Bool.and_true]
    ·simp only [itemText]
     rw [if_neg (by decide),if_neg (by decide),if_neg (by decide),if_pos (by decide),← n1]
     conv => rhs; rw [e1]
     conv => rhs; rw [e2]
     simp
   ·rw [if_neg hc] at h; simp at h
  | false =>
   simp only [hs,Bool.false_eq_true,if_false] at h ⊢
   by_cases hc : ((cutAt t 58).2.2 && (numberOf (cutAt t 58).1).2) = true
   ·rw [if_pos hc] at h ⊢
    dsimp only at h ⊢
    simp only [Bool.and_eq_true] at hc
    obtain ⟨n1,n2,n3⟩ := numberOf_inv hc.2
    have e1 := cutAt_inv hc.1
    have h : isContent (cutAt t 58).2.1 = true := by simpa using h
    refine ⟨by decide,?_,?_⟩
    ·simp only [itemFine]
     rw [if_neg (by decide),if_neg (by decide),if_pos (.inl (by decide))]
     simp only [h,n2,n3,decide_true,Bool.and_true]
    ·simp only [itemText]
     rw [if_neg (by decide),if_pos (by decide),← n1]
     conv => rhs; rw [e1]
     simp
   ·rw [if_neg hc] at h; simp at h
theorem elem_inv {s : List UInt8} (hs : s ≠ []) (h : (elementOf s).2.2 = true) :
  ((∃ c,(elementOf s).1 = ⟨1,[c],0⟩ ∧ s = writB c ++ s.drop (elementOf s).2.1.toNat) ∨
   ((elementOf s).1.kind ≠ 1 ∧ itemFine none (elementOf s).1 = true ∧ s = itemText (elementOf s).1 ++ s.drop (elementOf s).2.1.toNat)) := by
 simp only [elementOf] at h ⊢
 by_cases c92 : s.getD 0 0 = 92
 ·left
  rw [if_pos c92] at h ⊢
  simp only at h ⊢
  refine ⟨_,rfl,?_⟩
  match s,hs,c92,h with
  | [a],_,c92,h => simp [escapeOf] at h
  | a :: d :: r,_,c92,h =>
   simp only [List.getD_cons_zero] at c92
   subst c92
   by_cases d1 : d = 92 ∨ d = 60 ∨ d = 123
   ·have e : escapeOf (92 :: d :: r) = (d,2,true) := by simp only [esc_two,if_pos d1]
    rw [e]
    rcases d1 with rfl | rfl | rfl <;> simp [show writB 92 = [92,92] by decide,show writB 60 = [92,60] by decide,show writB 123 = [92,123] by decide]
   ·by_cases d2 : d = 110
    ·subst d2
     have e : escapeOf (92 :: 110 :: r) = (10,2,true) := by simp only [esc_two]; rfl
     rw [e]; simp [show writB 10 = [92,110] by decide]
    ·by_cases d3 : d = 116
     ·subst d3
      have e : escapeOf (92 :: 116 :: r) = (9,2,true) := by simp only [esc_two]; rfl
      rw [e]; simp [show writB 9 = [92,116] by decide]
     ·by_cases d4 : d = 120
      ·subst d4
       match r,h with
       | [],h => simp [escapeOf] at h
       | [_],h => simp [escapeOf] at h
       | p :: q :: r,h =>
        have e : escapeOf (92 :: 120 :: p :: q :: r) = (hexByte p q,4,(hexOf p).2 && (hexOf q).2 && (hexByte p q == 13 || classOf (hexByte p q) == 1)) := by
         simp only [esc_two]
         rw [if_neg (by decide),if_neg (by decide),if_neg (by decide),if_pos (by decide),if_neg (by simp)]
         simp only [List.getD_cons_zero,List.getD_cons_succ]
        rw [e] at h ⊢
        simp only [Bool.and_eq_true] at h
        have hp := hexByte_parts p q
        rw [ctl_writ _ h.2,hp.1,hp.2,hexDig_of p h.1.1,hexDig_of q h.1.2]
        simp
      ·have e : escapeOf (92 :: d :: r) = (0,0,false) := by simp only [esc_two,d1,d2,d3,d4,if_false]
       rw [e] at h; simp at h
  | [],hs,_,_ => exact absurd rfl hs
 ·rw [if_neg c92] at h ⊢
  by_cases c60 : s.getD 0 0 = 60
  ·right
   rw [if_pos c60] at h ⊢
   by_cases hi : Lib.indexByte s 62 < 0
   ·rw [if_pos hi] at h; simp at h
   ·rw [if_neg hi] at h ⊢
    simp only at h ⊢
    have hc : (cutAt s 62).2.2 = true := by simp only [cutAt]; rw [if_pos (by omega)]
    have e1 := cutAt_inv hc
    have ec1 : (cutAt s 62).1 = s.take (Lib.indexByte s 62).toNat := by simp only [cutAt]; rw [if_pos (by omega)]
    have ec2 : (cutAt s 62).2.1 = s.drop ((Lib.indexByte s 62).toNat + 1) := by simp only [cutAt]; rw [if_pos (by omega)]
    obtain ⟨t1,t2,t3⟩ := tagOf_inv h
    refine ⟨t1,t2,?_⟩
    have hp := indexByte_pos s 62 (by rw [c60]; decide) hi
    have e2 : s.take (Lib.indexByte s 62).toNat = 60 :: (s.take (Lib.indexByte s 62).toNat).drop 1 := by
     cases s with
     | nil => exact absurd rfl hs
     | cons a s =>
      simp only [List.getD_cons_zero] at c60
      subst c60
      obtain ⟨m,hm⟩ : ∃ m,(Lib.indexByte (60 :: s) 62).toNat = m + 1 := ⟨(Lib.indexByte (60 :: s) 62).toNat - 1,by omega⟩
      rw [hm]; simp
    rw [t3]
    have e3 : (Lib.indexByte s 62 + 1).toNat = (Lib.indexByte s 62).toNat + 1 := by omega
    rw [e3]
    conv => lhs; rw [e1,ec1,ec2,e2]
    simp
  ·rw [if_neg c60] at h ⊢
   by_cases c123 : s.getD 0 0 = 123
   ·right
    rw [if_pos c123] at h ⊢
    by_cases hi : Lib.indexByte s 125 < 0 ∨ isName ((s.take (Lib.indexByte s 125).toNat).drop 1) = false
    ·rw [if_pos hi] at h; simp at h
    ·rw [if_neg hi] at h ⊢
     simp only [not_or] at hi
     simp only
     have hn : isName ((s.take (Lib.indexByte s 125).toNat).drop 1) = true := by simpa using hi.2
     have hc : (cutAt s 125).2.2 = true := by simp only [cutAt]; rw [if_pos (by omega)]
     have e1 := cutAt_inv hc
     have ec1 : (cutAt s 125).1 = s.take (Lib.indexByte s 125).toNat := by simp only [cutAt]; rw [if_pos (by omega)]
     have ec2 : (cutAt s 125).2.1 = s.drop ((Lib.indexByte s 125).toNat + 1) := by simp only [cutAt]; rw [if_pos (by omega)]
     have hp := indexByte_pos s 125 (by rw [c123]; decide) hi.1
     refine ⟨by decide,?_,?_⟩
     ·simp only [itemFine]
      rw [if_neg (by decide),if_pos (by decide),hn]; rfl
     ·have e2 : s.take (Lib.indexByte s 125).toNat = 123 :: (s.take (Lib.indexByte s 125).toNat).drop 1 := by
       cases s with
       | nil => exact absurd rfl hs
       | cons a s =>
        simp only [List.getD_cons_zero] at c123
        subst c123
        obtain ⟨m,hm⟩ : ∃ m,(Lib.indexByte (123 :: s) 125).toNat = m + 1 := ⟨(Lib.indexByte (123 :: s) 125).toNat - 1,by omega⟩
        rw [hm]; simp
      simp only [itemText]
      rw [if_neg (by decide),if_neg (by decide),if_neg (by decide),if_neg (by decide),if_pos (by decide)]
      have e3 : (Lib.indexByte s 125 + 1).toNat = (Lib.indexByte s 125).toNat + 1 := by omega
      rw [e3]
      conv => lhs; rw [e1,ec1,ec2,e2]
      simp
   ·left
    rw [if_neg c123] at h ⊢
    simp only at h ⊢
    cases s with
    | nil => exact absurd rfl hs
    | cons a s =>
     simp only [List.getD_cons_zero] at h
     refine ⟨a,by simp,?_⟩
     simp [writB,h]
theorem lowB_nat (n : Int) : ((lowB n).toNat : Int) = n % 256 := by
 have h1 : 0 ≤ n % 256 := Int.emod_nonneg _ (by decide)
 have h2 : n % 256 < 256 := Int.emod_lt_of_pos _ (by decide)
 simp only [lowB,UInt8.toNat_ofNat']
 omega
theorem beNat_be2 {n : Int} (h : 0 ≤ n ∧ n < 65536) : beNat (be2 n) = n := by
 have h1 := lowB_nat (n / 256)
 have h2 := lowB_nat n
 simp only [beNat,be2,List.foldl_cons,List.foldl_nil,h1,h2]
 omega
theorem beNat_be4 {n : Int} (h : 0 ≤ n ∧ n < 4294967296) : beNat (be4 n) = n := by
 have h1 := lowB_nat (n / 65536 / 256)
 have h2 := lowB_nat (n / 65536)
 have h3 := lowB_nat (n / 256)
 have h4 := lowB_nat n
 simp only [beNat,be4,be2,List.cons_append,List.nil_append,List.foldl_cons,List.foldl_nil,h1,h2,h3,h4]
 omega
theorem beNat_one {n : Int} (h : 0 ≤ n ∧ n < 256) : beNat [lowB n] = n := by
 have h2 := lowB_nat n
 simp only [beNat,List.foldl_cons,List.foldl_nil,h2]
 omega
theorem take_app {w rest : List UInt8} {bad : Bool} : (Rb.mk (w ++ rest) bad).take w.length = (w,⟨rest,bad⟩) := by
 simp only [Rb.take]
 rw [if_neg (by simp)]
 simp
theorem number_app {w rest : List UInt8} {bad : Bool} {n : Nat} (h : w.length = n) : (Rb.mk (w ++ rest) bad).number n = (beNat w,⟨rest,bad⟩) := by
 subst h
 simp only [Rb.number,take_app]
theorem text_app {s rest : List UInt8} {bad : Bool} (h : s.length < 4294967296) : (Rb.mk (encText s ++ rest) bad).text = (s,⟨rest,bad⟩) := by
 have h1 : (Rb.mk (encText s ++ rest) bad).number 4 = ((s.length : Int),⟨s ++ rest,bad⟩) := by
  simp only [encText,List.append_assoc]
  rw [number_app (be4_length _),beNat_be4 (by omega)]
 simp only [Rb.text,h1]
 rw [if_neg (by simp; omega)]
 simp only [Int.toNat_natCast,take_app]
theorem fragment_app {s rest : List UInt8} {bad : Bool} {f : List It} (h : s.length < 4294967296) (hp : parse s = (f,0,0)) : (Rb.mk (encText s ++ rest) bad).fragment = (f,⟨rest,bad⟩) := by
 simp only [Rb.fragment,text_app h,hp]
 simp
theorem numbers_app : ∀ (l : List Int) (rest : List UInt8) (bad : Bool),(∀ n ∈ l,0 ≤ n ∧ n < 65536) → Rb.numbers l.length (Rb.mk (l.flatMap be2 ++ rest) bad) = (l,⟨rest,bad⟩) := by
 intro l
 induction l with
 | nil => intro rest bad _; rfl
 | cons n l ih =>
  intro rest bad h
  simp only [List.length_cons,Rb.numbers,List.flatMap_cons,List.append_assoc]
  rw [number_app (be2_length n),beNat_be2 (h n (by simp))]
  simp only [ih rest bad fun m hm => h m (by simp [hm])]
theorem vAt_range (v : List Int) (o : Int) : 0 ≤ vAt v o := by
 simp only [vAt]
 (repeat' split) <;> omega
theorem vTrim_fixed {v : List Int} (h : vTrim v = v) : v.length ≤ 8 ∧ ∀ n ∈ v,0 ≤ n := by
 have h0 : vTrim v = (joinList v [] 8).take (joinLast v [] 8) := rfl
 constructor
 ·rw [← h,h0]; simp [joinList_length]; omega
 ·intro n hn
  rw [← h,h0] at hn
  have hn := List.mem_of_mem_take hn
  simp only [joinList,List.mem_map] at hn
  obtain ⟨i,_,rfl⟩ := hn
  have h1 := vAt_range v i
  have h2 := vAt_range [] i
  split <;> omega
structure opFacts (o : Opr) : Prop where
 time : 1 ≤ o.stamp.time ∧ o.stamp.time ≤ 1073741824
 office : 0 ≤ o.stamp.office ∧ o.stamp.office < 8
 number : 1 ≤ o.stamp.number ∧ o.stamp.number ≤ 128
 kind : o.kind = 1 ∨ o.kind = 2
 seenLen : o.seen.length ≤ 8
 seen : ∀ n ∈ o.seen,0 ≤ n ∧ n ≤ 128
 bare : o.kind = 2 → o.entry = ⟨o.entry.source,[],o.entry.previous,o.entry.next,[],[],0,0⟩
 looked : entryErr (looked o) = 0
theorem op_facts {o : Opr} (h : opErr o = 0) : opFacts o := by
 simp only [opErr] at h
 split at h
 ·simp at h
 ·rename_i h1
  split at h
  ·simp at h
  ·rename_i h2
   split at h
   ·simp at h
   ·rename_i h3
    split at h
    ·simp at h
    ·split at h
     ·simp at h
     ·rename_i h5
      simp only [Bool.not_eq_false,stampOk,decide_eq_true_eq] at h1
      have hs : vTrim o.seen = o.seen := by
       by_cases hs : vTrim o.seen = o.seen
       ·exact hs
       ·exact absurd (.inr hs) h2
      obtain ⟨s1,s2⟩ := vTrim_fixed hs
      simp only [Bool.not_eq_true,List.any_eq_false,decide_eq_true_eq] at h3
      refine ⟨⟨by omega,by omega⟩,⟨by omega,by omega⟩,⟨by omega,by omega⟩,by omega,s1,fun n hn => ⟨s2 n hn,by have := h3 n hn; omega⟩,fun hk => ?_,h⟩
      have hb : bareEn o.entry = true := by
       cases hb : bareEn o.entry with
       | true => rfl
       | false => exact absurd ⟨hk,hb⟩ h5
      simp only [bareEn,Bool.and_eq_true,beq_iff_eq,List.length_eq_zero_iff] at hb
      obtain ⟨b1,b2,b3,b4,b5⟩ := hb
      clear h
      generalize o.entry = e at b1 b2 b3 b4 b5 ⊢
      obtain ⟨a1,a2,a3,a4,a5,a6,a7,a8⟩ := e
      simp only at b1 b2 b3 b4 b5
      subst b1; subst b2; subst b3; subst b4; subst b5
      rfl
structure enFacts (e : En) : Prop where
 source : validItems e.source = 0
 target : validItems e.target = 0
 nonempty : e.source ≠ []
 author : isName e.author = true ∨ e.author = []
 project : isName e.project = true ∨ e.project = []
 created : 0 ≤ e.created ∧ e.created ≤ 1073741824
 origin : 1 ≤ e.origin ∧ e.origin ≤ 3
theorem en_facts {e : En} (h : entryErr e = 0) : enFacts e := by
 simp only [entryErr] at h
 split at h
 ·rename_i h1; exact absurd h h1
 ·rename_i h1
  split at h
  ·rename_i h2; exact absurd h h2
  ·rename_i h2
   split at h
   ·simp at h
   ·rename_i h3
    split at h
    ·rename_i h4; exact absurd h h4
    ·split at h
     ·rename_i h5; exact absurd h h5
     ·split at h
      ·simp at h
      ·rename_i h6
       split at h
       ·simp at h
       ·rename_i h7
        simp only [canonOk,Bool.not_eq_false,Bool.and_eq_true,Bool.not_eq_true',beq_eq_false_iff_ne,ne_eq,List.length_eq_zero_iff] at h3
        simp only [named,Bool.not_eq_false,Bool.and_eq_true,Bool.or_eq_true,beq_iff_eq] at h6
        exact ⟨by simpa using h1,by simpa using h2,h3.1.1,h6.1.symm,h6.2.symm,⟨by omega,by omega⟩,⟨by omega,by omega⟩⟩
theorem isName_len {s : List UInt8} (h : isName s = true ∨ s = []) : s.length ≤ 24 := by
 rcases h with h | rfl
 ·cases s with
  | nil => simp
  | cons c r => simp only [isName,Bool.and_eq_true,decide_eq_true_eq] at h; exact h.1.1
 ·simp
theorem small_total {f : List It} (h1 : f.length < 2 ^ 30) (h2 : textLen f < 2 ^ 30) : total f < 2 ^ 63 := by
 have := total_le f
 omega
theorem textLen_fine : ∀ f : List It,(∀ x ∈ f,itemFine none x = true) → textLen f ≤ total f + 64 * f.length := by
 intro f
 induction f with
 | nil => intro _; simp [textLen]
 | cons x f ih =>
  intro h
  have e1 := ih fun y hy => h y (by simp [hy])
  have hx := h x (by simp)
  have ht : total (x :: f) = wid x + total f := by simp [total]
  have hw : x.text.length ≤ wid x + 64 := by
   simp only [itemFine] at hx
   by_cases k1 : x.kind = 1
   ·simp [wid,k1]
   ·rw [if_neg k1] at hx
    by_cases k5 : x.kind = 5
    ·rw [if_pos k5] at hx
     simp only [Bool.and_eq_true] at hx
     have := isName_len (.inl hx.1); omega
    ·rw [if_neg k5] at hx
     by_cases k2 : x.kind = 2 ∨ x.kind = 4
     ·rw [if_pos k2] at hx
      simp only [Bool.and_eq_true,isContent,contentEnds,decide_eq_true_eq] at hx; omega
     ·rw [if_neg k2] at hx
      by_cases k3 : x.kind = 3
      ·rw [if_pos k3] at hx
       simp only [Bool.and_eq_true] at hx
       have := isName_len (.inl hx.1.1); omega
      ·rw [if_neg k3] at hx; simp at hx
  simp only [textLen,List.length_cons,ht]; omega
theorem validItems_format_len {f : List It} (h1 : f.length < 2 ^ 30) (h2 : textLen f < 2 ^ 30) (h : validItems f = 0) : (format f).1.length < 4294967296 := by
 have hv := (validItems_iff (small_total h1 h2)).1 h
 have hk := itemsErr_fine f [] hv.2.2
 have key : ∀ f : List It,(∀ x ∈ f,itemFine none x = true) → (f.flatMap itemText).length ≤ 4 * textLen f + 30 * f.length := by
  intro f
  induction f with
  | nil => intro _; simp
  | cons x f ih =>
   intro h
   have e1 := ih fun y hy => h y (by simp [hy])
   have hx := h x (by simp)
   have hid : -9223372036854775808 ≤ x.id ∧ x.id ≤ 9223372036854775807 := by
    simp only [itemFine] at hx
    by_cases k1 : x.kind = 1
    ·rw [if_pos k1] at hx; simp only [Bool.and_eq_true,beq_iff_eq] at hx; omega
    ·rw [if_neg k1] at hx
     by_cases k5 : x.kind = 5
     ·rw [if_pos k5] at hx; simp only [Bool.and_eq_true,beq_iff_eq] at hx; omega
     ·rw [if_neg k5] at hx
      by_cases k2 : x.kind = 2 ∨ x.kind = 4
      ·rw [if_pos k2] at hx; simp only [Bool.and_eq_true,decide_eq_true_eq] at hx; omega
      ·rw [if_neg k2] at hx
       by_cases k3 : x.kind = 3
       ·rw [if_pos k3] at hx; simp only [Bool.and_eq_true,decide_eq_true_eq] at hx; omega
       ·rw [if_neg k3] at hx; simp at hx
   have e2 := itemText_len x hid
   simp only [List.flatMap_cons,List.length_append,textLen,List.length_cons]
   omega
 have := key f hk
 have h3 := textLen_fine f hk
 simp only [format,h,ne_eq,not_true,if_false]
 omega
theorem read_enc {o : Opr} (hs : o.small) (h : opErr o = 0) : readOp (encBody o) = (o,1,⟨[],false⟩) := by
 have F := op_facts h
 have hsv : validItems o.entry.source = 0 := by
  have := (en_facts F.looked).source
  rcases F.kind with k | k
  ·simpa [looked,k] using this
  ·simpa [looked,k,asked] using this
 have hsrc : parse (format o.entry.source).1 = (o.entry.source,0,0) := parse_format (small_total hs.entry.source hs.entry.sourceT) hsv
 have hsl := validItems_format_len hs.entry.source hs.entry.sourceT hsv
 have hpl := hs.entry.previous
 have hnl := hs.entry.next
 have hsn := F.seenLen
 have ht := F.time
 have hf := F.office
 have hn := F.number
 have hkd := F.kind
 have h1 : ∀ (rest : List UInt8),(Rb.mk ([1,lowB o.kind] ++ rest) false).number 1 = (1,⟨[lowB o.kind] ++ rest,false⟩) := fun rest => by
  have := number_app (w := [1]) (rest := [lowB o.kind] ++ rest) (bad := false) (n := 1) rfl
  simpa [beNat] using this
 have h2 : ∀ (rest : List UInt8),(Rb.mk ([lowB o.kind] ++ rest) false).number 1 = (o.kind,⟨rest,false⟩) := fun rest => by
  rw [number_app (w := [lowB o.kind]) (n := 1) rfl,beNat_one (by omega)]
 have h3 : ∀ (rest : List UInt8),(Rb.mk (be4 o.stamp.time ++ rest) false).number 4 = (o.stamp.time,⟨rest,false⟩) := fun rest => by
  rw [number_app (be4_length _),beNat_be4 (by omega)]
 have h4 : ∀ (rest : List UInt8),(Rb.mk ([lowB o.stamp.office] ++ rest) false).number 1 = (o.stamp.office,⟨rest,false⟩) := fun rest => by
  rw [number_app (w := [lowB o.stamp.office]) (n := 1) rfl,beNat_one (by omega)]
 have h5 : ∀ (rest : List UInt8),(Rb.mk (be2 o.stamp.number ++ rest) false).number 2 = (o.stamp.number,⟨rest,false⟩) := fun rest => by
  rw [number_app (be2_length _),beNat_be2 (by omega)]
 have h6 : ∀ (rest : List UInt8),(Rb.mk ([lowB o.seen.length] ++ rest) false).number 1 = ((o.seen.length : Int),⟨rest,false⟩) := fun rest => by
  rw [number_app (w := [lowB o.seen.length]) (n := 1) rfl,beNat_one (by omega)]
 have h7 : ∀ (rest : List UInt8),Rb.numbers o.seen.length (Rb.mk (o.seen.flatMap be2 ++ rest) false) = (o.seen,⟨rest,false⟩) := fun rest => numbers_app _ _ _ fun n hn => by
  have := F.seen n hn; omega
 have hap : encBody o = [1,lowB o.kind] ++ (be4 o.stamp.time ++ ([lowB o.stamp.office] ++ (be2 o.stamp.number ++ ([lowB o.seen.length] ++ (o.seen.flatMap be2 ++
   (encText (format o.entry.source).1 ++ (encText o.entry.previous ++ (encText o.entry.next ++
   (if o.kind = 1 then encText (format o.entry.target).1 ++ encText o.entry.author ++ encText o.entry.project ++ be4 o.entry.created ++ [lowB o.entry.origin] else []))))))))) := by
  simp only [encBody,List.append_assoc]
 rw [hap]
 generalize hR : (if o.kind = 1 then encText (format o.entry.target).1 ++ encText o.entry.author ++ encText o.entry.project ++ be4 o.entry.created ++ [lowB o.entry.origin] else []) = R
 simp only [readOp,h1,h2,h3,h4,h5,h6,Int.toNat_natCast,h7,fragment_app hsl hsrc,text_app (show o.entry.previous.length < 4294967296 by omega),text_app (show o.entry.next.length < 4294967296 by omega)]
 obtain ⟨⟨t,f,n⟩,k,⟨es,et,ep,en,ea,epr,ec,eo⟩,sn⟩ := o
 simp only at *
 rcases hkd with rfl | rfl
 ·rw [if_pos rfl] at hR ⊢
  have hl : entryErr ⟨es,et,ep,en,ea,epr,ec,eo⟩ = 0 := by simpa [looked] using F.looked
  have E := en_facts hl
  have htg : parse (format et).1 = (et,0,0) := parse_format (small_total hs.entry.target hs.entry.targetT) E.target
  have htl := validItems_format_len hs.entry.target hs.entry.targetT E.target
  have hal := isName_len E.author
  have hpr := isName_len E.project
  have hc := E.created
  have ho := E.origin
  simp only at htg htl hal hpr hc ho
  have h8 : ∀ (rest : List UInt8),(Rb.mk (be4 ec ++ rest) false).number 4 = (ec,⟨rest,false⟩) := fun rest => by
   rw [number_app (be4_length _),beNat_be4 (by omega)]
  have h9 : (Rb.mk [lowB eo] false).number 1 = (eo,⟨[],false⟩) := by
   have := number_app (w := [lowB eo]) (rest := []) (bad := false) (n := 1) rfl
   rw [beNat_one (by omega)] at this
   simpa using this
  have hR2 : R = encText (format et).1 ++ (encText ea ++ (encText epr ++ (be4 ec ++ [lowB eo]))) := by rw [← hR]; simp only [List.append_assoc]
  rw [hR2]
  simp only [fragment_app htl htg,text_app (show ea.length < 4294967296 by omega),text_app (show epr.length < 4294967296 by omega),h8,h9]
 ·rw [if_neg (by decide)] at hR ⊢
  subst hR
  have hb := F.bare rfl
  simp only [En.mk.injEq,true_and] at hb
  obtain ⟨rfl,rfl,rfl,rfl,rfl⟩ := hb
  rfl
theorem encode_inj {a b : Opr} (ha : a.small) (hb : b.small) (h1 : opErr a = 0) (h2 : opErr b = 0) (h : (encode a).1 = (encode b).1) : a = b := by
 have e1 : (encode a).1 = encBody a := by simp [encode,h1]
 have e2 : (encode b).1 = encBody b := by simp [encode,h2]
 rw [e1,e2] at h
 have := read_enc ha h1
 rw [h,read_enc hb h2] at this
 simpa using this.symm
theorem bytesLess_cmpB : ∀ (x y : List UInt8),Op.bytesLess x y = decide (cmpB x y < 0)
 | [],[] => rfl
 | [],_ :: _ => rfl
 | _ :: _,[] => rfl
 | a :: x,b :: y => by
  simp only [Op.bytesLess,cmpB]
  by_cases h1 : a < b
  ·simp [h1]
  ·by_cases h2 : b < a
   ·have : a ≠ b := by rintro rfl; exact h1 h2
    simp [h1,h2,this]
   ·have h3 : a = b := UInt8.le_antisymm (UInt8.not_lt.1 h2) (UInt8.not_lt.1 h1)
    subst h3
    simp [h1,bytesLess_cmpB x y]
theorem lt_cmpB : ∀ {x y : List UInt8},x < y ↔ cmpB x y < 0
 | [],[] => by simp [cmpB]
 | [],_ :: _ => by simp [cmpB]
 | _ :: _,[] => by simp [cmpB]
 | a :: x,b :: y => by
  rw [List.cons_lt_cons_iff,lt_cmpB (x := x) (y := y)]
  simp only [cmpB]
  by_cases h1 : a < b
  ·simp [h1]
  ·by_cases h2 : b < a
   ·have : a ≠ b := by rintro rfl; exact h1 h2
    simp [h1,h2,this]
   ·have h3 : a = b := UInt8.le_antisymm (UInt8.not_lt.1 h2) (UInt8.not_lt.1 h1)
    subst h3
    simp [h1]
theorem leB_cmpB (x y : List UInt8) : leB x y = decide (cmpB x y ≤ 0) := by
 have h : (x ≤ y) ↔ ¬ (y < x) := Iff.rfl
 have ha := cmpB_ord.anti x y
 simp only [leB,decide_eq_decide,h,lt_cmpB]
 omega
theorem cmpB_lt_trans {x y z : List UInt8} (h1 : cmpB x y < 0) (h2 : cmpB y z < 0) : cmpB x z < 0 := by
 have a1 := cmpB_ord.anti x y
 have a2 := cmpB_ord.anti y z
 have a3 := cmpB_ord.anti x z
 have := cmpB_ord.gt (a := z) (b := y) (d := x) (by omega) (by omega)
 omega
def SS (l : List Opr) : Prop := l.Pairwise fun a b => cmpB (opKey a) (opKey b) < 0
def getK (k : List UInt8) : List Opr → Option Opr
 | [] => none
 | x :: r => if opKey x = k then some x else getK k r
theorem getK_mem {k : List UInt8} {o : Opr} : ∀ {l : List Opr},getK k l = some o → o ∈ l ∧ opKey o = k
 | [],h => by simp [getK] at h
 | x :: r,h => by
  simp only [getK] at h
  split at h
  ·simp only [Option.some.injEq] at h; subst h; exact ⟨by simp,by assumption⟩
  ·exact ⟨List.mem_cons_of_mem _ (getK_mem h).1,(getK_mem h).2⟩
theorem getK_self {x : Opr} {l : List Opr} (h : SS l) (hx : x ∈ l) : getK (opKey x) l = some x := by
 induction l with
 | nil => simp at hx
 | cons y l ih =>
  simp only [SS,List.pairwise_cons] at h
  simp only [getK]
  rcases List.mem_cons.1 hx with rfl | hx
  ·rw [if_pos rfl]
  ·have := h.1 x hx
   rw [if_neg (fun e => by rw [e,cmpB_ord.self] at this; omega)]
   exact ih h.2 hx
theorem getK_filterMap {m : List (List UInt8 × Opr)} (k : List UInt8) : ∀ (ks : List (List UInt8)),(∀ k ∈ ks,∃ o,getA k m = some o ∧ opKey o = k) → getK k (ks.filterMap fun k => getA k m) = if k ∈ ks then getA k m else none
 | [],_ => by simp [getK]
 | x :: ks,h => by
  obtain ⟨o,h1,h2⟩ := h x (by simp)
  have ih := getK_filterMap k ks fun y hy => h y (by simp [hy])
  simp only [List.filterMap_cons,h1,getK,h2]
  by_cases hx : x = k
  ·subst hx; simp [h1]
  ·rw [if_neg hx,ih]
   have : ¬ k = x := fun e => hx e.symm
   simp [this]
theorem winners_key {l : List Opr} {k : List UInt8} {o : Opr} (h : getA k (winners l) = some o) : opKey o = k := (winners_mem (getA_memN h)).1.symm
theorem sorted_some {l : List Opr} : ∀ k ∈ sortedKeys l,∃ o,getA k (winners l) = some o ∧ opKey o = k := by
 intro k hk
 obtain ⟨o,ho⟩ := sortedKeys_some hk
 exact ⟨o,ho,winners_key ho⟩
theorem getK_current (k : List UInt8) (l : List Opr) : getK k (current l) = getA k (winners l) := by
 have e : current l = (sortedKeys l).filterMap fun k => getA k (winners l) := rfl
 rw [e,getK_filterMap k _ sorted_some]
 by_cases h : k ∈ sortedKeys l
 ·rw [if_pos h]
 ·rw [if_neg h]
  have : k ∉ (winners l).map (·.1) := fun hm => h ((sortedKeys_perm l).mem_iff.2 hm)
  exact (getA_none.2 this).symm
theorem sortedKeys_lt (l : List Opr) : (sortedKeys l).Pairwise fun a b => cmpB a b < 0 := by
 have h1 : (sortedKeys l).Pairwise fun a b => leB a b = true := List.pairwise_mergeSort (le := leB) (fun a b c h1 h2 => by
  rw [leB_cmpB,decide_eq_true_eq] at h1 h2 ⊢
  have a1 := cmpB_ord.anti a b
  have a2 := cmpB_ord.anti b c
  have a3 := cmpB_ord.anti a c
  by_cases e1 : cmpB a b = 0
  ·rw [cmpB_zero] at e1; subst e1; exact h2
  ·by_cases e2 : cmpB b c = 0
   ·rw [cmpB_zero] at e2; subst e2; exact h1
   ·have := cmpB_lt_trans (x := a) (y := b) (z := c) (by omega) (by omega)
    omega) (fun a b => by
  rw [leB_cmpB,leB_cmpB,Bool.or_eq_true,decide_eq_true_eq,decide_eq_true_eq]
  have := cmpB_ord.anti a b
  omega) _
 have h2 : (sortedKeys l).Nodup := (sortedKeys_perm l).nodup_iff.2 (winners_nodup l)
 refine (h1.and h2).imp fun {a b} h => ?_
 obtain ⟨h3,h4⟩ := h
 rw [leB_cmpB,decide_eq_true_eq] at h3
 have : cmpB a b ≠ 0 := fun e => h4 (cmpB_zero.1 e)
 omega
theorem pairwise_filterMap {m : List (List UInt8 × Opr)} : ∀ (ks : List (List UInt8)),(∀ k ∈ ks,∃ o,getA k m = some o ∧ opKey o = k) → ks.Pairwise (fun a b => cmpB a b < 0) → SS (ks.filterMap fun k => getA k m)
 | [],_,_ => by simp [SS]
 | x :: ks,h,hp => by
  obtain ⟨o,h1,h2⟩ := h x (by simp)
  rw [List.pairwise_cons] at hp
  have h' : ∀ k ∈ ks,∃ o,getA k m = some o ∧ opKey o = k := fun y hy => h y (by simp [hy])
  have ih := pairwise_filterMap ks h' hp.2
  simp only [List.filterMap_cons,h1]
  simp only [SS,List.pairwise_cons] at ih ⊢
  refine ⟨fun z hz => ?_,ih⟩
  obtain ⟨k,hk,hz⟩ := List.mem_filterMap.1 hz
  obtain ⟨o',h3,h4⟩ := h' k hk
  rw [h3] at hz
  simp only [Option.some.injEq] at hz
  subst hz
  rw [h2,h4]
  exact hp.1 k hk
theorem current_SS (l : List Opr) : SS (current l) := pairwise_filterMap _ sorted_some (sortedKeys_lt l)
def better (was : Option Opr) (o : Opr) : Option Opr := match was with
 | none => some o
 | some w => if wins o w = true then some o else some w
theorem winStep_get (m : List (List UInt8 × Opr)) (o : Opr) (k : List UInt8) : getA k (winStep m o) = if opKey o = [] then getA k m else if opKey o = k then better (getA k m) o else getA k m := by
 simp only [winStep]
 split
 ·rfl
 ·by_cases hk : opKey o = k
  ·subst hk
   rw [if_pos rfl]
   cases hg : getA (opKey o) m with
   | none => simp [getA_upd,better]
   | some w =>
    simp only [better]
    split
    ·simp [getA_upd]
    ·exact hg
  ·rw [if_neg hk]
   have hk' : ¬ k = opKey o := fun e => hk e.symm
   split
   ·rw [getA_upd,if_neg hk']
   ·split
    ·rw [getA_upd,if_neg hk']
    ·rfl
def best (l : List Opr) : Option Opr := l.foldl better none
def ofKey (k : List UInt8) (l : List Opr) : List Opr := l.filter fun o => decide (opKey o = k)
theorem winners_best (k : List UInt8) (hk : k ≠ []) (l : List Opr) (hl : l.length ≤ 1024) : getA k (winners l) = best (ofKey k l) := by
 have key : ∀ (l : List Opr) (m : List (List UInt8 × Opr)),getA k (l.foldl winStep m) = (ofKey k l).foldl better (getA k m) := by
  intro l
  induction l with
  | nil => intro m; rfl
  | cons o l ih =>
   intro m
   simp only [List.foldl_cons,ih,winStep_get,ofKey,List.filter_cons]
   by_cases h : opKey o = k
   ·rw [if_neg (by rw [h]; exact hk),if_pos h]
    simp [h]
   ·rw [if_neg h]
    simp [h]
 simp only [winners]
 rw [if_neg (by omega),key]
 rfl
theorem winners_nil (l : List Opr) : getA [] (winners l) = none := by
 have key : ∀ (l : List Opr) (m : List (List UInt8 × Opr)),getA [] m = none → getA [] (l.foldl winStep m) = none := by
  intro l
  induction l with
  | nil => intro m h; exact h
  | cons o l ih =>
   intro m h
   simp only [List.foldl_cons]
   refine ih _ ?_
   rw [winStep_get]
   split
   ·exact h
   ·exact h
 simp only [winners]
 split
 ·rfl
 ·exact key l [] rfl
theorem not_wins_trans {a b d : Opr} (h1 : wins a b = false) (h2 : wins b d = false) : wins a d = false := by
 cases h : wins a d with
 | false => rfl
 | true =>
  have n1 : ¬ 0 < winOrd a b := fun e => by rw [wins_iff.2 e] at h1; simp at h1
  have n2 : ¬ 0 < winOrd b d := fun e => by rw [wins_iff.2 e] at h2; simp at h2
  have h3 := wins_iff.1 h
  have a1 := winOrd_ord.anti a b
  have a2 := winOrd_ord.anti b d
  have a3 := winOrd_ord.anti a d
  exfalso
  by_cases e1 : winOrd b a = 0
  ·
   by_cases e2 : winOrd d b = 0
   ·have := winOrd_ord.trans d b a (by omega) (by omega)
    omega
   ·have := winOrd_ord.trans d b a (by omega) (by omega)
    omega
  ·have := winOrd_ord.trans d b a (by omega) (by omega)
   omega
theorem best_spec : ∀ (l : List Opr) (w : Opr),best l = some w → w ∈ l ∧ ∀ x ∈ l,wins x w = false := by
 have key : ∀ (l : List Opr) (acc : Option Opr) (w : Opr),l.foldl better acc = some w → (w ∈ l ∨ acc = some w) ∧ (∀ x ∈ l,wins x w = false) ∧ ∀ a,acc = some a → wins a w = false := by
  intro l
  induction l with
  | nil =>
   intro acc w h
   refine ⟨.inr h,by simp,fun a ha => ?_⟩
   have h : acc = some w := h
   rw [h] at ha; simp only [Option.some.injEq] at ha; subst ha; exact wins_self _
  | cons o l ih =>
   intro acc w h
   simp only [List.foldl_cons] at h
   obtain ⟨h1,h2,h3⟩ := ih _ _ h
   have ho : wins o w = false := by
    cases acc with
    | none => exact h3 o rfl
    | some a =>
     simp only [better] at h3
     by_cases hw : wins o a = true
     ·exact h3 o (by rw [if_pos hw])
     ·exact not_wins_trans (by simpa using hw) (h3 a (by rw [if_neg hw]))
   refine ⟨?_,fun x hx => ?_,fun a ha => ?_⟩
   ·rcases h1 with h1 | h1
    ·exact .inl (by simp [h1])
    ·cases acc with
     | none => simp only [better,Option.some.injEq] at h1; exact .inl (by simp [h1])
     | some a =>
      simp only [better] at h1
      split at h1
      ·simp only [Option.some.injEq] at h1; exact .inl (by simp [h1])
      ·exact .inr h1
   ·rcases List.mem_cons.1 hx with rfl | hx
    ·exact ho
    ·exact h2 x hx
   ·subst ha
    simp only [better] at h3
    by_cases hw : wins o a = true
    ·exact not_wins_trans (wins_asymm hw) ho
    ·exact h3 a (by rw [if_neg hw])
 intro l w h
 obtain ⟨h1,h2,_⟩ := key l none w h
 exact ⟨by simpa using h1,h2⟩
theorem best_none {l : List Opr} (h : best l = none) : l = [] := by
 cases l with
 | nil => rfl
 | cons o l =>
  have key : ∀ (l : List Opr) (a : Opr),∃ w,l.foldl better (some a) = some w := by
   intro l
   induction l with
   | nil => intro a; exact ⟨a,rfl⟩
   | cons o l ih =>
    intro a
    simp only [List.foldl_cons,better]
    split
    ·exact ih o
    ·exact ih a
  obtain ⟨w,hw⟩ := key l o
  simp only [best,List.foldl_cons,better] at h
  rw [hw] at h; simp at h
theorem level_eq {a b : Opr} (ha : a.small) (hb : b.small) (h1 : opErr a = 0) (h2 : opErr b = 0) (h3 : wins a b = false) (h4 : wins b a = false) : a = b := by
 have n1 : ¬ 0 < winOrd a b := fun e => by rw [wins_iff.2 e] at h3; simp at h3
 have n2 : ¬ 0 < winOrd b a := fun e => by rw [wins_iff.2 e] at h4; simp at h4
 have := winOrd_ord.anti a b
 exact encode_inj ha hb h1 h2 (winOrd_zero (a := a) (b := b) (by omega)).2.2
theorem key_ok {o : Opr} (h : opKey o ≠ []) : opErr o = 0 := by
 by_cases h1 : opErr o = 0
 ·exact h1
 ·exact absurd (by simp only [opKey,ne_eq,h1,not_false_eq_true,if_true]) h
theorem best_iff {k : List UInt8} (hk : k ≠ []) {l : List Opr} (hs : ∀ o ∈ l,o.small) {w : Opr} : best (ofKey k l) = some w ↔ (w ∈ l ∧ opKey w = k ∧ ∀ x ∈ l,opKey x = k → wins x w = false) := by
 constructor
 ·intro h
  obtain ⟨h1,h2⟩ := best_spec _ _ h
  simp only [ofKey,List.mem_filter,decide_eq_true_eq] at h1 h2
  exact ⟨h1.1,h1.2,fun x hx hxk => h2 x ⟨hx,hxk⟩⟩
 ·rintro ⟨h1,h2,h3⟩
  have hm : w ∈ ofKey k l := by simp [ofKey,h1,h2]
  cases hb : best (ofKey k l) with
  | none => rw [best_none hb] at hm; simp at hm
  | some v =>
   obtain ⟨g1,g2⟩ := best_spec _ _ hb
   simp only [ofKey,List.mem_filter,decide_eq_true_eq] at g1 g2
   have e := level_eq (hs v g1.1) (hs w h1) (key_ok (by rw [g1.2]; exact hk)) (key_ok (by rw [h2]; exact hk)) (h3 v g1.1 g1.2) (g2 w ⟨h1,h2⟩)
   rw [e]
theorem current_iff {l : List Opr} (hl : l.length ≤ 1024) (hs : ∀ o ∈ l,o.small) {k : List UInt8} {w : Opr} : getK k (current l) = some w ↔ (k ≠ [] ∧ w ∈ l ∧ opKey w = k ∧ ∀ x ∈ l,opKey x = k → wins x w = false) := by
 rw [getK_current]
 by_cases hk : k = []
 ·subst hk; rw [winners_nil]; simp
 ·rw [winners_best k hk l hl,best_iff hk hs]; simp [hk]
theorem foldI_pre : ∀ (m l : List Int),∃ r,m.foldl insI l = l ++ r
 | [],l => ⟨[],by simp⟩
 | n :: m,l => by
  obtain ⟨r,hr⟩ := foldI_pre m (insI l n)
  simp only [List.foldl_cons,hr]
  by_cases h : l.contains n = true
  ·exact ⟨r,by simp only [insI,h,if_true]⟩
  ·exact ⟨n :: r,by simp only [insI,h]; simp⟩
theorem foldI_id : ∀ (m l : List Int),(∀ n ∈ m,n ∈ l) → m.foldl insI l = l
 | [],_,_ => rfl
 | n :: m,l,h => by
  have e : insI l n = l := by
   have : l.contains n = true := by simpa using h n (by simp)
   simp only [insI,this,if_true]
  simp only [List.foldl_cons,e]
  exact foldI_id m l fun k hk => h k (by simp [hk])
theorem toF_left : ∀ (f1 f2 t1 t2 : List Int) (x : Int),f1.length = t1.length → x ∈ f1 → toF (f1 ++ f2) (t1 ++ t2) x = toF f1 t1 x
 | [],_,_,_,_,_,h => by simp at h
 | a :: f1,f2,[],t2,x,hl,_ => by simp at hl
 | a :: f1,f2,b :: t1,t2,x,hl,h => by
  simp only [List.cons_append,toF]
  by_cases hx : x = a
  ·rw [if_pos hx,if_pos hx]
  ·rw [if_neg hx,if_neg hx]
   refine toF_left f1 f2 t1 t2 x (by simpa using hl) ?_
   rcases List.mem_cons.1 h with h | h
   ·exact absurd h hx
   ·exact h
theorem counting_add (a b : Nat) : ∃ r,counting (a + b) = counting a ++ r := by
 refine ⟨((List.range b).map (a + ·)).map fun (i : Nat) => (i : Int) + 1,?_⟩
 simp only [counting,List.range_add,List.map_append]
theorem counting_len (a : Nat) : (counting a).length = a := by simp [counting]
theorem id_mem {s : List It} {x : It} (hx : x ∈ s) (ht : isTag x = true) : x.id ∈ numbers s := by
 simp only [numbers,numbersFrom_fold]
 refine foldI_mem _ ?_
 simp only [List.mem_map,List.mem_filter]
 exact ⟨x,⟨hx,ht⟩,rfl⟩
theorem fm_congr {α β : Type} {f g : α → Option β} : ∀ {l : List α},(∀ x ∈ l,f x = g x) → l.filterMap f = l.filterMap g
 | [],_ => rfl
 | x :: l,h => by
  simp only [List.filterMap_cons,h x (by simp)]
  rw [fm_congr fun y hy => h y (by simp [hy])]
theorem canon_self (s t : List It) : canonS s t = canonS s s := by
 have e0 : ∀ l m : List Int,moreNumbers l m = m.foldl insI l := fun _ _ => rfl
 obtain ⟨r,hr⟩ := foldI_pre (numbers t) (numbers s)
 have e1 : canonNumbers s t = numbers s ++ r := by simp only [canonNumbers,e0,hr]
 have e2 : canonNumbers s s = numbers s := by simp only [canonNumbers,e0]; exact foldI_id _ _ fun _ h => h
 obtain ⟨q,hq⟩ := counting_add (numbers s).length r.length
 simp only [canonS,e1,e2,List.length_append,hq,rename]
 congr 1
 simp only [renamed]
 refine fm_congr fun x hx => ?_
 simp only [ren]
 by_cases ht : isTag x = true
 ·rw [if_pos ht,if_pos ht,toF_left _ _ _ _ _ (counting_len _).symm (id_mem hx ht)]
 ·rw [if_neg ht,if_neg ht]
theorem canonT_self (s : List It) : canonT s s = canonS s s := rfl
theorem asked_ok {e : En} (h : entryErr e = 0) : entryErr (asked e) = 0 := by
 simp only [entryErr] at h ⊢
 split at h
 ·rename_i h1; exact absurd h h1
 ·rename_i h1
  split at h
  ·rename_i h2; exact absurd h h2
  ·split at h
   ·simp at h
   ·rename_i h3
    split at h
    ·rename_i h4; exact absurd h h4
    ·rename_i h4
     split at h
     ·rename_i h5; exact absurd h h5
     ·rename_i h5
      have hc : canonOk e = true := by simpa using h3
      simp only [canonOk,Bool.and_eq_true] at hc
      have hc2 : canonOk (asked e) = true := by
       simp only [canonOk,asked,Bool.and_eq_true,canonT_self]
       rw [← canon_self e.source e.target]
       exact ⟨⟨hc.1.1,hc.1.2⟩,hc.1.2⟩
      have hn : (named (asked e).author && named (asked e).project) = true := rfl
      rw [if_neg (show ¬ validItems (asked e).source ≠ 0 from h1),if_neg (show ¬ validItems (asked e).target ≠ 0 from h1),if_neg (by rw [hc2]; simp),
       if_neg (show ¬ (parse (asked e).previous).2.2 ≠ 0 from h4),if_neg (show ¬ (parse (asked e).next).2.2 ≠ 0 from h5),if_neg (by rw [hn]; simp),if_neg (by simp [asked])]
def enEq (a b : En) : Bool := itsEq a.source b.source && (itsEq a.target b.target && (a.previous == b.previous && (a.next == b.next && (a.author == b.author && (a.project == b.project && (a.created == b.created && a.origin == b.origin))))))
theorem enEq_iff {a b : En} : enEq a b = true ↔ a = b := by
 obtain ⟨a1,a2,a3,a4,a5,a6,a7,a8⟩ := a
 obtain ⟨b1,b2,b3,b4,b5,b6,b7,b8⟩ := b
 simp [enEq,itsEq_iff]
def ensEq : List En → List En → Bool
 | [],[] => true
 | a :: x,b :: y => enEq a b && ensEq x y
 | _,_ => false
theorem ensEq_iff : ∀ {a b : List En},ensEq a b = true ↔ a = b
 | [],[] => by simp [ensEq]
 | a :: x,b :: y => by simp [ensEq,enEq_iff,ensEq_iff (a := x) (b := y)]
 | [],b :: y => by simp [ensEq]
 | a :: x,[] => by simp [ensEq]
theorem ensEq_len : ∀ {a b : List En},ensEq a b = true → a.length = b.length := fun h => by rw [ensEq_iff.1 h]
def place (x n : Int) : Int := if x.tmod n < 0 then x.tmod n + n else x.tmod n
theorem place_range {x n : Int} (h : 0 < n) : 0 ≤ place x n ∧ place x n < n := by
 have h1 := Int.tmod_lt_of_pos x h
 have h2 : - n < x.tmod n := Int.neg_lt_of_neg_lt (by
  have := Int.tmod_lt_of_pos (-x) h
  rw [Int.neg_tmod] at this
  omega)
 simp only [place]
 split <;> omega
def knEntry : En := ⟨[⟨1,[97],0⟩],[⟨1,[98],0⟩],[],[],[],[],0,1⟩
def knX : Opr := ⟨⟨4,0,1⟩,1,knEntry,[]⟩
def knY : Opr := ⟨⟨5,1,1⟩,2,⟨[⟨1,[97],0⟩],[],[],[],[],[],0,0⟩,[1]⟩
theorem knX_ok : opErr knX = 0 := by decide +kernel
theorem knY_ok : opErr knY = 0 := by decide +kernel
theorem kn_wins : wins knY knX = true ∧ wins knX knY = false ∧ concurrent knX knY = false := by decide +kernel
theorem knY_code : (encode knY).1.length = 25 ∧ (encode knY).2 = 0 := by decide +kernel
theorem kn_keys : opKey knX = [97,10,10] ∧ opKey knY = [97,10,10] := by decide +kernel
theorem sort_one (k : List UInt8) : List.mergeSort [k] leB = [k] := by simp
theorem kn_mem1 : memoryOf [knX] = [knEntry] := by
 have h : winners [knX] = [([97,10,10],knX)] := by
  simp [winners,winStep,kn_keys,getA_nil,updA]
 simp only [memoryOf,current,h,List.map_cons,List.map_nil,sort_one,List.filterMap_cons,List.filterMap_nil,getA_cons,if_true]
 rfl
theorem kn_mem2 : memoryOf [knY,knX] = [] := by
 have h : winners [knY,knX] = [([97,10,10],knY)] := by
  simp [winners,winStep,kn_keys,getA_nil,getA_cons,updA,kn_wins]
 simp only [memoryOf,current,h,List.map_cons,List.map_nil,sort_one,List.filterMap_cons,List.filterMap_nil,getA_cons,if_true]
 rfl
theorem knEntry_small : knEntry.small := ⟨by decide,by decide,by decide,by decide,by decide,by decide,by decide⟩
theorem knX_small : knX.small := ⟨knEntry_small,by decide,by decide,by decide⟩
theorem knY_small : knY.small := ⟨⟨by decide,by decide,by decide,by decide,by decide,by decide,by decide⟩,by decide,by decide,by decide⟩
end Go.Bt

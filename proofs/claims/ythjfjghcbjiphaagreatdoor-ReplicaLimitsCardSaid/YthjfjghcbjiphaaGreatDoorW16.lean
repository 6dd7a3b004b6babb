/- A part of the proof of the statement of the last text of this claim: for every two integers ReplicaLimits returns true and leaves the memory as it was. -/
import Derived.Test.YthjfjghcbjiphaaGreatDoorW13
import Derived.Test.YthjfjghcbjiphaaGreatDoorW15
set_option linter.all false

namespace Go.Bt
open Go Go.Pm
theorem hexhi (c : UInt8) : 0 ≤ (c.toNat : Int).fdiv (2 ^ min 4 IntKind.u8.bits) ∧ (c.toNat : Int).fdiv (2 ^ min 4 IntKind.u8.bits) < 16 ∧
  ([48,49,50,51,52,53,54,55,56,57,97,98,99,100,101,102] : List UInt8).getD ((c.toNat : Int).fdiv (2 ^ min 4 IntKind.u8.bits)).toNat 0 = hexDig (c.toNat / 16) := by
 revert c; exact u8_all (by decide +kernel)
theorem hexlo (c : UInt8) : 0 ≤ IntKind.u8.wrap (((BitVec.ofInt IntKind.u8.bits (c.toNat : Int) &&& BitVec.ofInt IntKind.u8.bits 15).toNat : Nat) : Int) ∧ IntKind.u8.wrap (((BitVec.ofInt IntKind.u8.bits (c.toNat : Int) &&& BitVec.ofInt IntKind.u8.bits 15).toNat : Nat) : Int) < 16 ∧
  ([48,49,50,51,52,53,54,55,56,57,97,98,99,100,101,102] : List UInt8).getD (IntKind.u8.wrap (((BitVec.ofInt IntKind.u8.bits (c.toNat : Int) &&& BitVec.ofInt IntKind.u8.bits 15).toNat : Nat) : Int)).toNat 0 = hexDig (c.toNat % 16) := by
 revert c; exact u8_all (by decide +kernel)
def itemText (x : It) : List UInt8 :=
 if x.kind = 1 then x.text.flatMap writB else if x.kind = 2 then 60 :: (Lib.itoa x.id ++ 58 :: (x.text ++ [62])) else if x.kind = 3 then 60 :: 47 :: (Lib.itoa x.id ++ 58 :: (x.text ++ [62]))
 else if x.kind = 4 then 60 :: (Lib.itoa x.id ++ 58 :: (x.text ++ [47,62])) else if x.kind = 5 then 123 :: (x.text ++ [125]) else []
def format (f : List It) : List UInt8 × Int := if validItems f ≠ 0 then ([],validItems f) else (f.flatMap itemText,0)
theorem writB_len (c : UInt8) : (writB c).length ≤ 4 := by
 simp only [writB]
 (repeat' split) <;> simp
theorem flatW_len (s : List UInt8) : (s.flatMap writB).length ≤ 4 * s.length := by
 induction s with
 | nil => simp
 | cons c s ih =>
  have := writB_len c
  simp only [List.flatMap_cons,List.length_append,List.length_cons]; omega
theorem itemsErr_kind : ∀ (rest pre : List It),itemsErr pre rest = 0 → ∀ x ∈ rest,1 ≤ x.kind ∧ x.kind ≤ 5 := by
 intro rest
 induction rest with
 | nil => intro pre h x hx; simp at hx
 | cons y rest ih =>
  intro pre h x hx
  simp only [itemsErr] at h
  split at h
  ·simp at h
  ·rename_i h1
   split at h
   ·simp at h
   ·rcases List.mem_cons.1 hx with rfl | hx
    ·simp only [itemFine] at h1
     by_cases k1 : x.kind = 1
     ·omega
     ·by_cases k5 : x.kind = 5
      ·omega
      ·by_cases k2 : x.kind = 2 ∨ x.kind = 4
       ·omega
       ·by_cases k3 : x.kind = 3
        ·omega
        ·simp [k1,k5,k2,k3] at h1
    ·exact ih _ h x hx
theorem validItems_kind {f : List It} (h : validItems f = 0) : ∀ x ∈ f,1 ≤ x.kind ∧ x.kind ≤ 5 := by
 simp only [validItems] at h
 split at h
 ·simp at h
 ·exact itemsErr_kind f [] h
theorem itemText_len (x : It) (h : -9223372036854775808 ≤ x.id ∧ x.id ≤ 9223372036854775807) : (itemText x).length ≤ 4 * x.text.length + 30 := by
 have h1 := Lib.itoa_length_le x.id h.1 h.2
 have h2 := flatW_len x.text
 simp only [itemText]
 split
 ·omega
 ·split
  ·simp; omega
  ·split
   ·simp; omega
   ·split
    ·simp; omega
    ·split
     ·simp; omega
     ·simp
theorem format_len (f : List It) (hl : f.length < 2 ^ 30) (ht : textLen f < 2 ^ 30) (hid : ∀ x ∈ f,-9223372036854775808 ≤ x.id ∧ x.id ≤ 9223372036854775807) : (format f).1.length < 2 ^ 36 := by
 have key : ∀ f : List It,(∀ x ∈ f,-9223372036854775808 ≤ x.id ∧ x.id ≤ 9223372036854775807) → (f.flatMap itemText).length ≤ 4 * textLen f + 30 * f.length := by
  intro f
  induction f with
  | nil => intro _; simp
  | cons x f ih =>
   intro h
   have h1 := ih fun y hy => h y (by simp [hy])
   have h2 := itemText_len x (h x (by simp))
   simp only [List.flatMap_cons,List.length_append,textLen,List.length_cons]
   omega
 have := key f hid
 simp only [format]
 split
 ·simp
 ·simp only; omega
structure En where
 source : List It
 target : List It
 previous : List UInt8
 next : List UInt8
 author : List UInt8
 project : List UInt8
 created : Int
 origin : Int
def En.cells (e : En) : List V := [.sl 3 (e.source.map It.cells),.sl 3 (e.target.map It.cells),.s e.previous,.s e.next,.s e.author,.s e.project,.i .i64 e.created,.i .i64 e.origin]
def named (s : List UInt8) : Bool := s == [] || isName s
def canonOk (e : En) : Bool := !(e.source.length == 0) && itsEq (canonS e.source e.target) e.source && itsEq (canonT e.source e.target) e.target
def entryErr (e : En) : Int :=
 if validItems e.source ≠ 0 then validItems e.source else if validItems e.target ≠ 0 then validItems e.target else
 if canonOk e = false then 1 else
 if (parse e.previous).2.2 ≠ 0 then (parse e.previous).2.2 else if (parse e.next).2.2 ≠ 0 then (parse e.next).2.2 else
 if (named e.author && named e.project) = false then 4 else
 if e.created < 0 ∨ 1073741824 < e.created ∨ e.origin < 1 ∨ 3 < e.origin then 1 else 0
structure En.small (e : En) : Prop where
 source : e.source.length < 2 ^ 30
 sourceT : textLen e.source < 2 ^ 30
 target : e.target.length < 2 ^ 30
 targetT : textLen e.target < 2 ^ 30
 previous : e.previous.length < 2 ^ 30
 next : e.next.length < 2 ^ 30
 ids : ∀ x ∈ e.source ++ e.target,-9223372036854775808 ≤ x.id ∧ x.id ≤ 9223372036854775807
def joinKey (e : En) : List UInt8 := (format e.source).1 ++ 10 :: (e.previous ++ 10 :: e.next)
def entryKey (e : En) : List UInt8 := if entryErr e ≠ 0 then [] else joinKey e
structure Opr where
 stamp : Stamp
 kind : Int
 entry : En
 seen : List Int
def Opr.cells (o : Opr) : List V := o.stamp.cells ++ [.i .i64 o.kind] ++ o.entry.cells ++ [.sl 1 (o.seen.map iRow)]
structure Opr.small (o : Opr) : Prop where
 entry : o.entry.small
 author : o.entry.author.length < 2 ^ 30
 project : o.entry.project.length < 2 ^ 30
 seen : o.seen.length < 2 ^ 30
def asked (e : En) : En := ⟨e.source,e.source,e.previous,e.next,[],[],0,1⟩
def looked (o : Opr) : En := if o.kind ≠ 2 then o.entry else asked o.entry
def bareEn (e : En) : Bool := e.target.length == 0 && (e.author == [] && (e.project == [] && (e.created == 0 && e.origin == 0)))
theorem looked_small {o : Opr} (h : o.small) : (looked o).small := by
 simp only [looked]
 split
 ·exact h.entry
 ·exact ⟨h.entry.source,h.entry.sourceT,h.entry.source,h.entry.sourceT,h.entry.previous,h.entry.next,fun x hx => h.entry.ids x (by
   simp only [asked,List.mem_append] at hx ⊢
   rcases hx with hx | hx <;> exact .inl hx)⟩
def vTrim (v : List Int) : List Int := vJoin v []
def opErr (o : Opr) : Int :=
 if stampOk o.stamp = false then 1 else
 if (o.kind ≠ 1 ∧ o.kind ≠ 2) ∨ vTrim o.seen ≠ o.seen then 1 else
 if o.seen.any (fun n => decide (128 < n)) then 1 else
 if vAt o.seen o.stamp.office ≠ o.stamp.number - 1 then 11 else
 if o.kind = 2 ∧ bareEn o.entry = false then 1 else entryErr (looked o)
def opKey (o : Opr) : List UInt8 := if opErr o ≠ 0 then [] else entryKey (looked o)
def lowB (n : Int) : UInt8 := UInt8.ofNat (n % 256).toNat
def be2 (n : Int) : List UInt8 := [lowB (n / 256),lowB n]
def be4 (n : Int) : List UInt8 := be2 (n / 65536) ++ be2 n
theorem be4_length (n : Int) : (be4 n).length = 4 := rfl
theorem be2_length (n : Int) : (be2 n).length = 2 := rfl
def encText (s : List UInt8) : List UInt8 := be4 s.length ++ s
def encBody (o : Opr) : List UInt8 :=
 [1,lowB o.kind] ++ be4 o.stamp.time ++ [lowB o.stamp.office] ++ be2 o.stamp.number ++ [lowB o.seen.length] ++ o.seen.flatMap be2 ++
 encText (format o.entry.source).1 ++ encText o.entry.previous ++ encText o.entry.next ++
 (if o.kind = 1 then encText (format o.entry.target).1 ++ encText o.entry.author ++ encText o.entry.project ++ be4 o.entry.created ++ [lowB o.entry.origin] else [])
def encode (o : Opr) : List UInt8 × Int := if opErr o ≠ 0 then ([],opErr o) else (encBody o,0)
def cmpB : List UInt8 → List UInt8 → Int
 | [],[] => 0
 | [],_ :: _ => -1
 | _ :: _,[] => 1
 | a :: x,b :: y => if a < b then -1 else if b < a then 1 else cmpB x y
def opOrd (a b : Opr) : Int :=
 let n := orI [cmpI a.stamp.office b.stamp.office,cmpI a.stamp.number b.stamp.number,cmpI a.stamp.time b.stamp.time,cmpI a.kind b.kind]
 if n ≠ 0 then n else cmpB (encode a).1 (encode b).1
def wins (a b : Opr) : Bool := decide (0 < cmpStamp a.stamp b.stamp) || (decide (cmpStamp a.stamp b.stamp = 0) && decide (0 < opOrd a b))
structure Rb where
 b : List UInt8
 bad : Bool
def Rb.take (r : Rb) (n : Nat) : List UInt8 × Rb :=
 if r.b.length < n then (List.replicate (min n 4) 0,⟨[],true⟩) else (r.b.take n,⟨r.b.drop n,r.bad⟩)
def beNat (l : List UInt8) : Int := l.foldl (fun a x => a * 256 + x.toNat) 0
def Rb.number (r : Rb) (n : Nat) : Int × Rb := (beNat (r.take n).1,(r.take n).2)
def Rb.text (r : Rb) : List UInt8 × Rb :=
 let p := r.number 4
 if (p.2.b.length : Int) < p.1 then ([],⟨p.2.b,true⟩) else p.2.take p.1.toNat
def Rb.numbers : Nat → Rb → List Int × Rb
 | 0,r => ([],r)
 | n + 1,r => let p := r.number 2; let q := Rb.numbers n p.2; (p.1 :: q.1,q.2)
def winStep (m : List (List UInt8 × Opr)) (o : Opr) : List (List UInt8 × Opr) :=
 if opKey o = [] then m else match getA (opKey o) m with
  | none => updA m (opKey o) o
  | some was => if wins o was then updA m (opKey o) o else m
def winners (l : List Opr) : List (List UInt8 × Opr) := if 1024 < l.length then [] else l.foldl winStep []
def leB (x y : List UInt8) : Bool := decide (x ≤ y)
def current (l : List Opr) : List Opr := (((winners l).map (·.1)).mergeSort leB).filterMap fun k => getA k (winners l)
def memoryOf (l : List Opr) : List En := ((current l).filter fun o => o.kind == 1).map (·.entry)
section
variable {α β : Type} [DecidableEq α]
theorem updA_keys (l : List (α × β)) (a : α) (b : β) : (updA l a b).map (·.1) = if (getA a l).isSome = true then l.map (·.1) else l.map (·.1) ++ [a] := by
 induction l with
 | nil => simp [updA,getA_nil]
 | cons p l ih =>
  simp only [updA,getA_cons]
  by_cases h : a = p.1
  ·simp [h]
  ·rw [if_neg h,List.map_cons,ih,if_neg h]
   split <;> rename_i h2
   ·simp
   ·simp
theorem getA_none {a : α} : ∀ {l : List (α × β)},getA a l = none ↔ a ∉ l.map (·.1) := by
 intro l
 induction l with
 | nil => simp [getA_nil]
 | cons p l ih =>
  rw [getA_cons]
  by_cases h : a = p.1
  ·simp [h]
  ·simp only [if_neg h,ih,List.map_cons,List.mem_cons,not_or]
   exact ⟨fun h2 => ⟨h,h2⟩,fun h2 => h2.2⟩
theorem getA_some {a : α} {l : List (α × β)} (h : a ∈ l.map (·.1)) : ∃ b,getA a l = some b := by
 cases hg : getA a l with
 | none => exact absurd h (getA_none.1 hg)
 | some b => exact ⟨b,rfl⟩
theorem updA_nodup {l : List (α × β)} {a : α} {b : β} (h : (l.map (·.1)).Nodup) : ((updA l a b).map (·.1)).Nodup := by
 rw [updA_keys]
 split
 ·exact h
 ·rename_i h2
  have h3 : a ∉ l.map (·.1) := fun hm => h2 (by obtain ⟨b,hb⟩ := getA_some hm; simp [hb])
  rw [List.nodup_append]
  refine ⟨h,by simp,?_⟩
  intro x hx y hy
  simp only [List.mem_cons,List.not_mem_nil,or_false] at hy
  subst hy
  exact fun e => h3 (e ▸ hx)
end
theorem winStep_nodup {m : List (List UInt8 × Opr)} {o : Opr} (h : (m.map (·.1)).Nodup) : ((winStep m o).map (·.1)).Nodup := by
 simp only [winStep]
 split
 ·exact h
 ·split
  ·exact updA_nodup h
  ·split
   ·exact updA_nodup h
   ·exact h
theorem winStep_len (m : List (List UInt8 × Opr)) (o : Opr) : (winStep m o).length ≤ m.length + 1 := by
 simp only [winStep]
 split
 ·omega
 ·split
  ·exact updA_len _ _ _
  ·split
   ·exact updA_len _ _ _
   ·omega
theorem fold_nodup (l : List Opr) : ∀ (m : List (List UInt8 × Opr)),(m.map (·.1)).Nodup → ((l.foldl winStep m).map (·.1)).Nodup := by
 induction l with
 | nil => intro m h; exact h
 | cons o l ih => intro m h; exact ih _ (winStep_nodup h)
theorem fold_len (l : List Opr) : ∀ (m : List (List UInt8 × Opr)),(l.foldl winStep m).length ≤ m.length + l.length := by
 induction l with
 | nil => intro m; simp
 | cons o l ih =>
  intro m
  have h1 := ih (winStep m o)
  have h2 := winStep_len m o
  simp only [List.foldl_cons,List.length_cons]
  omega
theorem winners_nodup (l : List Opr) : ((winners l).map (·.1)).Nodup := by
 simp only [winners]
 split
 ·simp
 ·exact fold_nodup l [] (by simp)
theorem winners_len (l : List Opr) : (winners l).length ≤ 1024 := by
 simp only [winners]
 split
 ·simp
 ·have := fold_len l []
  simp at this
  omega
theorem winStep_memN {m : List (List UInt8 × Opr)} {o : Opr} {p : List UInt8 × Opr} (h : p ∈ winStep m o) : p = (opKey o,o) ∨ p ∈ m := by
 have upd : ∀ {m : List (List UInt8 × Opr)},p ∈ updA m (opKey o) o → p = (opKey o,o) ∨ p ∈ m := by
  intro m
  induction m with
  | nil => intro h; simp [updA] at h; exact .inl h
  | cons q l ih =>
   intro h
   simp only [updA] at h
   split at h
   ·rcases List.mem_cons.1 h with h | h
    ·exact .inl h
    ·exact .inr (List.mem_cons_of_mem _ h)
   ·rcases List.mem_cons.1 h with h | h
    ·exact .inr (h ▸ List.mem_cons_self ..)
    ·rcases ih h with h | h
     ·exact .inl h
     ·exact .inr (List.mem_cons_of_mem _ h)
 simp only [winStep] at h
 split at h
 ·exact .inr h
 ·split at h
  ·exact upd h
  ·split at h
   ·exact upd h
   ·exact .inr h
theorem fold_mem (l : List Opr) : ∀ (m : List (List UInt8 × Opr)) (p : List UInt8 × Opr),p ∈ l.foldl winStep m → (p.1 = opKey p.2 ∧ p.2 ∈ l) ∨ p ∈ m := by
 induction l with
 | nil => intro m p h; exact .inr h
 | cons o l ih =>
  intro m p h
  rcases ih _ p h with h | h
  ·exact .inl ⟨h.1,List.mem_cons_of_mem _ h.2⟩
  ·rcases winStep_memN h with rfl | h
   ·exact .inl ⟨rfl,List.mem_cons_self ..⟩
   ·exact .inr h
theorem winners_mem {l : List Opr} {p : List UInt8 × Opr} (h : p ∈ winners l) : p.1 = opKey p.2 ∧ p.2 ∈ l := by
 simp only [winners] at h
 split at h
 ·simp at h
 ·rcases fold_mem l [] p h with h | h
  ·exact h
  ·simp at h
def sortedKeys (l : List Opr) : List (List UInt8) := ((winners l).map (·.1)).mergeSort leB
theorem sortedKeys_perm (l : List Opr) : (sortedKeys l).Perm ((winners l).map (·.1)) := List.mergeSort_perm _ _
theorem sortedKeys_some {l : List Opr} {k : List UInt8} (h : k ∈ sortedKeys l) : ∃ o,getA k (winners l) = some o := getA_some ((sortedKeys_perm l).mem_iff.1 h)
theorem sortedKeys_len (l : List Opr) : (sortedKeys l).length ≤ 1024 := by
 have := winners_len l
 rw [(sortedKeys_perm l).length_eq]; simpa using this
theorem current_len (l : List Opr) : (current l).length ≤ 1024 := Nat.le_trans (List.length_filterMap_le _ _) (sortedKeys_len l)
end Go.Bt
namespace Go.Bt
open Go.Pm
structure Off where
 number : Int
 clock : Int
 ops : List Opr
 log : List UInt8
 synced : Int
 down : Bool
def Off.cells (o : Off) : List V := [.i .i64 o.number,.i .i64 o.clock,.sl 13 (o.ops.map Opr.cells),.sl 1 (bytesV o.log),.i .i64 o.synced,.b o.down]
def Off.zero : Off := ⟨0,0,[],[],0,false⟩
structure Off.small (o : Off) : Prop where
 ops : ∀ x ∈ o.ops,x.small
 len : o.ops.length < 2 ^ 30
 log : o.log.length < 2 ^ 30
def newOff (n : Int) : Off × Int := if n < 0 ∨ 8 ≤ n then (.zero,1) else (⟨n,0,[],[],0,false⟩,0)
def ordNo (a b : Opr) : Int := orI [cmpI a.stamp.office b.stamp.office,cmpI a.stamp.number b.stamp.number]
end Go.Bt
namespace Go.Bt
open Go Go.Pm
def byteI (n : Int) : UInt8 := UInt8.ofNat (IntKind.u8.wrap n).toNat
theorem byteI_toNat (n : Int) : ((byteI n).toNat : Int) = IntKind.u8.wrap n := by
 have h : IntKind.u8.wrap n = n % 256 := by
  simp only [IntKind.wrap,IntKind.bits,IntKind.signed]; rfl
 rw [byteI,h]
 have h1 : (n % 256).toNat < 256 := by omega
 simp only [UInt8.toNat_ofNat']
 omega
def numB (n : Int) : List UInt8 := [byteI (n.fdiv (2 ^ 24)),byteI (n.fdiv (2 ^ 16)),byteI (n.fdiv (2 ^ 8)),byteI n]
def sumStep (h : Int) (x : UInt8) : Int :=
 IntKind.u32.wrap (IntKind.u32.wrap ((BitVec.ofInt IntKind.u32.bits h ^^^ BitVec.ofInt IntKind.u32.bits (IntKind.u32.wrap (x.toNat : Int))).toNat : Int) * 16777619)
def sumF (h : Int) (b : List UInt8) : Int := b.foldl sumStep h
def checkB (p : List UInt8) : List UInt8 := numB (sumF (sumF 2166136261 (numB (IntKind.u32.wrap (p.length : Int)))) p)
def appendF (log p : List UInt8) : List UInt8 × Int :=
 if 65536 < p.length ∨ 4194304 < log.length + 8 + p.length then ([],3) else (log ++ numB (IntKind.u32.wrap (p.length : Int)) ++ checkB p ++ p,0)
theorem numB_length (n : Int) : (numB n).length = 4 := rfl
def keyNo (o : Opr) : Int × Int := (o.stamp.office,o.stamp.number)
def addK (ks : List (Int × Int)) (k : Int × Int) : List (Int × Int) := if k ∈ ks then ks else ks ++ [k]
def kV (k : Int × Int) : V := .agg [.i .i64 k.1,.i .i64 k.2]
def entK (ks : List (Int × Int)) : List (V × V) := ks.map fun k => (kV k,.agg [])
theorem addK_mem {ks : List (Int × Int)} {k q : Int × Int} : q ∈ addK ks k ↔ q = k ∨ q ∈ ks := by
 unfold addK
 split
 ·rename_i h
  exact ⟨.inr,fun h2 => h2.elim (fun e => e ▸ h) id⟩
 ·simp [or_comm]
theorem keys_mem (l : List Opr) : ∀ (ks : List (Int × Int)) (q : Int × Int),q ∈ l.foldl (fun ks o => addK ks (keyNo o)) ks ↔ q ∈ ks ∨ ∃ o ∈ l,keyNo o = q := by
 induction l with
 | nil => simp
 | cons o l ih =>
  intro ks q
  rw [List.foldl_cons,ih,addK_mem]
  constructor
  ·rintro ((rfl | h) | ⟨p,h1,h2⟩)
   ·exact .inr ⟨o,by simp,rfl⟩
   ·exact .inl h
   ·exact .inr ⟨p,by simp [h1],h2⟩
  ·rintro (h | ⟨p,h1,h2⟩)
   ·exact .inl (.inr h)
   ·rcases List.mem_cons.1 h1 with rfl | h1
    ·exact .inl (.inl h2.symm)
    ·exact .inr ⟨p,h1,h2⟩
theorem eqK (k q : Int × Int) : scalEq 3 (kV k) (kV q) = some (k.1 == q.1 && k.2 == q.2) := by
 simp [scalEq,kV,pairEq]
theorem findK_none {k : Int × Int} : ∀ {ks : List (Int × Int)} {n : Nat},k ∉ ks → findV 3 (kV k) (entK ks) n = some none := by
 intro ks
 induction ks with
 | nil => intro n _; rfl
 | cons q ks ih =>
  intro n h
  simp only [List.mem_cons,not_or] at h
  have e : (k.1 == q.1 && k.2 == q.2) = false := by
   rcases k with ⟨a,b⟩; rcases q with ⟨c,d⟩
   simp only [Prod.mk.injEq] at h
   cases h1 : (a == c) <;> cases h2 : (b == d) <;> simp_all
  simp only [entK,List.map_cons,findV,eqK,e]
  exact ih h.2
theorem findK_some {k : Int × Int} : ∀ {ks : List (Int × Int)} {n : Nat},k ∈ ks → ∃ i,findV 3 (kV k) (entK ks) n = some (some (n + i,.agg [])) ∧ (entK ks)[i]? = some (kV k,.agg []) := by
 intro ks
 induction ks with
 | nil => intro n h; simp at h
 | cons q ks ih =>
  intro n h
  by_cases e : k = q
  ·subst e
   exact ⟨0,by simp [entK,findV,eqK],by simp [entK]⟩
  ·have e2 : (k.1 == q.1 && k.2 == q.2) = false := by
    rcases k with ⟨a,b⟩; rcases q with ⟨c,d⟩
    simp only [Prod.mk.injEq] at e
    cases h1 : (a == c) <;> cases h2 : (b == d) <;> simp_all
   have h : k ∈ ks := by
    rcases List.mem_cons.1 h with h | h
    ·exact absurd h e
    ·exact h
   obtain ⟨i,h1,h2⟩ := ih (n := n + 1) h
   refine ⟨i + 1,?_,by simpa [entK] using h2⟩
   simp only [entK,List.map_cons,findV,eqK,e2]
   rw [show n + (i + 1) = n + 1 + i by omega]
   exact h1
theorem entK_put (ks : List (Int × Int)) (k : Int × Int) :
  (k ∉ ks ∧ findV 3 (kV k) (entK ks) 0 = some none ∧ entK ks ++ [(kV k,.agg [])] = entK (addK ks k)) ∨
  (k ∈ ks ∧ ∃ i,findV 3 (kV k) (entK ks) 0 = some (some (i,.agg [])) ∧ (entK ks).set i (kV k,.agg []) = entK (addK ks k)) := by
 by_cases h : k ∈ ks
 ·obtain ⟨i,h1,h2⟩ := findK_some (n := 0) h
  rw [Nat.zero_add] at h1
  refine .inr ⟨h,i,h1,?_⟩
  rw [addK,if_pos h]
  obtain ⟨hi,h3⟩ := List.getElem?_eq_some_iff.1 h2
  rw [← h3,List.set_getElem_self]
 ·exact .inl ⟨h,findK_none h,by simp [addK,if_neg h,entK]⟩
def enEq (a b : En) : Bool := itsEq a.source b.source && (itsEq a.target b.target && (a.previous == b.previous && (a.next == b.next && (a.author == b.author && (a.project == b.project && (a.created == b.created && a.origin == b.origin))))))
theorem enEq_iff {a b : En} : enEq a b = true ↔ a = b := by
 obtain ⟨a1,a2,a3,a4,a5,a6,a7,a8⟩ := a
 obtain ⟨b1,b2,b3,b4,b5,b6,b7,b8⟩ := b
 simp [enEq,itsEq_iff]
def ensEq : List En → List En → Bool
 | [],[] => true
 | a :: x,b :: y => enEq a b && ensEq x y
 | _,_ => false
theorem ensEq_iff : ∀ {a b : List En},ensEq a b = true ↔ a = b
 | [],[] => by simp [ensEq]
 | a :: x,b :: y => by simp [ensEq,enEq_iff,ensEq_iff (a := x) (b := y)]
 | [],b :: y => by simp [ensEq]
 | a :: x,[] => by simp [ensEq]
theorem ensEq_len : ∀ {a b : List En},ensEq a b = true → a.length = b.length := fun h => by rw [ensEq_iff.1 h]
def place (x n : Int) : Int := if x.tmod n < 0 then x.tmod n + n else x.tmod n
theorem place_range {x n : Int} (h : 0 < n) : 0 ≤ place x n ∧ place x n < n := by
 have h1 := Int.tmod_lt_of_pos x h
 have h2 : - n < x.tmod n := Int.neg_lt_of_neg_lt (by
  have := Int.tmod_lt_of_pos (-x) h
  rw [Int.neg_tmod] at this
  omega)
 simp only [place]
 split <;> omega
def srcL : List (List UInt8) := [[83,97,118,101],[120],[114,101,100]]
def tgtL : List (List UInt8) := [[97],[98],[99],[100]]
def enAB (a b : List UInt8) : En := ⟨[⟨1,a,0⟩],[⟨1,b,0⟩],[],[],[],[],0,1⟩
def entryE (s t : Int) : En := enAB (srcL.getD (place s 3).toNat []) (tgtL.getD (place t 4).toNat [])
theorem enAB_ok : ∀ a ∈ srcL,∀ b ∈ tgtL,entryErr (enAB a b) = 0 ∧ (format [⟨1,a,0⟩]).1.length ≤ 8 ∧ (format [⟨1,b,0⟩]).1.length ≤ 8 ∧ a.length ≤ 8 ∧ b.length ≤ 8 := by decide +kernel
theorem entryE_at (s t : Int) : srcL.getD (place s 3).toNat [] ∈ srcL ∧ tgtL.getD (place t 4).toNat [] ∈ tgtL := by
 have h1 := place_range (x := s) (n := 3) (by decide)
 have h2 := place_range (x := t) (n := 4) (by decide)
 constructor
 ·rw [List.getD_eq_getElem?_getD,List.getElem?_eq_getElem (show (place s 3).toNat < srcL.length by simp only [srcL,List.length_cons,List.length_nil]; omega)]
  exact List.getElem_mem _
 ·rw [List.getD_eq_getElem?_getD,List.getElem?_eq_getElem (show (place t 4).toNat < tgtL.length by simp only [tgtL,List.length_cons,List.length_nil]; omega)]
  exact List.getElem_mem _
theorem entryE_ok (s t : Int) : entryErr (entryE s t) = 0 := (enAB_ok _ (entryE_at s t).1 _ (entryE_at s t).2).1
theorem entryE_small (s t : Int) : (entryE s t).small := by
 obtain ⟨_,_,_,h3,h4⟩ := enAB_ok _ (entryE_at s t).1 _ (entryE_at s t).2
 refine ⟨by simp [entryE,enAB],?_,by simp [entryE,enAB],?_,by simp [entryE,enAB],by simp [entryE,enAB],fun x hx => ?_⟩
 ·simp only [entryE,enAB,textLen]; omega
 ·simp only [entryE,enAB,textLen]; omega
 ·simp only [entryE,enAB,List.cons_append,List.nil_append,List.mem_cons,List.not_mem_nil,or_false] at hx
  rcases hx with rfl | rfl <;> exact ⟨by simp,by simp⟩
def opOf (tm ofc no : Int) (e : En) (sn : List Int) : Opr := ⟨⟨tm,ofc,no⟩,1,e,sn⟩
theorem opOf_ok {tm ofc no : Int} {s t : Int} {sn : List Int} (h1 : stampOk ⟨tm,ofc,no⟩ = true) (h2 : vTrim sn = sn) (h3 : ∀ n ∈ sn,n ≤ 128) (h4 : vAt sn ofc = no - 1) : opErr (opOf tm ofc no (entryE s t) sn) = 0 := by
 have e3 : sn.any (fun n => decide (128 < n)) = false := by
  rw [List.any_eq_false]
  intro n hn
  have := h3 n hn
  simp; omega
 simp only [opErr,opOf,h1,h2,e3,h4,looked]
 simp [entryE_ok]
theorem opOf_small {tm ofc no : Int} {s t : Int} {sn : List Int} (h : sn.length ≤ 8) : (opOf tm ofc no (entryE s t) sn).small :=
 ⟨entryE_small s t,by simp [opOf,entryE,enAB],by simp [opOf,entryE,enAB],by simp only [opOf]; omega⟩
theorem opOf_len {tm ofc no : Int} {s t : Int} {sn : List Int} (h : sn.length ≤ 8) : (encBody (opOf tm ofc no (entryE s t) sn)).length ≤ 92 := by
 obtain ⟨_,h1,h2,_,_⟩ := enAB_ok _ (entryE_at s t).1 _ (entryE_at s t).2
 have h3 : (sn.flatMap be2).length = 2 * sn.length := by
  clear h
  induction sn with
  | nil => rfl
  | cons a r ih => simp only [List.flatMap_cons,List.length_append,be2_length,ih,List.length_cons]; omega
 simp only [encBody,opOf,entryE,enAB,encText,if_true,List.length_append,be4_length,be2_length,List.length_cons,List.length_nil,h3]
 omega
def recF (p : List UInt8) : List UInt8 := numB (IntKind.u32.wrap (p.length : Int)) ++ checkB p ++ p
theorem recF_len (p : List UInt8) : (recF p).length = 8 + p.length := by simp only [recF,checkB,List.length_append,numB_length]
theorem appendF_ok {log p : List UInt8} (h1 : p.length ≤ 92) (h2 : log.length ≤ 1000000) : appendF log p = (log ++ recF p,0) := by
 rw [appendF,if_neg (by omega),recF]
 simp
theorem enc_ok {x : Opr} (h : opErr x = 0) : encode x = (encBody x,0) := by simp [encode,h]
def putOff (o : Off) (x : Opr) (m : Nat) : Off :=
 ⟨o.number,if o.clock < x.stamp.time then x.stamp.time else o.clock,o.ops.take m ++ x :: o.ops.drop m,o.log ++ recF (encBody x),o.synced,o.down⟩
def zeroOp : Opr := ⟨⟨0,0,0⟩,0,⟨[],[],[],[],[],[],0,0⟩,[]⟩
def seenI (i : Nat) : List Int := if i = 0 then [] else [0,i]
def opI (i : Nat) : Opr := opOf (i + 1) 1 (i + 1) (entryE i (i / 3)) (seenI i)
theorem seenI_len (i : Nat) : (seenI i).length ≤ 8 := by
 unfold seenI; split <;> simp
theorem opI_small (i : Nat) : (opI i).small := opOf_small (seenI_len i)
theorem seenI_trim (i : Nat) (hi : i < 129) : vTrim (seenI i) = seenI i := by
 have : ∀ i : Fin 129,vTrim (seenI i.1) = seenI i.1 := by decide +kernel
 exact this ⟨i,hi⟩
theorem seenI_at (i : Nat) (hi : i < 129) : vAt (seenI i) 1 = i := by
 have : ∀ i : Fin 129,vAt (seenI i.1) 1 = i.1 := by decide +kernel
 exact this ⟨i,hi⟩
theorem opI_ok (i : Nat) (hi : i < 128) : opErr (opI i) = 0 := by
 refine opOf_ok ?_ (seenI_trim i (by omega)) (fun n hn => ?_) ?_
 ·simp only [stampOk,decide_eq_true_eq]; omega
 ·unfold seenI at hn
  split at hn
  ·simp at hn
  ·simp only [List.mem_cons,List.not_mem_nil,or_false] at hn; omega
 ·rw [seenI_at i (by omega)]; omega
def offI : Nat → Off
 | 0 => ⟨1,0,[],[],0,false⟩
 | i + 1 => let o := putOff (offI i) (opI i) (offI i).ops.length; { o with synced := o.log.length }
theorem offI_ops (i : Nat) : (offI i).ops = (List.range i).map opI := by
 induction i with
 | zero => rfl
 | succ i ih =>
  simp only [offI,putOff,List.take_length,List.drop_length,List.range_succ,List.map_append,ih,List.map_cons,List.map_nil]
theorem offI_number (i : Nat) : (offI i).number = 1 := by
 induction i with
 | zero => rfl
 | succ i ih => simp only [offI,putOff,ih]
theorem offI_down (i : Nat) : (offI i).down = false := by
 induction i with
 | zero => rfl
 | succ i ih => simp only [offI,putOff,ih]
theorem offI_clock (i : Nat) : (offI i).clock = i := by
 induction i with
 | zero => rfl
 | succ i ih =>
  simp only [offI,putOff,ih,opI,opOf]
  split <;> omega
theorem offI_log (i : Nat) : (offI i).log.length ≤ 100 * i := by
 induction i with
 | zero => simp [offI]
 | succ i ih =>
  have := opOf_len (tm := i + 1) (ofc := 1) (no := i + 1) (s := i) (t := i / 3) (seenI_len i)
  simp only [offI,putOff,List.length_append,recF_len,opI]
  omega
theorem offI_small (i : Nat) (hi : i < 1000) : (offI i).small := by
 refine ⟨fun x hx => ?_,?_,?_⟩
 ·rw [offI_ops] at hx
  obtain ⟨j,_,rfl⟩ := List.mem_map.1 hx
  exact opI_small j
 ·rw [offI_ops]; simp; omega
 ·have := offI_log i; omega
theorem cmpI_self (a : Int) : cmpI a a = 0 := by simp [cmpI]
theorem cmpI_lt {a b : Int} (h : a < b) : cmpI a b = -1 := by rw [cmpI,if_pos h]
theorem ordNo_lt {a b : Opr} (h : a.stamp.office = b.stamp.office) (h2 : a.stamp.number < b.stamp.number) : ordNo a b = -1 := by
 simp only [ordNo,orI,h,cmpI_self,cmpI_lt h2]
 simp
theorem ordNo_gt {a b : Opr} (h : b.stamp.office < a.stamp.office) : ordNo a b = 1 := by
 have : cmpI a.stamp.office b.stamp.office = 1 := by rw [cmpI,if_neg (by omega),if_pos h]
 simp only [ordNo,orI,this]
 simp
theorem offI_last (i k : Nat) (y : Opr) (h : (offI i).ops[k]? = some y) : (0 ≤ ordNo y (opI i) ↔ (offI i).ops.length ≤ k) := by
 rw [offI_ops] at h ⊢
 simp only [List.getElem?_map,Option.map_eq_some_iff] at h
 obtain ⟨j,hj,rfl⟩ := h
 have hk : k < i := by simpa using (List.getElem?_eq_some_iff.1 hj).1
 have : j = k := by
  rw [List.getElem?_range hk] at hj
  simpa using hj.symm
 subst this
 have h2 : ordNo (opI j) (opI i) = -1 := ordNo_lt rfl (by simp only [opI,opOf]; omega)
 rw [h2]
 simp only [List.length_map,List.length_range]
 omega
def stEq (a b : Stamp) : Bool := a.time == b.time && (a.office == b.office && (a.number == b.number && true))
def opEq (a b : Opr) : Bool := stEq a.stamp b.stamp && a.kind == b.kind && enEq a.entry b.entry && a.seen == b.seen
end Go.Bt

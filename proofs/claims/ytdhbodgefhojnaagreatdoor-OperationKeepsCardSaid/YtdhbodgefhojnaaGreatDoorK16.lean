/- A part of the proof that OperationKeeps returns true and leaves its argument as it was, for every input. -/
import Derived.Test.YtdhbodgefhojnaaGreatDoorK15
set_option linter.all false

namespace Go.Bt
open Go Go.Pm
def lastGe (out : List (List UInt8)) (k : List UInt8) : Bool :=
 match out.getLast? with
 | none => false
 | some x => !Op.bytesLess x k
def keysGo : List En → List (List UInt8) → List (List UInt8) × Bool
 | [],out => (out,true)
 | e :: r,out => if entryErr e ≠ 0 then ([],false) else if lastGe out (joinKey e) = true then ([],false) else keysGo r (out ++ [joinKey e])
def keysOf (m : List En) : List (List UInt8) × Bool := if 1024 < m.length then ([],false) else keysGo m []
def KA (l : List (List UInt8)) : Prop := l.Pairwise fun a b => cmpB a b < 0
theorem KA_snoc {out : List (List UInt8)} {k : List UInt8} (h : KA out) (h2 : lastGe out k = false) : KA (out ++ [k]) := by
 simp only [KA,List.pairwise_append,List.pairwise_cons,List.not_mem_nil,List.Pairwise.nil,List.mem_cons,or_false] at h ⊢
 refine ⟨h,⟨fun _ h => h.elim,trivial⟩,?_⟩
 rintro a ha b rfl
 rcases List.eq_nil_or_concat out with rfl | ⟨o,x,rfl⟩
 ·simp at ha
 ·simp only [lastGe,List.concat_eq_append,List.getLast?_append,List.getLast?_singleton,Option.some_or,Bool.not_eq_eq_eq_not,Bool.not_false,bytesLess_cmpB,decide_eq_true_eq] at h2
  simp only [List.concat_eq_append,List.mem_append,List.mem_cons,List.not_mem_nil,or_false] at ha
  rcases ha with ha | rfl
  ·rw [List.concat_eq_append,List.pairwise_append] at h
   exact cmpB_lt_trans (h.2.2 a ha x (by simp)) h2
  ·exact h2
theorem keysGo_asc : ∀ (m : List En) (out : List (List UInt8)),KA out → KA (keysGo m out).1
 | [],_,h => h
 | e :: r,out,h => by
  simp only [keysGo]
  split
  ·simp [KA]
  ·split
   ·simp [KA]
   ·rename_i h2
    exact keysGo_asc r _ (KA_snoc h (by simpa using h2))
theorem keysOf_asc (m : List En) : KA (keysOf m).1 := by
 simp only [keysOf]
 split
 ·simp [KA]
 ·exact keysGo_asc m [] (by simp [KA])
theorem keysGo_len : ∀ (m : List En) (out : List (List UInt8)),(keysGo m out).1.length ≤ out.length + m.length ∧ ((keysGo m out).2 = true → (keysGo m out).1.length = out.length + m.length)
 | [],_ => by simp [keysGo]
 | e :: r,out => by
  simp only [keysGo]
  split
  ·simp
  ·split
   ·simp
   ·have := keysGo_len r (out ++ [joinKey e])
    simp only [List.length_append,List.length_cons,List.length_nil] at this ⊢
    exact ⟨by omega,fun h => by have := this.2 h; omega⟩
theorem keysOf_len (m : List En) : (keysOf m).1.length ≤ 1024 ∧ ((keysOf m).2 = true → (keysOf m).1.length = m.length) := by
 simp only [keysOf]
 split
 ·simp
 ·have := keysGo_len m []
  simp only [List.length_nil,Nat.zero_add] at this
  exact ⟨by omega,this.2⟩
theorem keysGo_ok : ∀ (m : List En) (out : List (List UInt8)),(∀ e ∈ m,entryErr e = 0) → KA (out ++ m.map joinKey) → keysGo m out = (out ++ m.map joinKey,true)
 | [],out,_,_ => by simp [keysGo]
 | e :: r,out,h,ha => by
  simp only [keysGo]
  rw [if_neg (by simp [h e (by simp)]),if_neg ?_,keysGo_ok r _ (fun x hx => h x (by simp [hx])) (by simpa using ha)]
  ·simp
  ·simp only [lastGe]
   rcases List.eq_nil_or_concat out with rfl | ⟨o,x,rfl⟩
   ·simp
   ·simp only [List.concat_eq_append,List.getLast?_append,List.getLast?_singleton,Option.some_or,bytesLess_cmpB]
    simp only [KA,List.map_cons,List.concat_eq_append,List.pairwise_append] at ha
    have := ha.2.2 x (by simp) (joinKey e) (by simp)
    simp [this]
def countLt (k : List UInt8) (l : List (List UInt8)) : Nat := l.countP fun y => decide (y < k)
theorem countLt_at {k : List UInt8} {a b : List (List UInt8)} (h : KA (a ++ k :: b)) : countLt k (a ++ k :: b) = a.length := by
 simp only [KA,List.pairwise_append,List.pairwise_cons] at h
 obtain ⟨_,⟨h2,_⟩,h3⟩ := h
 simp only [countLt,List.countP_append,List.countP_cons]
 have e1 : a.countP (fun y => decide (y < k)) = a.length := List.countP_eq_length.2 fun x hx => by
  simp only [decide_eq_true_eq,lt_cmpB]; exact h3 x hx k (by simp)
 have e2 : b.countP (fun y => decide (y < k)) = 0 := List.countP_eq_zero.2 fun x hx => by
  simp only [decide_eq_true_eq,lt_cmpB]
  have := h2 x hx
  have := cmpB_ord.anti k x
  omega
 have e3 : decide (k < k) = false := by simp only [decide_eq_false_iff_not,lt_cmpB,cmpB_ord.self]; omega
 rw [e1,e2,e3]; simp
def find (m : List En) (k : List UInt8) : Int :=
 if (keysOf m).2 = false ∨ countLt k (keysOf m).1 = (keysOf m).1.length ∨ (keysOf m).1.getD (countLt k (keysOf m).1) [] ≠ k then -1 else countLt k (keysOf m).1
theorem countLt_le (k : List UInt8) (l : List (List UInt8)) : countLt k l ≤ l.length := List.countP_le_length
structure IsMem (m : List En) : Prop where
 len : m.length ≤ 1024
 ok : ∀ e ∈ m,entryErr e = 0
 asc : KA (m.map joinKey)
theorem IsMem.keys {m : List En} (h : IsMem m) : keysOf m = (m.map joinKey,true) := by
 have hl := h.len
 simp only [keysOf]
 rw [if_neg (by omega),keysGo_ok m [] h.ok (by simpa using h.asc)]
 simp
theorem find_at {m : List En} (h : IsMem m) {e : En} (he : e ∈ m) : 0 ≤ find m (joinKey e) ∧ find m (joinKey e) < m.length ∧ m[(find m (joinKey e)).toNat]? = some e := by
 obtain ⟨a,b,rfl⟩ := List.append_of_mem he
 have hc : countLt (joinKey e) ((a ++ e :: b).map joinKey) = a.length := by
  have := countLt_at (k := joinKey e) (a := a.map joinKey) (b := b.map joinKey) (by have := h.asc; simpa using this)
  simpa using this
 have hf : find (a ++ e :: b) (joinKey e) = a.length := by
  simp only [find,h.keys,hc]
  rw [if_neg]
  simp [List.getD_eq_getElem?_getD]
 rw [hf]
 refine ⟨by omega,by simp; omega,?_⟩
 simp
theorem find_not {m : List En} (h : IsMem m) {k : List UInt8} (hk : ∀ e ∈ m,joinKey e ≠ k) : find m k = -1 := by
 simp only [find,h.keys]
 rw [if_pos]
 by_cases h1 : countLt k (m.map joinKey) = (m.map joinKey).length
 ·exact .inr (.inl h1)
 ·refine .inr (.inr fun e => ?_)
  have hlt : countLt k (m.map joinKey) < (m.map joinKey).length := by have := countLt_le k (m.map joinKey); omega
  rw [List.getD_eq_getElem?_getD,List.getElem?_eq_getElem hlt,Option.getD_some] at e
  have hm := List.getElem_mem hlt
  rw [e,List.mem_map] at hm
  obtain ⟨x,hx,hxe⟩ := hm
  exact hk x hx hxe
theorem conf_key {o : Opr} (h : opErr o = 0) (hk : o.kind = 1) : entryErr o.entry = 0 ∧ opKey o = joinKey o.entry := by
 have hl := (op_facts h).looked
 have e : looked o = o.entry := by simp [looked,hk]
 rw [e] at hl
 refine ⟨hl,?_⟩
 simp [opKey,h,e,entryKey,hl]
theorem key_ne {o : Opr} (h : opErr o = 0) : opKey o ≠ [] := by
 simp [opKey,h,entryKey,(op_facts h).looked,joinKey]
theorem memoryOf_isMem {m : List Opr} (hm : ∀ o ∈ m,opErr o = 0) : IsMem (memoryOf m) := by
 have hc : ∀ o ∈ (current m).filter (fun o => o.kind == 1),entryErr o.entry = 0 ∧ opKey o = joinKey o.entry := fun o ho => by
  rw [List.mem_filter] at ho
  exact conf_key (hm o (current_mem ho.1)) (by simpa using ho.2)
 refine ⟨memoryOf_len m,fun e he => ?_,?_⟩
 ·simp only [memoryOf,List.mem_map] at he
  obtain ⟨o,ho,rfl⟩ := he
  exact (hc o ho).1
 ·have hs : SS ((current m).filter fun o => o.kind == 1) := List.Pairwise.filter _ (current_SS m)
  have e : (memoryOf m).map joinKey = ((current m).filter fun o => o.kind == 1).map opKey := by
   simp only [memoryOf,List.map_map]
   exact List.map_congr_left fun o ho => ((hc o ho).2).symm
  rw [e]
  rw [KA,List.pairwise_map]
  exact hs
theorem keeps {m : List Opr} (hm : ∀ o ∈ m,opErr o = 0 ∧ o.small) (hl : m.length ≤ 1024) {x : Opr} (hx : x ∈ m) :
  (current m).countP (fun y => opKey x == opKey y) = 1 ∧ ∀ y ∈ current m,opKey x = opKey y → wins x y = false ∧
   (y.kind = 1 → 0 ≤ find (memoryOf m) (opKey x) ∧ find (memoryOf m) (opKey x) < (memoryOf m).length ∧ (memoryOf m)[(find (memoryOf m) (opKey x)).toNat]? = some y.entry) ∧
   (y.kind ≠ 1 → find (memoryOf m) (opKey x) = -1) := by
 have hs : ∀ o ∈ m,o.small := fun o ho => (hm o ho).2
 have hk := key_ne (hm x hx).1
 have hS := current_SS m
 have hM := memoryOf_isMem fun o ho => (hm o ho).1
 obtain ⟨w,hw⟩ : ∃ w,getK (opKey x) (current m) = some w := by
  cases hb : best (ofKey (opKey x) m) with
  | some v => exact ⟨v,by rw [getK_current,winners_best _ hk m hl,hb]⟩
  | none =>
   have e := best_none hb
   have : x ∈ ofKey (opKey x) m := by simp [ofKey,hx]
   rw [e] at this; simp at this
 obtain ⟨_,w1,w2,w3⟩ := (current_iff hl hs).1 hw
 have hwc : w ∈ current m := (getK_mem hw).1
 have only : ∀ y ∈ current m,opKey x = opKey y → y = w := fun y hy he => by
  have := getK_self hS hy
  rw [← he,hw] at this
  exact (Option.some.inj this).symm
 refine ⟨?_,fun y hy he => ?_⟩
 ·obtain ⟨a,b,hab⟩ := List.append_of_mem hwc
  rw [hab,SS,List.pairwise_append,List.pairwise_cons] at hS
  have no : ∀ y ∈ current m,y ∈ a ∨ y ∈ b → (opKey x == opKey y) = false := by
   intro y hy hyab
   cases hq : opKey x == opKey y with
   | false => rfl
   | true =>
    have hq := only y hy (by simpa using hq)
    subst hq
    rcases hyab with h | h
    ·have := hS.2.2 y h y (by simp); rw [cmpB_ord.self] at this; omega
    ·have := hS.2.1.1 y h; rw [cmpB_ord.self] at this; omega
  rw [hab,List.countP_append,List.countP_cons]
  rw [List.countP_eq_zero.2 fun y hy => by rw [no y (by rw [hab]; simp [hy]) (.inl hy)]; simp,List.countP_eq_zero.2 fun y hy => by rw [no y (by rw [hab]; simp [hy]) (.inr hy)]; simp]
  simp [w2]
 ·obtain rfl := only y hy he
  refine ⟨w3 x hx rfl,fun h1 => ?_,fun h1 => ?_⟩
  ·have hc := conf_key (hm y w1).1 h1
   rw [he,hc.2]
   exact find_at hM (by simp only [memoryOf,List.mem_map]; exact ⟨y,by simp [hy,h1],rfl⟩)
  ·refine find_not hM fun e he2 hj => h1 ?_
   simp only [memoryOf,List.mem_map,List.mem_filter] at he2
   obtain ⟨z,⟨hz,hz1⟩,rfl⟩ := he2
   have hz1 : z.kind = 1 := by simpa using hz1
   have := conf_key (hm z (current_mem hz)).1 hz1
   rw [← this.2] at hj
   rw [← only z hz hj.symm]
   exact hz1
def checkErr (before : List It) (x : It) : Int := if itemFine before.getLast? x = false then 1 else if (isTag x && !fits before x) = true then 7 else 0
theorem itemsErr_check : ∀ (rest pre : List It) (x : It),itemsErr pre (x :: rest) = if checkErr pre x ≠ 0 then checkErr pre x else itemsErr (pre ++ [x]) rest := by
 intro rest pre x
 simp only [itemsErr,checkErr]
 split
 ·simp
 ·split <;> simp
def normStep (out : List It) (x : It) : List It :=
 if x.kind ≠ 1 then out ++ [x] else if x.text = [] then out else
 match out.getLast? with
 | some y => if y.kind = 1 then out.dropLast ++ [⟨1,y.text ++ x.text,0⟩] else out ++ [⟨1,x.text,0⟩]
 | none => out ++ [⟨1,x.text,0⟩]
def normFold (f : List It) : List It := f.foldl normStep []
def endsText (out : List It) : Bool := match out.getLast? with
 | some y => y.kind == 1
 | none => false
theorem normN_fuel : ∀ (n m : Nat) (f : List It),f.length ≤ n → f.length ≤ m → normN n f = normN m f := by
 intro n
 induction n with
 | zero =>
  intro m f h _
  have : f = [] := List.eq_nil_of_length_eq_zero (by omega)
  subst this
  cases m <;> rfl
 | succ n ih =>
  intro m f h1 h2
  cases f with
  | nil => cases m <;> rfl
  | cons x r =>
   cases m with
   | zero => simp at h2
   | succ m =>
    simp only [List.length_cons] at h1 h2
    by_cases hk : x.kind = 1
    ·have hs := runText_short (x := x) (r := r) hk
     have hi := ih m (runText (x :: r)).2 (by omega) (by omega)
     simp only [normN,hk,ne_eq,not_true,if_false]
     split
     ·exact hi
     ·rw [hi]
    ·simp only [normN,if_pos hk]
     rw [ih m r (by omega) (by omega)]
theorem normalize_cons {x : It} {r : List It} (hk : x.kind ≠ 1) : normalize (x :: r) = x :: normalize r := by
 simp only [normalize,List.length_cons,normN,if_pos hk]
theorem normalize_text {x : It} {r : List It} (hk : x.kind = 1) : normalize (x :: r) = if (runText (x :: r)).1.length = 0 then normalize (runText (x :: r)).2 else ⟨1,(runText (x :: r)).1,0⟩ :: normalize (runText (x :: r)).2 := by
 have hs := runText_short (x := x) (r := r) hk
 have e : normN r.length (runText (x :: r)).2 = normN (runText (x :: r)).2.length (runText (x :: r)).2 := normN_fuel _ _ _ hs (Nat.le_refl _)
 simp only [normalize,List.length_cons,normN,hk,ne_eq,not_true,if_false,e]
def withText (t : List UInt8) (f : List It) : List It := if t = [] then normalize f else
 ⟨1,t ++ (runText f).1,0⟩ :: normalize (runText f).2
theorem fold_from : ∀ (f out : List It) (t : List UInt8),(endsText out = false) → f.foldl normStep (closed out t) = out ++ withText t f := by
 intro f
 induction f with
 | nil =>
  intro out t ho
  simp only [List.foldl_nil,withText,closed]
  split
  ·simp [normalize,normN]
  ·simp [runText,normalize,normN]
 | cons x f ih =>
  intro out t ho
  simp only [List.foldl_cons]
  by_cases hk : x.kind = 1
  ·by_cases hx : x.text = []
   ·have e1 : normStep (closed out t) x = closed out t := by simp [normStep,hk,hx]
    rw [e1,ih out t ho]
    congr 1
    simp only [withText]
    have hr : runText (x :: f) = ((runText f).1,(runText f).2) := by simp [runText,hk,hx]
    by_cases ht : t = []
    ·rw [if_pos ht,if_pos ht,normalize_text hk,hr]
     cases f with
     | nil => simp [runText,normalize,normN]
     | cons y f =>
      by_cases hy : y.kind = 1
      ·rw [normalize_text hy]
      ·simp [runText,hy]
    ·rw [if_neg ht,if_neg ht,hr]
   ·have e1 : normStep (closed out t) x = closed out (t ++ x.text) := by
     simp only [normStep,hk,ne_eq,not_true,if_false,if_neg hx]
     have hne : t ++ x.text ≠ [] := by simp [hx]
     by_cases ht : t = []
     ·subst ht
      rw [closed_nil]
      simp only [closed,List.nil_append,if_neg hx]
      simp only [endsText] at ho
      cases hg : out.getLast? with
      | none => rfl
      | some y =>
       rw [hg] at ho
       have hy : ¬ y.kind = 1 := by simpa using ho
       simp only [if_neg hy]
     ·simp [closed,ht]
    rw [e1,ih out _ ho]
    congr 1
    have hne : t ++ x.text ≠ [] := by simp [hx]
    simp only [withText,if_neg hne]
    have hr : runText (x :: f) = (x.text ++ (runText f).1,(runText f).2) := by simp [runText,hk]
    by_cases ht : t = []
    ·subst ht
     rw [if_pos rfl,normalize_text hk,hr]
     have : (x.text ++ (runText f).1).length ≠ 0 := by
      have := List.length_pos_iff.2 hx
      rw [List.length_append]; omega
     rw [if_neg this]
     simp
    ·rw [if_neg ht,hr]; simp
  ·have e1 : normStep (closed out t) x = closed (closed out t ++ [x]) [] := by
    rw [closed_nil]; simp [normStep,hk]
   have he : endsText (closed out t ++ [x]) = false := by simp [endsText,hk]
   rw [e1,ih _ [] he]
   have hr : runText (x :: f) = ([],x :: f) := by simp [runText,hk]
   simp only [withText,if_true,hr,List.append_nil,normalize_cons hk]
   by_cases ht : t = []
   ·simp [closed,ht]
   ·simp [closed,ht]
theorem normFold_eq (f : List It) : normFold f = normalize f := by
 have := fold_from f [] [] rfl
 rw [closed_nil] at this
 simpa [withText,normFold] using this
theorem textLen_append (a b : List It) : textLen (a ++ b) = textLen a + textLen b := by
 induction a with
 | nil => simp [textLen]
 | cons x a ih => simp only [List.cons_append,textLen,ih]; omega
theorem normStep_bound (out : List It) (x : It) : textLen (normStep out x) ≤ textLen out + x.text.length ∧ (normStep out x).length ≤ out.length + 1 := by
 simp only [normStep]
 split
 ·simp [textLen_append,textLen]
 ·split
  ·omega
  ·split
   ·rename_i y hy
    have hne : out ≠ [] := by rintro rfl; simp at hy
    have e : out = out.dropLast ++ [y] := by
     have := List.dropLast_concat_getLast hne
     rw [List.getLast?_eq_some_getLast hne] at hy
     simp only [Option.some.injEq] at hy
     rw [hy] at this
     exact this.symm
    split
    ·have h1 : textLen out = textLen out.dropLast + y.text.length := by
      conv => lhs; rw [e]
      simp [textLen_append,textLen]
     simp [textLen_append,textLen]
     omega
    ·simp [textLen_append,textLen]
   ·simp [textLen_append,textLen]
def rread (s : List UInt8) : It × Int := if (elementOf s).2.2 = true then ((elementOf s).1,(elementOf s).2.1) else (noIt,0)
theorem rread_bad {s : List UInt8} (h : (elementOf s).2.2 = false) : rread s = (noIt,0) := by simp [rread,h]
def rbody (kind : Int) (t : List UInt8) : It × Bool :=
 let k := min 4 (t.takeWhile digitB).length
 if k = 0 ∨ t.length ≤ k ∨ t.getD 0 0 = 48 ∨ 999 < decFrom 0 (t.take k) ∨ t.getD k 0 ≠ 58 then (noIt,false) else
 if (kind = 3 ∧ isName (t.drop (k + 1)) = false) ∨ (kind ≠ 3 ∧ isContent (t.drop (k + 1)) = false) then (noIt,false) else (⟨kind,t.drop (k + 1),decFrom 0 (t.take k)⟩,true)
def rtag (t : List UInt8) : It × Bool :=
 if hasPrefix t [47] = true then rbody 3 (t.drop 1) else if hasSuffix t [47] = true then rbody 4 (t.take (t.length - 1)) else rbody 2 t
def pbody (kind : Int) (a b : List UInt8) (cut : Bool) : It × Bool :=
 if (cut && (numberOf a).2) = true then (if (if kind = 3 then isName b else isContent b) = true then (⟨kind,b,(numberOf a).1⟩,true) else (noIt,false)) else (noIt,false)
theorem takeWhile_pre {a b : List UInt8} (h : ∀ c ∈ a,digitB c = true) : (a ++ 58 :: b).takeWhile digitB = a := by
 induction a with
 | nil => simp [show digitB 58 = false by decide]
 | cons x a ih =>
  have hx : digitB x = true := h x (by simp)
  simp [hx,ih fun c hc => h c (by simp [hc])]
theorem takeWhile_take {n : Nat} {t : List UInt8} (h : n ≤ (t.takeWhile digitB).length) : ∀ c ∈ t.take n,digitB c = true := by
 intro c hc
 have e : t.take n = (t.takeWhile digitB).take n := by
  have := List.takeWhile_append_dropWhile (p := digitB) (l := t)
  conv => lhs; rw [← this]
  rw [List.take_append_of_le_length h]
 rw [e] at hc
 have h2 := List.mem_of_mem_take hc
 exact List.all_eq_true.1 (List.all_takeWhile (p := digitB) (l := t)) c h2
theorem dec_four {a b c d : UInt8} {r : List UInt8} (ha : digitB a = true) (h48 : a ≠ 48) (hb : digitB b = true) (hc : digitB c = true) (hd : digitB d = true) : 999 < decFrom 0 [a,b,c,d] := by
 simp only [digitB,Bool.and_eq_true,decide_eq_true_eq] at ha hb hc hd
 have : a.toNat ≠ 48 := fun e => h48 (UInt8.toNat_inj.1 e)
 simp only [decFrom,List.foldl_cons,List.foldl_nil]
 omega
theorem rbody_eq (kind : Int) (t : List UInt8) : rbody kind t = pbody kind (cutAt t 58).1 (cutAt t 58).2.1 (cutAt t 58).2.2 := by
 by_cases hc : ((cutAt t 58).2.2 && (numberOf (cutAt t 58).1).2) = true
 ·have hc2 := hc
  simp only [Bool.and_eq_true] at hc2
  obtain ⟨n1,n2,n3⟩ := numberOf_inv hc2.2
  have e1 := cutAt_inv hc2.1
  generalize ha : (cutAt t 58).1 = a at *
  generalize hb : (cutAt t 58).2.1 = b at *
  have hn := itoa_num (numberOf a).1 ⟨n2,n3⟩
  rw [← n1] at hn
  have hnum := hc2.2
  simp only [numberOf] at hnum
  by_cases h1 : a.length < 1 ∨ 3 < a.length ∨ a.getD 0 0 = 48
  ·rw [if_pos h1] at hnum; simp at hnum
  ·have hall : a.all digitB = true := List.all_eq_true.2 hn.2.1
   have hv : (numberOf a).1 = decFrom 0 a := by simp only [numberOf,if_neg h1,hall,if_true]
   have hk : min 4 (t.takeWhile digitB).length = a.length := by rw [e1,takeWhile_pre hn.2.1]; omega
   have ht : t.take a.length = a := by rw [e1]; simp
   have hd : t.drop (a.length + 1) = b := by rw [e1]; simp
   have hl : ¬ t.length ≤ a.length := by rw [e1]; simp
   have h0 : t.getD 0 0 = a.getD 0 0 := by
    rw [e1]
    cases a with
    | nil => simp at h1
    | cons x a => rfl
   have h58 : t.getD a.length 0 = 58 := by rw [e1]; simp [List.getD_eq_getElem?_getD]
   simp only [rbody,pbody,hc,if_true,hk,ht,hd,h0,h58]
   rw [if_neg (by
    simp only [not_or] at h1 ⊢
    exact ⟨by omega,hl,h1.2.2,by rw [← hv]; omega,by simp⟩)]
   by_cases hk3 : kind = 3
   ·simp only [hk3,true_and,if_true,ne_eq,not_true,false_and,or_false,hv]
    by_cases hb : isName b = true <;> simp [hb]
   ·simp only [hk3,false_and,if_false,ne_eq,not_false_eq_true,true_and,false_or,hv]
    by_cases hb : isContent b = true <;> simp [hb]
 ·simp only [pbody,if_neg hc,rbody]
  refine if_pos ?_
  apply Classical.byContradiction
  intro hne
  apply hc
  simp only [not_or,Int.not_lt,Nat.not_le,Decidable.not_not] at hne
  obtain ⟨g1,g2,g3,g4,g5⟩ := hne
  generalize hk : min 4 (t.takeWhile digitB).length = k at *
  have hall := takeWhile_take (n := k) (t := t) (by omega)
  have e1 : t = t.take k ++ 58 :: t.drop (k + 1) := by
   conv => lhs; rw [← List.take_append_drop k t]
   congr 1
   rw [List.drop_eq_getElem_cons g2]
   congr 1
   rw [List.getD_eq_getElem?_getD,List.getElem?_eq_getElem g2] at g5
   simpa using g5
  have hno : (58 : UInt8) ∉ t.take k := fun hm => absurd (hall _ hm) (by decide)
  have hcut : cutAt t 58 = (t.take k,t.drop (k + 1),true) := by
   conv => lhs; rw [e1]
   exact cutAt_at hno
  rw [hcut]
  have hlen : (t.take k).length = k := by rw [List.length_take]; omega
  have hfirst : (t.take k).getD 0 0 = t.getD 0 0 := by
   cases t with
   | nil => simp
   | cons x t =>
    obtain ⟨m,rfl⟩ : ∃ m,k = m + 1 := ⟨k - 1,by omega⟩
    rfl
  have hk4 : k ≤ 3 := by
   apply Classical.byContradiction
   intro h
   have h4 : k = 4 := by omega
   subst h4
   match t,g2,hall,g3,g4 with
   | a :: b :: c :: d :: r,_,hall,g3,g4 =>
    have := dec_four (r := r) (hall a (by simp)) (by simpa using g3) (hall b (by simp)) (hall c (by simp)) (hall d (by simp))
    simp only [List.take_succ_cons,List.take_zero] at g4
    omega
   | [],h,_,_,_ => simp at h
   | [_],h,_,_,_ => simp at h
   | [_,_],h,_,_,_ => simp at h
   | [_,_,_],h,_,_,_ => simp at h
  simp only [Bool.true_and,numberOf]
  rw [if_neg (by rw [hlen,hfirst]; simp only [not_or]; exact ⟨by omega,by omega,g3⟩),if_pos (List.all_eq_true.2 hall)]
def okOr (p : It × Bool) : It × Bool := if p.2 = true then p else (noIt,false)
theorem okOr_body (kind : Int) (a b : List UInt8) (cut : Bool) :
  okOr (if (cut && (numberOf a).2) = true then (⟨kind,b,(numberOf a).1⟩,if kind = 3 then isName b else isContent b) else (⟨0,[],0⟩,false)) = pbody kind a b cut := by
 simp only [pbody]
 by_cases hc : (cut && (numberOf a).2) = true
 ·rw [if_pos hc,if_pos hc]
  simp only [okOr]
  generalize (if kind = 3 then isName b else isContent b) = X
  cases X <;> rfl
 ·rw [if_neg hc,if_neg hc]; rfl
theorem hasSuffix_snoc {t : List UInt8} {x c : UInt8} : hasSuffix (t ++ [x]) [c] = (x == c) := by
 simp [hasSuffix]
theorem hasSuffix_cut {a b : List UInt8} : hasSuffix (a ++ 58 :: b) [47] = hasSuffix b [47] := by
 rcases List.eq_nil_or_concat b with hb | ⟨b',x,hb⟩
 ·subst hb
  rw [hasSuffix_snoc]; rfl
 ·rw [List.concat_eq_append] at hb
  subst hb
  rw [hasSuffix_snoc,show a ++ 58 :: (b' ++ [x]) = (a ++ 58 :: b') ++ [x] by simp,hasSuffix_snoc]
theorem cutAt_none {s : List UInt8} {c : UInt8} (h : c ∉ s) : cutAt s c = (s,[],false) := by
 simp only [cutAt,indexByte_none h]; rfl
theorem cutAt_mem {s : List UInt8} {c : UInt8} (h : c ∈ s) : (cutAt s c).2.2 = true := by
 simp only [cutAt]; rw [if_pos (indexByte_some h)]
theorem indexByte_first {c : UInt8} : ∀ {s : List UInt8},c ∉ s.take (Lib.indexByte s c).toNat
 | [] => by simp
 | a :: s => by
  by_cases ha : a = c
  ·subst ha; simp [Lib.indexByte]
  ·have ha2 : (a == c) = false := by simpa using ha
   have hl := indexByte_low c s
   simp only [Lib.indexByte,ha2,Bool.false_eq_true,if_false]
   by_cases h1 : (Lib.indexByte s c == -1) = true
   ·rw [if_pos h1]; simp
   ·rw [if_neg h1]
    have h2 : Lib.indexByte s c ≠ -1 := by simpa using h1
    have h3 : (Lib.indexByte s c + 1).toNat = (Lib.indexByte s c).toNat + 1 := by omega
    rw [h3,List.take_succ_cons]
    intro hm
    rcases List.mem_cons.1 hm with hm | hm
    ·exact ha hm.symm
    ·exact indexByte_first hm
theorem cutAt_before {s : List UInt8} {c : UInt8} (h : c ∈ s) : c ∉ (cutAt s c).1 := by
 simp only [cutAt]; rw [if_pos (indexByte_some h)]
 exact indexByte_first
theorem rtag_eq (t : List UInt8) : rtag t = okOr (tagOf t) := by
 unfold rtag tagOf
 dsimp only
 cases hp : hasPrefix t [47] with
 | true =>
  simp only [if_true,Bool.not_true,Bool.false_and,Bool.false_eq_true,if_false]
  rw [rbody_eq,← okOr_body]
  rfl
 | false =>
  simp only [Bool.false_eq_true,if_false,Bool.not_false,Bool.true_and]
  by_cases hm : (58 : UInt8) ∈ t
  ·have hc := cutAt_mem hm
   have hb := cutAt_before hm
   have e1 := cutAt_inv hc
   generalize ha : (cutAt t 58).1 = a at *
   generalize hbb : (cutAt t 58).2.1 = b at *
   have hs : hasSuffix t [47] = hasSuffix b [47] := by conv => lhs; rw [e1,hasSuffix_cut]
   rw [hs]
   cases hsb : hasSuffix b [47] with
   | true =>
    simp only [if_true]
    have hbn : b ≠ [] := by rintro rfl; simp [hasSuffix] at hsb
    have et : t.take (t.length - 1) = a ++ 58 :: b.take (b.length - 1) := by
     have hpos := List.length_pos_iff.2 hbn
     rw [e1]
     simp only [List.length_append,List.length_cons]
     rw [List.take_append,List.take_of_length_le (by omega)]
     have : a.length + (b.length + 1) - 1 - a.length = (b.length - 1) + 1 := by omega
     rw [this,List.take_succ_cons]
    rw [rbody_eq,et,cutAt_at hb,← okOr_body,hc]
   | false =>
    simp only [Bool.false_eq_true,if_false]
    rw [rbody_eq,ha,hbb,hc,← okOr_body]
  ·have hm2 : (58 : UInt8) ∉ t.take (t.length - 1) := fun h => hm (List.mem_of_mem_take h)
   have e0 : ∀ k,rbody k t = (noIt,false) := fun k => by rw [rbody_eq,cutAt_none hm]; rfl
   have e2 : rbody 4 (t.take (t.length - 1)) = (noIt,false) := by rw [rbody_eq,cutAt_none hm2]; rfl
   rw [cutAt_none hm,e0,e2]
   simp [okOr]
theorem rread_tag {s : List UInt8} (h0 : s.getD 0 0 = 60) : rread s = if Lib.indexByte s 62 < 0 then (noIt,0) else
  (if (rtag ((s.take (Lib.indexByte s 62).toNat).drop 1)).2 = true then ((rtag ((s.take (Lib.indexByte s 62).toNat).drop 1)).1,Lib.indexByte s 62 + 1) else (noIt,0)) := by
 have e : elementOf s = if Lib.indexByte s 62 < 0 then (noIt,0,false) else ((tagOf ((s.take (Lib.indexByte s 62).toNat).drop 1)).1,Lib.indexByte s 62 + 1,(tagOf ((s.take (Lib.indexByte s 62).toNat).drop 1)).2) := by
  simp only [elementOf,h0]
  rw [if_neg (by decide),if_pos trivial]
 rw [rread,e]
 by_cases hi : Lib.indexByte s 62 < 0
 ·simp [hi]
 ·rw [if_neg hi,if_neg hi,rtag_eq,okOr]
  generalize tagOf ((s.take (Lib.indexByte s 62).toNat).drop 1) = p
  obtain ⟨x,b⟩ := p
  cases b <;> rfl
theorem rread_char {s : List UInt8} {c : UInt8} (h : hasPrefix s (writB c) = true) : rread s = (⟨1,[c],0⟩,((writB c).length : Int)) := by
 have e : s = writB c ++ s.drop (writB c).length := by
  simp only [hasPrefix,Bool.and_eq_true,decide_eq_true_eq,beq_iff_eq] at h
  conv => lhs; rw [← List.take_append_drop (writB c).length s,h.2]
 rw [rread,e,elem_char]
 simp
theorem itemText_angle {x : It} (hk : x.kind ≠ 1) (h : itemFine none x = true) : ∃ r,itemText x = 60 :: r ∨ (itemText x = 123 :: (x.text ++ [125]) ∧ isName x.text = true) := by
 simp only [itemFine,if_neg hk] at h
 simp only [itemText,if_neg hk]
 by_cases k5 : x.kind = 5
 ·rw [if_pos k5,Bool.and_eq_true] at h
  refine ⟨[],.inr ⟨?_,h.1⟩⟩
  simp [k5]
 ·rw [if_neg k5] at h
  by_cases k2 : x.kind = 2
  ·exact ⟨_,.inl (by rw [if_pos k2])⟩
  ·by_cases k4 : x.kind = 4
   ·exact ⟨_,.inl (by rw [if_neg k2,if_neg (by omega),if_pos k4])⟩
   ·rw [if_neg (by omega)] at h
    by_cases k3 : x.kind = 3
    ·exact ⟨_,.inl (by rw [if_neg k2,if_pos k3])⟩
    ·rw [if_neg k3] at h; simp at h
theorem rread_none {s : List UInt8} (hs : s ≠ []) (h60 : s.getD 0 0 ≠ 60) (h123 : s.getD 0 0 ≠ 123) (h : ∀ c,hasPrefix s (writB c) = false) : rread s = (noIt,0) := by
 refine rread_bad ?_
 apply Classical.byContradiction
 intro ht
 rcases elem_inv hs (by simpa using ht) with ⟨c,_,he⟩ | ⟨hk,hf,he⟩
 ·have := h c
  rw [he] at this
  simp [hasPrefix] at this
 ·obtain ⟨r,h1 | ⟨h1,_⟩⟩ := itemText_angle hk hf
  ·rw [h1] at he; rw [he] at h60; simp at h60
  ·rw [h1] at he; rw [he] at h123; simp at h123
theorem writB_slot : ∀ c : UInt8,(writB c).getD 0 0 ≠ 123 ∧ writB c ≠ [] := u8_all (by decide +kernel)
theorem rread_slot {s : List UInt8} {k : Nat} (h123 : s.getD 0 0 = 123) (hk1 : 1 ≤ k) (hk : k < s.length) (hb : s.getD k 0 = 125) (hn : isName ((s.take k).drop 1) = true) :
  rread s = (⟨5,(s.take k).drop 1,0⟩,(k : Int) + 1) := by
 have e : s = 123 :: ((s.take k).drop 1 ++ 125 :: s.drop (k + 1)) := by
  cases s with
  | nil => simp at hk
  | cons a s =>
   simp only [List.getD_cons_zero] at h123
   subst h123
   obtain ⟨m,rfl⟩ : ∃ m,k = m + 1 := ⟨k - 1,by omega⟩
   simp only [List.length_cons] at hk
   have hm : m < s.length := by omega
   simp only [List.take_succ_cons,List.drop_succ_cons,List.drop_zero]
   congr 1
   conv => lhs; rw [← List.take_append_drop m s]
   congr 1
   rw [List.drop_eq_getElem_cons hm]
   congr 1
   rw [List.getD_cons_succ,List.getD_eq_getElem?_getD,List.getElem?_eq_getElem hm] at hb
   simpa using hb
 have hl : ((s.take k).drop 1).length = k - 1 := by rw [List.length_drop,List.length_take]; omega
 have := elem_slot ((s.take k).drop 1) (s.drop (k + 1)) hn
 rw [← e] at this
 rw [rread,this]
 simp only [if_true,hl]
 congr 1
 omega
theorem rread_noslot {s : List UInt8} (h123 : s.getD 0 0 = 123) (h : ∀ k,1 ≤ k → k < s.length → k ≤ 25 → ¬ (s.getD k 0 = 125 ∧ isName ((s.take k).drop 1) = true)) : rread s = (noIt,0) := by
 have hs : s ≠ [] := by rintro rfl; simp at h123
 refine rread_bad ?_
 apply Classical.byContradiction
 intro ht
 rcases elem_inv hs (by simpa using ht) with ⟨c,_,he⟩ | ⟨hk,hf,he⟩
 ·have h1 := writB_slot c
  rw [he] at h123
  cases hw : writB c with
  | nil => exact h1.2 hw
  | cons a w =>
   rw [hw] at h123 h1
   exact h1.1 (by simpa using h123)
 ·obtain ⟨r,h1 | ⟨h1,hn⟩⟩ := itemText_angle hk hf
  ·rw [h1] at he; rw [he] at h123; simp at h123
  ·rw [h1] at he
   generalize (elementOf s).1.text = t at *
   have hl : t.length ≤ 24 := by
    cases t with
    | nil => simp
    | cons c t =>
     simp only [isName,Bool.and_eq_true,decide_eq_true_eq] at hn
     exact hn.1.1
   generalize s.drop (elementOf s).2.1.toNat = d at he
   have e : s = (123 :: t) ++ 125 :: d := by rw [he]; simp
   refine h (t.length + 1) (by omega) (by rw [e]; simp) (by omega) ⟨?_,?_⟩
   ·rw [e]
    rw [show t.length + 1 = (123 :: t).length by simp,s_at]
   ·rw [e]
    rw [show t.length + 1 = (123 :: t).length by simp]
    simpa using hn
def rparseN : Nat → List It → Int → List UInt8 → Int → List It × Int × Int
 | 0,_,_,_,at' => ([],at',2)
 | _ + 1,f,_,[],_ => (f,0,0)
 | n + 1,f,len,c :: l,at' =>
  let p := rread (c :: l)
  if p.2 = 0 then ([],at',2) else if p.1.kind ≠ 1 ∧ checkErr f p.1 ≠ 0 then ([],at',checkErr f p.1) else
  let g := normalize (f ++ [p.1])
  if 512 < g.length ∨ 1024 < len + 1 then ([],at',3) else rparseN n g (len + 1) ((c :: l).drop p.2.toNat) (at' + p.2)
theorem normFold_snoc (f : List It) (x : It) : normFold (f ++ [x]) = normStep (normFold f) x := by simp [normFold]
theorem normalize_snoc {f : List It} {x : It} (h : normalize f = f) : normalize (f ++ [x]) = normStep f x := by
 rw [← normFold_eq,normFold_snoc,normFold_eq,h]
theorem normStep_char {f : List It} {t : List UInt8} {c : UInt8} (h : ∀ x,f.getLast? = some x → x.kind ≠ 1) : normStep (closed f t) ⟨1,[c],0⟩ = closed f (t ++ [c]) := by
 by_cases ht : t = []
 ·subst ht
  rw [closed_nil]
  simp only [normStep,closed,ne_eq,not_true,if_false,List.nil_append]
  rw [if_neg (by simp),if_neg (by simp)]
  cases hg : f.getLast? with
  | none => rfl
  | some y => simp only [if_neg (h y hg)]
 ·simp [normStep,closed,ht]
theorem normStep_item {f : List It} {x : It} (h : x.kind ≠ 1) : normStep f x = f ++ [x] := by simp [normStep,h]
theorem norm_closed {f : List It} {t : List UInt8} (h3 : normalize f = f) (h : ∀ x,f.getLast? = some x → x.kind ≠ 1) : normalize (closed f t) = closed f t := by
 by_cases ht : t = []
 ·subst ht; rw [closed_nil]; exact h3
 ·have e : closed f t = f ++ [⟨1,t,0⟩] := by simp [closed,ht]
  rw [e,normalize_snoc h3]
  simp only [normStep,ne_eq,not_true,if_false,if_neg ht]
  cases hg : f.getLast? with
  | none => rfl
  | some y => simp only [if_neg (h y hg)]
theorem rparse_eq : ∀ (n : Nat) (f : List It) (t l : List UInt8) (at' : Int),itemsErr [] (closed f t) = 0 → (∀ x,f.getLast? = some x → x.kind ≠ 1) → normalize f = f →
  rparseN n (closed f t) ((total f + t.length : Nat) : Int) l at' = parseN n (rdOf f t) l at' := by
 intro n
 induction n with
 | zero => intros; rfl
 | succ n ih =>
  intro f t l at' h1 h2 h3
  have h4 := norm_closed (t := t) h3 h2
  cases l with
  | nil => simp only [rparseN,parseN,rdFlush_of]
  | cons c l =>
   have hf : itemsErr [] f = 0 := by
    simp only [closed] at h1
    split at h1
    ·exact h1
    ·rw [itemsErr_snoc] at h1; exact h1.1
   simp only [rparseN,parseN]
   by_cases he : (elementOf (c :: l)).2.2 = true
   ·have hok := (elementOf_ok (s := c :: l) (by simp)).2.2 he
    have hr : rread (c :: l) = ((elementOf (c :: l)).1,(elementOf (c :: l)).2.1) := by rw [rread,if_pos he]
    simp only [hr,he,Bool.true_eq_false,if_false]
    rw [if_neg (by omega)]
    rcases elem_inv (s := c :: l) (by simp) he with ⟨b,e0,_⟩ | ⟨e0,e1,_⟩
    ·rw [e0,rdAdd_char,if_neg (by simp),normalize_snoc h4,normStep_char h2]
     have ht : (512 < (closed f (t ++ [b])).length ∨ (1024 : Int) < ((total f + t.length : Nat) : Int) + 1) ↔ tooMany f t ⟨1,[b],0⟩ := by
      simp only [tooMany,closed_len,List.length_append,List.length_cons,List.length_nil,ne_eq,not_true,false_or]
      by_cases h0 : t.length = 0
      ·rw [if_pos (by omega),if_neg (by omega),if_pos h0]; omega
      ·rw [if_pos (by omega),if_pos (by omega),if_neg h0]; omega
     by_cases hm : tooMany f t ⟨1,[b],0⟩
     ·rw [if_pos (ht.2 hm),if_pos hm]; simp
     ·rw [if_neg (fun h => hm (ht.1 h)),if_neg hm]
      simp only [ne_eq,not_true,if_false]
      have hcl : closed f (t ++ [b]) = f ++ [⟨1,t ++ [b],0⟩] := by simp [closed]
      have hv : itemsErr [] (closed f (t ++ [b])) = 0 := by
       rw [hcl,itemsErr_snoc]
       refine ⟨hf,?_,by simp [isTag]⟩
       simp only [itemFine,if_true,List.nil_append,Bool.and_eq_true]
       refine ⟨⟨by simp,by simp⟩,?_⟩
       cases hg : f.getLast? with
       | none => rfl
       | some y => simpa using h2 y hg
      have := ih f (t ++ [b]) ((c :: l).drop (elementOf (c :: l)).2.1.toNat) (at' + (elementOf (c :: l)).2.1) hv h2 h3
      rw [← this]
      congr 1
      simp; omega
    ·rw [rdAdd_item _ _ _ e0,clash_fits hf e1]
     have hck : checkErr (closed f t) (elementOf (c :: l)).1 = if (isTag (elementOf (c :: l)).1 && !fits (closed f t) (elementOf (c :: l)).1) = true then 7 else 0 := by
      simp only [checkErr,itemFine_any e0,e1]; simp
     rw [hck]
     by_cases hcl : (isTag (elementOf (c :: l)).1 && !fits (closed f t) (elementOf (c :: l)).1) = true
     ·simp [hcl,e0]
     ·rw [if_neg hcl,if_neg hcl,if_neg (by simp),normalize_snoc h4,normStep_item e0]
      have ht : (512 < (closed f t ++ [(elementOf (c :: l)).1]).length ∨ (1024 : Int) < ((total f + t.length : Nat) : Int) + 1) ↔ tooMany f t (elementOf (c :: l)).1 := by
       simp only [tooMany,e0,closed_len,List.length_append,List.length_cons,List.length_nil,ne_eq,not_false_eq_true,true_or,if_true]
       omega
      by_cases hm : tooMany f t (elementOf (c :: l)).1
      ·rw [if_pos (ht.2 hm),if_pos hm]; simp
      ·rw [if_neg (fun h => hm (ht.1 h)),if_neg hm]
       simp only [ne_eq,not_true,if_false]
       have hv : itemsErr [] (closed (closed f t ++ [(elementOf (c :: l)).1]) []) = 0 := by
        rw [closed_nil,itemsErr_snoc]
        refine ⟨h1,?_,by simpa using hcl⟩
        rw [itemFine_any e0]; exact e1
       have hn : normalize (closed f t ++ [(elementOf (c :: l)).1]) = closed f t ++ [(elementOf (c :: l)).1] := by
        rw [normalize_snoc h4,normStep_item e0]
       have := ih (closed f t ++ [(elementOf (c :: l)).1]) [] ((c :: l).drop (elementOf (c :: l)).2.1.toNat) (at' + (elementOf (c :: l)).2.1) hv (by
        intro x hx
        simp only [List.getLast?_append,List.getLast?_singleton,Option.some_or,Option.some.injEq] at hx
        subst hx; exact e0) hn
       rw [← this,closed_nil]
       congr 1
       have hw : wid (elementOf (c :: l)).1 = 1 := by simp [wid,e0]
       simp [total_append,total_closed,total_one,hw]
   ·have he : (elementOf (c :: l)).2.2 = false := by simpa using he
    rw [rread_bad he]; simp [he]
theorem rparseN_ok : ∀ (n : Nat) (f : List It) (len : Int) (l : List UInt8) (at' : Int),(rparseN n f len l at').2.2 = 0 → (rparseN n f len l at').2.1 = 0
 | 0,_,_,_,_,h => by simp [rparseN] at h
 | n + 1,f,len,[],at',_ => rfl
 | n + 1,f,len,c :: l,at',h => by
  simp only [rparseN] at h ⊢
  split
  ·rename_i h1; rw [if_pos h1] at h; simp at h
  ·rename_i h1
   rw [if_neg h1] at h
   split
   ·rename_i h2; rw [if_pos h2] at h; exact absurd h h2.2
   ·rename_i h2
    rw [if_neg h2] at h
    split
    ·rename_i h3; rw [if_pos h3] at h; simp at h
    ·rename_i h3
     rw [if_neg h3] at h
     exact rparseN_ok n _ _ _ _ h
theorem rparseN_bad : ∀ (n : Nat) (f : List It) (len : Int) (l : List UInt8) (at' : Int),(rparseN n f len l at').2.2 ≠ 0 → (rparseN n f len l at').1 = []
 | 0,_,_,_,_,_ => rfl
 | n + 1,f,len,[],at',h => by simp [rparseN] at h
 | n + 1,f,len,c :: l,at',h => by
  simp only [rparseN] at h ⊢
  split
  ·rfl
  ·rename_i h1
   rw [if_neg h1] at h
   split
   ·rfl
   ·rename_i h2
    rw [if_neg h2] at h
    split
    ·rfl
    ·rename_i h3
     rw [if_neg h3] at h
     exact rparseN_bad n _ _ _ _ h
theorem fold_bound : ∀ (f out : List It),textLen (f.foldl normStep out) ≤ textLen out + textLen f ∧ (f.foldl normStep out).length ≤ out.length + f.length
 | [],out => by simp [textLen]
 | x :: f,out => by
  have h1 := normStep_bound out x
  have h2 := fold_bound f (normStep out x)
  simp only [List.foldl_cons,textLen,List.length_cons]
  omega
theorem norm_bound (f : List It) : textLen (normalize f) ≤ textLen f ∧ (normalize f).length ≤ f.length := by
 have h := fold_bound f []
 rw [← normFold_eq]
 simpa [normFold,textLen] using h
theorem itemText_long {x : It} (hk : x.kind ≠ 1) (h : itemFine none x = true) : x.text.length ≤ (itemText x).length := by
 simp only [itemFine,if_neg hk] at h
 simp only [itemText,if_neg hk]
 by_cases k2 : x.kind = 2
 ·simp [k2]; omega
 ·by_cases k3 : x.kind = 3
  ·simp [k3]; omega
  ·by_cases k4 : x.kind = 4
   ·simp [k4]; omega
   ·by_cases k5 : x.kind = 5
    ·simp [k5]; omega
    ·simp [k2,k3,k4,k5] at h
theorem rread_step {s : List UInt8} (hs : s ≠ []) : (rread s).2 ≠ 0 → 1 ≤ (rread s).2 ∧ (rread s).2 ≤ s.length ∧ ((rread s).1.text.length : Int) ≤ (rread s).2 := by
 have h := elementOf_ok hs
 simp only [rread]
 by_cases he : (elementOf s).2.2 = true
 ·rw [if_pos he]
  intro _
  have h2 := h.2.2 he
  refine ⟨h2.1,h2.2,?_⟩
  have hl : (s.drop (elementOf s).2.1.toNat).length = s.length - (elementOf s).2.1.toNat := List.length_drop ..
  rcases elem_inv hs he with ⟨c,e,_⟩ | ⟨e0,e1,e2⟩
  ·rw [e]; simp; omega
  ·have h3 := itemText_long e0 e1
   have h4 := congrArg List.length e2
   rw [List.length_append,hl] at h4
   simp only; omega
 ·rw [if_neg he]; simp
def rparse (s : List UInt8) : List It × Int × Int := rparseN (s.length + 1) [] 0 s 0
theorem rparse_parse (s : List UInt8) : rparse s = parse s := by
 have := rparse_eq (s.length + 1) [] [] s 0 (by simp [closed,itemsErr]) (by simp) rfl
 rw [closed_nil] at this
 exact this
def tg (f : List It) : List It := f.filter isTag
theorem tg_append (a b : List It) : tg (a ++ b) = tg a ++ tg b := by simp [tg]
theorem tg_one {x : It} (h : isTag x = true) : tg [x] = [x] := by simp [tg,h]
theorem tg_none {x : It} (h : isTag x = false) : tg [x] = [] := by simp [tg,h]
theorem isTag_text (t : List UInt8) (i : Int) : isTag ⟨1,t,i⟩ = false := by simp [isTag]
theorem isTag_kind1 {x : It} (h : x.kind = 1) : isTag x = false := by simp [isTag,h]
theorem text_eq {x : It} (h1 : x.kind = 1) (h2 : x.id = 0) : (⟨1,x.text,0⟩ : It) = x := by
 obtain ⟨k,t,i⟩ := x
 simp only at h1 h2; subst h1; subst h2; rfl
theorem fine_text {p : Option It} {x : It} (hk : x.kind = 1) (h : itemFine p x = true) : x.text ≠ [] ∧ x.id = 0 ∧ ∀ y,p = some y → y.kind ≠ 1 := by
 simp only [itemFine,hk,if_true,Bool.and_eq_true,Bool.not_eq_true',beq_eq_false_iff_ne,beq_iff_eq] at h
 refine ⟨h.1.1,h.1.2,fun y hy => ?_⟩
 subst hy
 simpa using h.2
theorem fine_of_text {p : Option It} {t : List UInt8} (h1 : t ≠ []) (h2 : ∀ y,p = some y → y.kind ≠ 1) : itemFine p ⟨1,t,0⟩ = true := by
 simp only [itemFine,if_true,Bool.and_eq_true,Bool.not_eq_true',beq_eq_false_iff_ne,beq_iff_eq]
 refine ⟨⟨h1,trivial⟩,?_⟩
 cases p with
 | none => rfl
 | some y => simpa using h2 y rfl
theorem norm_valid {f : List It} : itemsErr [] f = 0 → normalize f = f := by
 refine rev_ind (p := fun f => itemsErr [] f = 0 → normalize f = f) (fun _ => rfl) ?_ f
 intro l x ih h
 obtain ⟨h1,h2,_⟩ := (itemsErr_snoc l [] x).1 h
 simp only [List.nil_append] at h2
 rw [normalize_snoc (ih h1)]
 by_cases hk : x.kind = 1
 ·obtain ⟨g1,g2,g3⟩ := fine_text hk h2
  simp only [normStep,hk,ne_eq,not_true,if_false,if_neg g1]
  cases hg : l.getLast? with
  | none => simp only [text_eq hk g2]
  | some y => simp only [if_neg (g3 y hg),text_eq hk g2]
 ·exact normStep_item hk
theorem fits_tg (f : List It) (x : It) : fits f x = fits (tg f) x := by
 induction f with
 | nil => rfl
 | cons y f ih =>
  by_cases h : isTag y = true
  ·simp only [fits,tg,List.filter_cons,h,if_true,List.all_cons] at ih ⊢
   rw [ih]
  ·have h : isTag y = false := by simpa using h
   have hb : fitsBad x y = false := by simp [fitsBad,h]
   simp only [fits,tg,List.filter_cons,h,List.all_cons,hb,Bool.false_eq_true,if_false,Bool.not_false,Bool.true_and] at ih ⊢
   exact ih
theorem norm_text {f : List It} (t : List UInt8) (h : itemsErr [] f = 0) : itemsErr [] (normalize (f ++ [⟨1,t,0⟩])) = 0 ∧ tg (normalize (f ++ [⟨1,t,0⟩])) = tg f := by
 rw [normalize_snoc (norm_valid h)]
 by_cases ht : t = []
 ·have e : normStep f ⟨1,t,0⟩ = f := by simp [normStep,ht]
  rw [e]; exact ⟨h,rfl⟩
 ·revert h
  refine rev_ind (p := fun f => itemsErr [] f = 0 → itemsErr [] (normStep f ⟨1,t,0⟩) = 0 ∧ tg (normStep f ⟨1,t,0⟩) = tg f) ?_ ?_ f
  ·intro _
   have e : normStep [] ⟨1,t,0⟩ = [] ++ [⟨1,t,0⟩] := by simp [normStep,ht]
   rw [e,itemsErr_snoc,tg_append,tg_none (isTag_text t 0),List.append_nil]
   exact ⟨⟨rfl,fine_of_text ht (by simp),by simp [isTag]⟩,rfl⟩
  ·intro l y _ h
   obtain ⟨h1,h2,h3⟩ := (itemsErr_snoc l [] y).1 h
   by_cases hy : y.kind = 1
   ·have e : normStep (l ++ [y]) ⟨1,t,0⟩ = l ++ [⟨1,y.text ++ t,0⟩] := by simp [normStep,ht,hy]
    obtain ⟨_,_,g3⟩ := fine_text hy h2
    rw [e,itemsErr_snoc,tg_append,tg_append,tg_none (isTag_text _ 0),tg_none (isTag_kind1 hy)]
    exact ⟨⟨h1,fine_of_text (by simp [ht]) g3,by simp [isTag]⟩,rfl⟩
   ·have e : normStep (l ++ [y]) ⟨1,t,0⟩ = (l ++ [y]) ++ [⟨1,t,0⟩] := by simp [normStep,ht,hy]
    rw [e,itemsErr_snoc,tg_append,tg_none (isTag_text _ 0),List.append_nil]
    refine ⟨⟨h,fine_of_text ht fun z hz => ?_,by simp [isTag]⟩,rfl⟩
    simp only [List.nil_append,List.getLast?_append,List.getLast?_singleton,Option.some_or,Option.some.injEq] at hz
    subst hz; exact hy
theorem norm_item {f : List It} {x : It} (h : itemsErr [] f = 0) (hk : x.kind ≠ 1) (hx : itemFine none x = true) (hf : isTag x = true → fits f x = true) :
  normalize (f ++ [x]) = f ++ [x] ∧ itemsErr [] (f ++ [x]) = 0 := by
 refine ⟨by rw [normalize_snoc (norm_valid h),normStep_item hk],?_⟩
 rw [itemsErr_snoc]
 refine ⟨h,by rw [itemFine_any hk]; exact hx,?_⟩
 rw [List.nil_append]
 cases ht : isTag x with
 | false => rfl
 | true => rw [hf ht]; rfl
structure Gen (f opn : List It) (n : Int) : Prop where
 err : itemsErr [] f = 0
 ids : ∀ z ∈ tg f,1 ≤ z.id ∧ z.id ≤ n
 nd : (opn.map (·.id)).Nodup
 op : ∀ y ∈ opn,isName (tagName y.text) = true ∧ 1 ≤ y.id ∧ y.id ≤ n ∧ ∀ z ∈ tg f,z.id = y.id → z.kind = 2 ∧ z.text = y.text
theorem Gen.nil : Gen [] [] 0 := ⟨rfl,by simp [tg],by simp,by simp⟩
theorem Gen.same {f g opn : List It} {n : Int} (h : Gen f opn n) (h1 : itemsErr [] g = 0) (h2 : tg g = tg f) : Gen g opn n :=
 ⟨h1,by rw [h2]; exact h.ids,h.nd,by rw [h2]; exact h.op⟩
theorem Gen.text {f opn : List It} {n : Int} (h : Gen f opn n) (t : List UInt8) : Gen (normalize (f ++ [⟨1,t,0⟩])) opn n :=
 h.same (norm_text t h.err).1 (norm_text t h.err).2
theorem Gen.slot {f opn : List It} {n : Int} (h : Gen f opn n) {t : List UInt8} (ht : isName t = true) : Gen (normalize (f ++ [⟨5,t,0⟩])) opn n := by
 obtain ⟨e,he⟩ := norm_item (x := ⟨5,t,0⟩) h.err (by simp) (by simp [itemFine,ht]) (by simp [isTag])
 rw [e]
 exact h.same he (by rw [tg_append,tg_none (by simp [isTag]),List.append_nil])
theorem fits_new {f : List It} {x : It} (h : ∀ z ∈ tg f,z.id ≠ x.id) : fits f x = true := by
 rw [fits_tg]
 simp only [fits,List.all_eq_true]
 intro z hz
 have := h z hz
 simp [fitsBad,this]
theorem Gen.empty {f opn : List It} {n : Int} (h : Gen f opn n) {t : List UInt8} (ht : isContent t = true) (h0 : 0 ≤ n) (h9 : n < 999) : Gen (normalize (f ++ [⟨4,t,n + 1⟩])) opn (n + 1) := by
 have hT : isTag ⟨4,t,n + 1⟩ = true := by simp [isTag]
 obtain ⟨e,he⟩ := norm_item (x := ⟨4,t,n + 1⟩) h.err (by simp) (by simp [itemFine,ht]; omega) (fun _ => fits_new fun z hz => by have := h.ids z hz; simp only; omega)
 rw [e]
 refine ⟨he,?_,h.nd,?_⟩
 ·intro z hz
  rw [tg_append,tg_one hT,List.mem_append,List.mem_singleton] at hz
  rcases hz with hz | rfl
  ·have := h.ids z hz; omega
  ·simp only; omega
 ·intro y hy
  obtain ⟨o1,o2,o3,o4⟩ := h.op y hy
  refine ⟨o1,o2,by omega,fun z hz hzi => ?_⟩
  rw [tg_append,tg_one hT,List.mem_append,List.mem_singleton] at hz
  rcases hz with hz | rfl
  ·exact o4 z hz hzi
  ·simp only at hzi; omega
theorem Gen.opens {f opn : List It} {n : Int} (h : Gen f opn n) {t : List UInt8} (ht : isContent t = true) (hn : isName (tagName t) = true) (h0 : 0 ≤ n) (h9 : n < 999) :
  Gen (normalize (f ++ [⟨2,t,n + 1⟩])) (opn ++ [⟨2,t,n + 1⟩]) (n + 1) := by
 have hT : isTag ⟨2,t,n + 1⟩ = true := by simp [isTag]
 obtain ⟨e,he⟩ := norm_item (x := ⟨2,t,n + 1⟩) h.err (by simp) (by simp [itemFine,ht]; omega) (fun _ => fits_new fun z hz => by have := h.ids z hz; simp only; omega)
 rw [e]
 refine ⟨he,?_,?_,?_⟩
 ·intro z hz
  rw [tg_append,tg_one hT,List.mem_append,List.mem_singleton] at hz
  rcases hz with hz | rfl
  ·have := h.ids z hz; omega
  ·simp only; omega
 ·rw [List.map_append,List.nodup_append]
  refine ⟨h.nd,by simp,?_⟩
  intro a ha b hb
  obtain ⟨y,hy,rfl⟩ := List.mem_map.1 ha
  simp only [List.map_cons,List.map_nil,List.mem_singleton] at hb
  have := (h.op y hy).2.2.1
  omega
 ·intro y hy
  rw [List.mem_append,List.mem_singleton] at hy
  rcases hy with hy | rfl
  ·obtain ⟨o1,o2,o3,o4⟩ := h.op y hy
   refine ⟨o1,o2,by omega,fun z hz hzi => ?_⟩
   rw [tg_append,tg_one hT,List.mem_append,List.mem_singleton] at hz
   rcases hz with hz | rfl
   ·exact o4 z hz hzi
   ·simp only at hzi; omega
  ·refine ⟨hn,by simp only; omega,by simp only; omega,fun z hz hzi => ?_⟩
   rw [tg_append,tg_one hT,List.mem_append,List.mem_singleton] at hz
   rcases hz with hz | rfl
   ·have := h.ids z hz; simp only at hzi; omega
   ·exact ⟨rfl,rfl⟩
theorem Gen.close {f opn : List It} {y : It} {n : Int} (h : Gen f (opn ++ [y]) n) (h9 : n ≤ 999) :
  Gen (f ++ [⟨3,tagName y.text,y.id⟩]) opn n ∧ normalize (f ++ [⟨3,tagName y.text,y.id⟩]) = f ++ [⟨3,tagName y.text,y.id⟩] := by
 have hT : isTag ⟨3,tagName y.text,y.id⟩ = true := by simp [isTag]
 obtain ⟨o1,o2,o3,o4⟩ := h.op y (by simp)
 obtain ⟨e,he⟩ := norm_item (x := ⟨3,tagName y.text,y.id⟩) h.err (by simp) (by simp [itemFine,o1]; omega) (fun _ => by
  rw [fits_tg]
  simp only [fits,List.all_eq_true]
  intro z hz
  by_cases hi : z.id = y.id
  ·obtain ⟨z1,z2⟩ := o4 z hz hi
   simp [fitsBad,z1,z2]
  ·simp [fitsBad,hi])
 have hnd := h.nd
 rw [List.map_append,List.nodup_append] at hnd
 refine ⟨⟨he,?_,hnd.1,?_⟩,e⟩
 ·intro z hz
  rw [tg_append,tg_one hT,List.mem_append,List.mem_singleton] at hz
  rcases hz with hz | rfl
  ·exact h.ids z hz
  ·exact ⟨o2,o3⟩
 ·intro x hx
  obtain ⟨p1,p2,p3,p4⟩ := h.op x (by simp [hx])
  refine ⟨p1,p2,p3,fun z hz hzi => ?_⟩
  rw [tg_append,tg_one hT,List.mem_append,List.mem_singleton] at hz
  rcases hz with hz | rfl
  ·exact p4 z hz hzi
  ·have := hnd.2.2 x.id (List.mem_map.2 ⟨x,hx,rfl⟩) y.id (by simp)
   exact absurd hzi.symm this
structure Tgt (pre f : List It) : Prop where
 err : itemsErr [] f = 0
 tags : tg f = tg pre
theorem Tgt.nil : Tgt [] [] := ⟨rfl,rfl⟩
theorem Tgt.more {pre f : List It} (h : Tgt pre f) (t : List UInt8) : Tgt pre (normalize (f ++ [⟨1,t,0⟩])) :=
 ⟨(norm_text t h.err).1,(norm_text t h.err).2.trans h.tags⟩
theorem Tgt.text {pre f : List It} {x : It} (h : Tgt pre f) (hk : x.kind = 1) (t : List UInt8) : Tgt (pre ++ [x]) (normalize (f ++ [⟨1,t,0⟩])) :=
 ⟨(norm_text t h.err).1,by rw [(norm_text t h.err).2,h.tags,tg_append,tg_none (isTag_kind1 hk),List.append_nil]⟩
theorem Tgt.item {pre f rest : List It} {x : It} (h : Tgt pre f) (hs : itemsErr [] (pre ++ x :: rest) = 0) (hk : x.kind ≠ 1) : Tgt (pre ++ [x]) (normalize (f ++ [x])) := by
 rw [itemsErr_append,itemsErr_cons] at hs
 obtain ⟨_,h2,h3,_⟩ := hs
 rw [List.nil_append] at h2 h3
 obtain ⟨e,he⟩ := norm_item (x := x) h.err hk (by rw [← itemFine_any (p := pre.getLast?) hk]; exact h2) (fun ht => by
  rw [ht,Bool.true_and] at h3
  rw [fits_tg,h.tags,← fits_tg]
  simpa using h3)
 rw [e]
 exact ⟨he,by rw [tg_append,tg_append,h.tags]⟩
theorem toF_from : ∀ (l : List Int) (k : Int) (x : Int),toF l ((List.range l.length).map fun (i : Nat) => (i : Int) + k) x = if x ∈ l then some ((l.idxOf x : Int) + k) else none
 | [],k,x => by simp [toF]
 | a :: l,k,x => by
  have e : (List.range (l.length + 1)).map (fun (i : Nat) => (i : Int) + k) = k :: (List.range l.length).map fun (i : Nat) => (i : Int) + (k + 1) := by
   rw [List.range_succ_eq_map,List.map_cons,List.map_map]
   refine congr (congrArg _ (by omega)) (List.map_congr_left fun i _ => ?_)
   simp only [Function.comp]; omega
  rw [List.length_cons,e]
  simp only [toF]
  by_cases h : x = a
  ·subst h; simp
  ·have h2 : (a == x) = false := by simpa using fun e => h e.symm
   rw [if_neg h,toF_from l (k + 1) x,List.idxOf_cons,h2]
   by_cases h3 : x ∈ l
   ·rw [if_pos h3,if_pos (List.mem_cons_of_mem _ h3)]
    congr 1
    simp only [cond_false]; omega
   ·rw [if_neg h3,if_neg (by simp [h,h3])]
theorem toF_count (l : List Int) (x : Int) : toF l (counting l.length) x = if x ∈ l then some ((l.idxOf x : Int) + 1) else none := toF_from l 1 x
def mvI (l : List Int) (x : It) : It := if isTag x = true then ⟨x.kind,x.text,(l.idxOf x.id : Int) + 1⟩ else x
theorem mvI_kind (l : List Int) (x : It) : (mvI l x).kind = x.kind := by simp only [mvI]; split <;> rfl
theorem mvI_text (l : List Int) (x : It) : (mvI l x).text = x.text := by simp only [mvI]; split <;> rfl
theorem mvI_tag (l : List Int) (x : It) : isTag (mvI l x) = isTag x := by simp only [isTag,mvI_kind]
theorem renamed_map {l : List Int} {f : List It} (h : ∀ x ∈ tg f,x.id ∈ l) : renamed f l (counting l.length) = f.map (mvI l) := by
 have key : ∀ x ∈ f,ren l (counting l.length) x = some (mvI l x) := by
  intro x hx
  simp only [ren,mvI]
  by_cases ht : isTag x = true
  ·have := h x (List.mem_filter.2 ⟨hx,ht⟩)
   rw [if_pos ht,if_pos ht,toF_count,if_pos this]; rfl
  ·rw [if_neg ht,if_neg ht]
 simp only [renamed]
 rw [fm_congr key]
 clear key h
 induction f with
 | nil => rfl
 | cons x f ih => simp only [List.filterMap_cons,List.map_cons,ih]
theorem idx_inj {l : List Int} {x y : Int} (hx : x ∈ l) (hy : y ∈ l) (h : l.idxOf x = l.idxOf y) : x = y := by
 induction l with
 | nil => simp at hx
 | cons a l ih =>
  simp only [List.idxOf_cons] at h
  by_cases h1 : a = x
  ·by_cases h2 : a = y
   ·rw [← h1,h2]
   ·have e1 : (a == x) = true := by simp [h1]
    have e2 : (a == y) = false := by simp [h2]
    rw [e1,e2] at h; simp at h
  ·have e1 : (a == x) = false := by simp [h1]
   by_cases h2 : a = y
   ·have e2 : (a == y) = true := by simp [h2]
    rw [e1,e2] at h; simp at h
   ·have e2 : (a == y) = false := by simp [h2]
    rw [e1,e2] at h
    simp only [cond_false] at h
    refine ih ?_ ?_ (by omega)
    ·rcases List.mem_cons.1 hx with h3 | h3
     ·exact absurd h3.symm h1
     ·exact h3
    ·rcases List.mem_cons.1 hy with h3 | h3
     ·exact absurd h3.symm h2
     ·exact h3
theorem mvI_fine {l : List Int} {x : It} {p : Option It} (hx : isTag x = true → x.id ∈ l) (hl : l.length ≤ 999) (h : itemFine p x = true) : itemFine (p.map (mvI l)) (mvI l x) = true := by
 by_cases ht : isTag x = true
 ·have hlt : l.idxOf x.id < l.length := List.idxOf_lt_length_of_mem (hx ht)
  have hk : x.kind = 2 ∨ x.kind = 3 ∨ x.kind = 4 := by
   simp only [isTag,Bool.or_eq_true,beq_iff_eq] at ht; omega
  have e : mvI l x = ⟨x.kind,x.text,(l.idxOf x.id : Int) + 1⟩ := by rw [mvI,if_pos ht]
  rw [e]
  simp only [itemFine] at h ⊢
  rcases hk with hk | hk | hk
  ·simp [hk] at h ⊢; exact ⟨⟨h.1.1,by omega⟩,by omega⟩
  ·simp [hk] at h ⊢; exact ⟨⟨h.1.1,by omega⟩,by omega⟩
  ·simp [hk] at h ⊢; exact ⟨⟨h.1.1,by omega⟩,by omega⟩
 ·have e : mvI l x = x := by rw [mvI,if_neg ht]
  rw [e]
  by_cases hk : x.kind = 1
  ·obtain ⟨g1,g2,g3⟩ := fine_text hk h
   rw [← text_eq hk g2]
   refine fine_of_text g1 fun y hy => ?_
   obtain ⟨z,hz,rfl⟩ := Option.map_eq_some_iff.1 hy
   rw [mvI_kind]; exact g3 z hz
  ·rw [itemFine_any hk] at h ⊢; exact h
theorem mvI_fits {l : List Int} {x : It} {f : List It} (ht : isTag x = true) (hx : x.id ∈ l) (hf : ∀ z ∈ tg f,z.id ∈ l) (h : fits f x = true) : fits (f.map (mvI l)) (mvI l x) = true := by
 simp only [fits,List.all_eq_true,List.mem_map] at h ⊢
 rintro _ ⟨y,hy,rfl⟩
 have hb := h y hy
 by_cases hty : isTag y = true
 ·have hyl := hf y (List.mem_filter.2 ⟨hy,hty⟩)
  have e1 : mvI l x = ⟨x.kind,x.text,(l.idxOf x.id : Int) + 1⟩ := by rw [mvI,if_pos ht]
  have e2 : mvI l y = ⟨y.kind,y.text,(l.idxOf y.id : Int) + 1⟩ := by rw [mvI,if_pos hty]
  have e3 : ((l.idxOf y.id : Int) + 1 != (l.idxOf x.id : Int) + 1) = (y.id != x.id) := by
   by_cases hi : y.id = x.id
   ·rw [hi]; simp
   ·have : l.idxOf y.id ≠ l.idxOf x.id := fun e => hi (idx_inj hyl hx e)
    have h1 : (y.id != x.id) = true := by simpa using hi
    rw [h1]; simp; omega
  have e4 : isTag (mvI l y) = isTag y := mvI_tag l y
  simp only [fitsBad,e4] at hb ⊢
  rw [e1,e2]
  simp only
  rw [e3]
  exact hb
 ·have hty : isTag y = false := by simpa using hty
  simp [fitsBad,mvI_tag,hty]
theorem map_err {l : List Int} (hl : l.length ≤ 999) {f : List It} (hf : ∀ x ∈ tg f,x.id ∈ l) (h : itemsErr [] f = 0) : itemsErr [] (f.map (mvI l)) = 0 := by
 revert hf h
 refine rev_ind (p := fun f => (∀ x ∈ tg f,x.id ∈ l) → itemsErr [] f = 0 → itemsErr [] (f.map (mvI l)) = 0) (fun _ _ => rfl) ?_ f
 intro f x ih hf h
 obtain ⟨h1,h2,h3⟩ := (itemsErr_snoc f [] x).1 h
 rw [List.nil_append] at h2 h3
 have hf1 : ∀ z ∈ tg f,z.id ∈ l := fun z hz => hf z (by rw [tg_append]; exact List.mem_append_left _ hz)
 have hx1 : isTag x = true → x.id ∈ l := fun ht => hf x (by rw [tg_append,tg_one ht]; simp)
 rw [List.map_append,List.map_cons,List.map_nil,itemsErr_snoc]
 refine ⟨ih hf1 h1,?_,?_⟩
 ·rw [List.nil_append,List.getLast?_map]
  exact mvI_fine hx1 hl h2
 ·rw [List.nil_append,mvI_tag]
  cases ht : isTag x with
  | false => rfl
  | true =>
   rw [ht,Bool.true_and] at h3
   rw [mvI_fits ht (hx1 ht) hf1 (by simpa using h3)]; rfl
theorem textLen_map (l : List Int) (f : List It) : textLen (f.map (mvI l)) = textLen f := by
 induction f with
 | nil => rfl
 | cons x f ih => simp only [List.map_cons,textLen,mvI_text,ih]
def tagIds (f : List It) : List Int := (tg f).map (·.id)
theorem numbers_tagIds (f : List It) : numbers f = (tagIds f).foldl insI [] := by
 simp only [numbers,numbersFrom_fold]; rfl
theorem canon_ids (s t : List It) : canonNumbers s t = (tagIds (s ++ t)).foldl insI [] := by
 rw [← numbers_append,numbers_tagIds]
theorem canon_all (s t : List It) : (∀ x ∈ tg s,x.id ∈ canonNumbers s t) ∧ ∀ x ∈ tg t,x.id ∈ canonNumbers s t := by
 rw [canon_ids]
 constructor <;> intro x hx <;> refine foldI_mem _ ?_ <;> simp only [tagIds,tg_append,List.map_append,List.mem_append,List.mem_map]
 ·exact .inl ⟨x,hx,rfl⟩
 ·exact .inr ⟨x,hx,rfl⟩
theorem insI_nodup {l : List Int} {n : Int} (h : l.Nodup) : (insI l n).Nodup := by
 simp only [insI]
 split
 ·exact h
 ·rename_i h1
  rw [List.nodup_append]
  refine ⟨h,by simp,?_⟩
  intro a ha b hb e
  simp only [List.mem_singleton] at hb
  subst hb; subst e
  exact h1 (by simpa using ha)
theorem foldI_nodup : ∀ (m : List Int) {l : List Int},l.Nodup → (m.foldl insI l).Nodup
 | [],_,h => h
 | _ :: m,_,h => foldI_nodup m (insI_nodup h)
theorem foldI_map {g : Int → Int} {L : List Int} (hg : ∀ x ∈ L,∀ y ∈ L,g x = g y → x = y) : ∀ (m acc : List Int),(∀ x ∈ m,x ∈ L) → (∀ x ∈ acc,x ∈ L) → (m.map g).foldl insI (acc.map g) = (m.foldl insI acc).map g
 | [],_,_,_ => rfl
 | n :: m,acc,hm,ha => by
  have hn := hm n (by simp)
  have e : insI (acc.map g) (g n) = (insI acc n).map g := by
   by_cases h : n ∈ acc
   ·have h1 : acc.contains n = true := by simpa using h
    have h2 : (acc.map g).contains (g n) = true := by simp; exact ⟨n,h,rfl⟩
    simp only [insI,h1,h2,if_true]
   ·have h1 : acc.contains n = false := by simpa using h
    have h2 : (acc.map g).contains (g n) = false := by
     cases h3 : (acc.map g).contains (g n) with
     | false => rfl
     | true =>
      simp only [List.contains_iff_mem,List.mem_map] at h3
      obtain ⟨x,hx,hxe⟩ := h3
      exact absurd (hg x (ha x hx) n hn hxe ▸ hx) h
    simp only [insI,h1,h2,Bool.false_eq_true,if_false,List.map_append,List.map_cons,List.map_nil]
  simp only [List.map_cons,List.foldl_cons,e]
  refine foldI_map hg m (insI acc n) (fun x hx => hm x (by simp [hx])) fun x hx => ?_
  simp only [insI] at hx
  split at hx
  ·exact ha x hx
  ·rw [List.mem_append,List.mem_singleton] at hx
   rcases hx with hx | rfl
   ·exact ha x hx
   ·exact hn
theorem idx_count : ∀ {L : List Int} (_ : L.Nodup),L.map (fun x => (L.idxOf x : Int) + 1) = counting L.length := by
 intro L hnd
 have key : ∀ (l pre : List Int),(pre ++ l).Nodup → l.map (fun x => ((pre ++ l).idxOf x : Int) + 1) = (List.range l.length).map fun (i : Nat) => (i : Int) + ((pre.length : Int) + 1) := by
  intro l
  induction l with
  | nil => intro pre _; rfl
  | cons a l ih =>
   intro pre h
   have e : (List.range (l.length + 1)).map (fun (i : Nat) => (i : Int) + ((pre.length : Int) + 1)) = ((pre.length : Int) + 1) :: (List.range l.length).map fun (i : Nat) => (i : Int) + (((pre ++ [a]).length : Int) + 1) := by
    rw [List.range_succ_eq_map,List.map_cons,List.map_map]
    refine congr (congrArg _ (by omega)) (List.map_congr_left fun i _ => ?_)
    simp only [Function.comp,List.length_append,List.length_cons,List.length_nil]; omega
   have h2 := ih (pre ++ [a]) (by rwa [List.append_assoc,List.singleton_append])
   rw [List.append_assoc,List.singleton_append] at h2
   rw [List.length_cons,e,← h2,List.map_cons]
   congr 1
   have hna : a ∉ pre := by
    rw [List.nodup_append] at h
    exact fun hm => h.2.2 a hm a (by simp) rfl
   have : (pre ++ a :: l).idxOf a = pre.length := by
    clear h2 e ih h
    induction pre with
    | nil => simp
    | cons b pre ih =>
     have hb : (b == a) = false := by
      simp only [List.mem_cons,not_or] at hna
      simpa using fun e => hna.1 e.symm
     rw [List.cons_append,List.idxOf_cons,hb,cond_false,ih (fun hm => hna (List.mem_cons_of_mem _ hm)),List.length_cons]
   rw [this]
 have := key L [] hnd
 simpa [counting] using this
theorem tagIds_map {l : List Int} {f : List It} : tagIds (f.map (mvI l)) = (tagIds f).map fun x => (l.idxOf x : Int) + 1 := by
 induction f with
 | nil => rfl
 | cons x f ih =>
  simp only [tagIds,tg,List.map_cons,List.filter_cons,mvI_tag] at ih ⊢
  by_cases ht : isTag x = true
  ·rw [if_pos ht,if_pos ht,List.map_cons,List.map_cons,List.map_cons,ih]
   congr 1
   rw [mvI,if_pos ht]
  ·rw [if_neg ht,if_neg ht,ih]
theorem canon_eq {s t : List It} (hs : itemsErr [] s = 0) (ht : itemsErr [] t = 0) (hl : (canonNumbers s t).length ≤ 999) :
  canonS s t = s.map (mvI (canonNumbers s t)) ∧ canonT s t = t.map (mvI (canonNumbers s t)) := by
 have ha := canon_all s t
 constructor
 ·rw [canonS,rename,renamed_map ha.1]; exact norm_valid (map_err hl ha.1 hs)
 ·rw [canonT,rename,renamed_map ha.2]; exact norm_valid (map_err hl ha.2 ht)
theorem canon_count {s t : List It} : canonNumbers (s.map (mvI (canonNumbers s t))) (t.map (mvI (canonNumbers s t))) = counting (canonNumbers s t).length := by
 have e : canonNumbers s t = (tagIds (s ++ t)).foldl insI [] := canon_ids s t
 have hL : ∀ x ∈ tagIds (s ++ t),x ∈ canonNumbers s t := fun x hx => by rw [e]; exact foldI_mem _ hx
 rw [canon_ids (s.map _) (t.map _),← List.map_append,tagIds_map]
 have h1 := foldI_map (g := fun x => ((canonNumbers s t).idxOf x : Int) + 1) (L := canonNumbers s t) (fun x hx y hy h => idx_inj hx hy (by omega)) (tagIds (s ++ t)) [] hL (by simp)
 rw [List.map_nil] at h1
 rw [h1,← e]
 exact idx_count (by rw [e]; exact foldI_nodup _ List.nodup_nil)
theorem count_idx {n : Nat} {x : Int} (h : x ∈ counting n) : ((counting n).idxOf x : Int) + 1 = x := by
 have hnd : (counting n).Nodup := by
  simp only [counting]
  exact (List.nodup_range).map (f := fun (i : Nat) => (i : Int) + 1) (fun a b h => by have h : a ≠ b := h; omega)
 have e := idx_count hnd
 rw [counting_len] at e
 have hlt : (counting n).idxOf x < (counting n).length := List.idxOf_lt_length_of_mem h
 have h2 : ((counting n).map fun x => ((counting n).idxOf x : Int) + 1)[(counting n).idxOf x]? = (counting n)[(counting n).idxOf x]? := by rw [e]
 rw [List.getElem?_map,List.getElem?_eq_getElem hlt] at h2
 have hg : (counting n)[(counting n).idxOf x] = x := List.getElem_idxOf hlt
 rw [hg] at h2
 simpa using h2
theorem mvI_count {n : Nat} {f : List It} (h : ∀ x ∈ tg f,x.id ∈ counting n) : f.map (mvI (counting n)) = f := by
 induction f with
 | nil => rfl
 | cons x f ih =>
  rw [List.map_cons]
  have h2 : ∀ z ∈ tg f,z.id ∈ counting n := fun z hz => h z (by simp only [tg,List.filter_cons]; split <;> simp [tg] at hz ⊢ <;> simp [hz])
  rw [ih h2]
  congr 1
  rw [mvI]
  split
  ·rename_i ht
   have := h x (by simp only [tg,List.filter_cons,ht,if_true]; simp)
   rw [count_idx this]
  ·rfl
theorem canon_ok {s t : List It} (hs : itemsErr [] s = 0) (ht : itemsErr [] t = 0) (hl : (canonNumbers s t).length ≤ 999) :
  canonS (canonS s t) (canonT s t) = canonS s t ∧ canonT (canonS s t) (canonT s t) = canonT s t := by
 obtain ⟨e1,e2⟩ := canon_eq hs ht hl
 have ha := canon_all s t
 have hs' := map_err hl ha.1 hs
 have ht' := map_err hl ha.2 ht
 rw [e1,e2]
 have hn := canon_count (s := s) (t := t)
 have hl' : (canonNumbers (s.map (mvI (canonNumbers s t))) (t.map (mvI (canonNumbers s t)))).length ≤ 999 := by rw [hn,counting_len]; exact hl
 obtain ⟨f1,f2⟩ := canon_eq hs' ht' hl'
 have hb := canon_all (s.map (mvI (canonNumbers s t))) (t.map (mvI (canonNumbers s t)))
 rw [hn] at hb f1 f2
 exact ⟨by rw [f1,mvI_count hb.1],by rw [f2,mvI_count hb.2]⟩
theorem canon_len (s t : List It) : (canonNumbers s t).length ≤ s.length + t.length := by
 have h1 := moreNumbers_len (numbers t) (numbers s)
 have h2 := numbers_len s
 have h3 := numbers_len t
 simp only [canonNumbers]; omega
theorem gen_valid {f : List It} (h : itemsErr [] f = 0) (h1 : f.length ≤ 100) (h2 : textLen f ≤ 900) : validItems f = 0 := by
 have := total_le f
 exact (validItems_iff (by omega)).2 ⟨by omega,by omega,h⟩
def genCtx : List (List UInt8) := [[],[83,97,118,101],[114,101,100,32,99,97,114],[120]]
def genNames : List (List UInt8) := [[],[97,110,110],[98,111,98],[112],[113]]
theorem ctx_ok : ∀ s ∈ genCtx,(parse s).2.2 = 0 ∧ s.length ≤ 7 := by decide +kernel
theorem names_ok : ∀ s ∈ genNames,named s = true ∧ s.length ≤ 3 := by decide +kernel
structure GenEn (e : En) : Prop where
 ok : entryErr e = 0
 srcLen : e.source.length ≤ 40
 srcText : textLen e.source ≤ 400
 tgtLen : e.target.length ≤ 100
 tgtText : textLen e.target ≤ 900
 prev : e.previous.length ≤ 7
 next : e.next.length ≤ 7
 author : e.author.length ≤ 3
 project : e.project.length ≤ 3
theorem fine_id {p : Option It} {x : It} (h : itemFine p x = true) : 0 ≤ x.id ∧ x.id ≤ 999 := by
 simp only [itemFine] at h
 split at h
 ·simp only [Bool.and_eq_true,beq_iff_eq] at h; omega
 ·split at h
  ·simp only [Bool.and_eq_true,beq_iff_eq] at h; omega
  ·split at h
   ·simp only [Bool.and_eq_true,decide_eq_true_eq] at h; omega
   ·split at h
    ·simp only [Bool.and_eq_true,decide_eq_true_eq] at h; omega
    ·simp at h
theorem valid_ids {f : List It} (h : validItems f = 0) : ∀ x ∈ f,0 ≤ x.id ∧ x.id ≤ 999 := by
 simp only [validItems] at h
 split at h
 ·simp at h
 ·intro x hx
  exact fine_id (itemsErr_fine f [] h x hx)
theorem asked_source {e : En} (h : entryErr e = 0) : validItems e.source = 0 ∧ validItems e.target = 0 := ⟨(en_facts h).source,(en_facts h).target⟩
theorem gen_entry {f t : List It} {p n a r : List UInt8} {c o : Int} (hf : itemsErr [] f = 0) (ht : itemsErr [] t = 0) (hne : f ≠ []) (f1 : f.length ≤ 40) (f2 : textLen f ≤ 400) (t1 : t.length ≤ 100) (t2 : textLen t ≤ 900)
  (hp : p ∈ genCtx) (hn : n ∈ genCtx) (ha : a ∈ genNames) (hr : r ∈ genNames) (hc : 0 ≤ c ∧ c ≤ 1073741824) (ho : 1 ≤ o ∧ o ≤ 3) : GenEn ⟨canonS f t,canonT f t,p,n,a,r,c,o⟩ := by
 have hl : (canonNumbers f t).length ≤ 999 := by have := canon_len f t; omega
 obtain ⟨e1,e2⟩ := canon_eq hf ht hl
 have hall := canon_all f t
 have v1 : itemsErr [] (canonS f t) = 0 := by rw [e1]; exact map_err hl hall.1 hf
 have v2 : itemsErr [] (canonT f t) = 0 := by rw [e2]; exact map_err hl hall.2 ht
 have l1 : (canonS f t).length = f.length := by rw [e1,List.length_map]
 have l2 : (canonT f t).length = t.length := by rw [e2,List.length_map]
 have x1 : textLen (canonS f t) = textLen f := by rw [e1,textLen_map]
 have x2 : textLen (canonT f t) = textLen t := by rw [e2,textLen_map]
 obtain ⟨k1,k2⟩ := canon_ok hf ht hl
 have w1 : validItems (canonS f t) = 0 := gen_valid v1 (by omega) (by omega)
 have w2 : validItems (canonT f t) = 0 := gen_valid v2 (by omega) (by omega)
 have hne' : (canonS f t).length ≠ 0 := by rw [l1]; exact fun h => hne (List.eq_nil_of_length_eq_zero h)
 have hco : canonOk ⟨canonS f t,canonT f t,p,n,a,r,c,o⟩ = true := by
  simp only [canonOk,k1,k2,itsEq_iff.2 rfl,Bool.and_true,Bool.not_eq_true',beq_eq_false_iff_ne,ne_eq]
  exact hne'
 refine ⟨?_,by simp only [l1]; exact f1,by simp only [x1]; exact f2,by simp only [l2]; exact t1,by simp only [x2]; exact t2,(ctx_ok p hp).2,(ctx_ok n hn).2,(names_ok a ha).2,(names_ok r hr).2⟩
 simp only [entryErr,w1,w2,hco,(ctx_ok p hp).1,(ctx_ok n hn).1,(names_ok a ha).1,(names_ok r hr).1,ne_eq,not_true,if_false,Bool.and_self,Bool.true_eq_false]
 rw [if_neg (by omega)]
theorem GenEn.small {e : En} (h : GenEn e) : e.small := by
 have := asked_source h.ok
 have h1 := h.srcLen
 have h2 := h.srcText
 have h3 := h.tgtLen
 have h4 := h.tgtText
 have h5 := h.prev
 have h6 := h.next
 refine ⟨by omega,by omega,by omega,by omega,by omega,by omega,fun x hx => ?_⟩
 rcases List.mem_append.1 hx with hx | hx
 ·have := valid_ids this.1 x hx; omega
 ·have := valid_ids this.2 x hx; omega
structure GenOp (o : Opr) : Prop where
 ok : opErr o = 0
 src : itemsErr [] o.entry.source = 0
 srcLen : o.entry.source.length ≤ 40
 srcText : textLen o.entry.source ≤ 400
 small : o.small
def bareOf (e : En) : En := ⟨e.source,[],e.previous,e.next,[],[],0,0⟩
theorem GenEn.items {e : En} (h : GenEn e) : itemsErr [] e.source = 0 := by
 have h1 := (asked_source h.ok).1
 simp only [validItems] at h1
 split at h1
 ·simp at h1
 ·exact h1
theorem seen_ok : ∀ (i j k : Fin 3) (f : Fin 3),let v : List Int := [((i.val : Nat) : Int),((j.val : Nat) : Int),((k.val : Nat) : Int)]
  vTrim (vTrim v) = vTrim v ∧ (vTrim v).any (fun n => decide (128 < n)) = false ∧ vAt (vTrim v) f.val = v.getD f.val 0 ∧ (vTrim v).length ≤ 3 := by decide +kernel
theorem seen_ok' {v : List Int} (hv : ∃ x y z : Int,v = [x,y,z] ∧ (0 ≤ x ∧ x < 3) ∧ (0 ≤ y ∧ y < 3) ∧ (0 ≤ z ∧ z < 3)) {f : Int} (hf : 0 ≤ f ∧ f < 3) :
  vTrim (vTrim v) = vTrim v ∧ (vTrim v).any (fun n => decide (128 < n)) = false ∧ vAt (vTrim v) f = v.getD f.toNat 0 ∧ (vTrim v).length ≤ 3 := by
 obtain ⟨x,y,z,rfl,hx,hy,hz⟩ := hv
 have := seen_ok ⟨x.toNat,by omega⟩ ⟨y.toNat,by omega⟩ ⟨z.toNat,by omega⟩ ⟨f.toNat,by omega⟩
 simp only at this
 rw [show ((x.toNat : Nat) : Int) = x by omega,show ((y.toNat : Nat) : Int) = y by omega,show ((z.toNat : Nat) : Int) = z by omega,show ((f.toNat : Nat) : Int) = f by omega] at this
 exact this
theorem gen_op {e : En} (h : GenEn e) {t f n k : Int} {v : List Int} (ht : 1 ≤ t ∧ t ≤ 1000) (hf : 0 ≤ f ∧ f < 3) (hn : 1 ≤ n ∧ n ≤ 3) (hv : ∃ x y z : Int,v = [x,y,z] ∧ (0 ≤ x ∧ x < 3) ∧ (0 ≤ y ∧ y < 3) ∧ (0 ≤ z ∧ z < 3)) (hvn : v.getD f.toNat 0 = n - 1) :
  GenOp ⟨⟨t,f,n⟩,1,e,vTrim v⟩ ∧ GenOp ⟨⟨t,f,n⟩,2,bareOf e,vTrim v⟩ := by
 obtain ⟨s1,s2,s3,s4⟩ := seen_ok' hv hf
 have hst : stampOk ⟨t,f,n⟩ = true := by simp only [stampOk,decide_eq_true_eq]; omega
 have hsm := h.small
 have h7 := h.author
 have h8 := h.project
 constructor
 ·refine ⟨?_,h.items,h.srcLen,h.srcText,⟨hsm,by simp only; omega,by simp only; omega,by simp only; omega⟩⟩
  simp only [opErr,hst,s1,s2,s3,hvn,looked,Bool.true_eq_false,Bool.false_eq_true,if_false,ne_eq,not_true,or_false,false_and]
  simp [h.ok]
 ·have hb : bareEn (bareOf e) = true := by simp [bareEn,bareOf]
  have ha : entryErr (asked (bareOf e)) = 0 := by rw [show asked (bareOf e) = asked e from rfl]; exact asked_ok h.ok
  refine ⟨?_,h.items,h.srcLen,h.srcText,⟨⟨hsm.source,hsm.sourceT,by simp [bareOf],by simp [bareOf,textLen],hsm.previous,hsm.next,fun x hx => hsm.ids x ?_⟩,by simp [bareOf],by simp [bareOf],by simp only; omega⟩⟩
  ·simp only [opErr,hst,s1,s2,s3,hvn,looked,hb,ha,Bool.true_eq_false,Bool.false_eq_true,if_false,ne_eq,not_true,or_false,and_false]
  ·simp only [bareOf,List.append_nil] at hx
   exact List.mem_append_left _ hx
theorem err_ids {f : List It} (h : itemsErr [] f = 0) : ∀ x ∈ f,0 ≤ x.id ∧ x.id ≤ 999 := fun x hx => fine_id (itemsErr_fine f [] h x hx)
def mixOp (o x : Opr) (t : List It) : Opr := ⟨o.stamp,o.kind,⟨x.entry.source,t,x.entry.previous,x.entry.next,o.entry.author,o.entry.project,o.entry.created,o.entry.origin⟩,o.seen⟩
theorem mix_small {o x : Opr} (ho : GenOp o) (hx : GenOp x) {t : List It} (h1 : t.length < 2 ^ 30) (h2 : textLen t < 2 ^ 30) (h3 : ∀ y ∈ t,-9223372036854775808 ≤ y.id ∧ y.id ≤ 9223372036854775807) : (mixOp o x t).small :=
 ⟨⟨hx.small.entry.source,hx.small.entry.sourceT,h1,h2,hx.small.entry.previous,hx.small.entry.next,fun y hy => by
  rcases List.mem_append.1 hy with hy | hy
  ·have := err_ids hx.src y hy; omega
  ·exact h3 y hy⟩,ho.small.author,ho.small.project,ho.small.seen⟩
theorem mix_gen {o x : Opr} (ho : GenOp o) (hx : GenOp x) {t : List It} (hs : (mixOp o x t).small) (h : opErr (mixOp o x t) = 0) : GenOp (mixOp o x t) :=
 ⟨h,hx.src,hx.srcLen,hx.srcText,hs⟩
end Go.Bt

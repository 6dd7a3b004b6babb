/- A part of the proof that OperationDecodes returns true and leaves its arguments as they were, for every input. -/
import Derived.Test.YtdhbodgefhojnaaGreatDoorD14
set_option linter.all false

namespace Go.Bt
open Go Go.Pm
def tg (f : List It) : List It := f.filter isTag
theorem tg_append (a b : List It) : tg (a ++ b) = tg a ++ tg b := by simp [tg]
theorem tg_one {x : It} (h : isTag x = true) : tg [x] = [x] := by simp [tg,h]
theorem tg_none {x : It} (h : isTag x = false) : tg [x] = [] := by simp [tg,h]
theorem isTag_text (t : List UInt8) (i : Int) : isTag ⟨1,t,i⟩ = false := by simp [isTag]
theorem isTag_kind1 {x : It} (h : x.kind = 1) : isTag x = false := by simp [isTag,h]
theorem text_eq {x : It} (h1 : x.kind = 1) (h2 : x.id = 0) : (⟨1,x.text,0⟩ : It) = x := by
 obtain ⟨k,t,i⟩ := x
 simp only at h1 h2; subst h1; subst h2; rfl
theorem fine_text {p : Option It} {x : It} (hk : x.kind = 1) (h : itemFine p x = true) : x.text ≠ [] ∧ x.id = 0 ∧ ∀ y,p = some y → y.kind ≠ 1 := by
 simp only [itemFine,hk,if_true,Bool.and_eq_true,Bool.not_eq_true',beq_eq_false_iff_ne,beq_iff_eq] at h
 refine ⟨h.1.1,h.1.2,fun y hy => ?_⟩
 subst hy
 simpa using h.2
theorem fine_of_text {p : Option It} {t : List UInt8} (h1 : t ≠ []) (h2 : ∀ y,p = some y → y.kind ≠ 1) : itemFine p ⟨1,t,0⟩ = true := by
 simp only [itemFine,if_true,Bool.and_eq_true,Bool.not_eq_true',beq_eq_false_iff_ne,beq_iff_eq]
 refine ⟨⟨h1,trivial⟩,?_⟩
 cases p with
 | none => rfl
 | some y => simpa using h2 y rfl
theorem norm_valid {f : List It} : itemsErr [] f = 0 → normalize f = f := by
 refine rev_ind (p := fun f => itemsErr [] f = 0 → normalize f = f) (fun _ => rfl) ?_ f
 intro l x ih h
 obtain ⟨h1,h2,_⟩ := (itemsErr_snoc l [] x).1 h
 simp only [List.nil_append] at h2
 rw [normalize_snoc (ih h1)]
 by_cases hk : x.kind = 1
 ·obtain ⟨g1,g2,g3⟩ := fine_text hk h2
  simp only [normStep,hk,ne_eq,not_true,if_false,if_neg g1]
  cases hg : l.getLast? with
  | none => simp only [text_eq hk g2]
  | some y => simp only [if_neg (g3 y hg),text_eq hk g2]
 ·exact normStep_item hk
theorem fits_tg (f : List It) (x : It) : fits f x = fits (tg f) x := by
 induction f with
 | nil => rfl
 | cons y f ih =>
  by_cases h : isTag y = true
  ·simp only [fits,tg,List.filter_cons,h,if_true,List.all_cons] at ih ⊢
   rw [ih]
  ·have h : isTag y = false := by simpa using h
   have hb : fitsBad x y = false := by simp [fitsBad,h]
   simp only [fits,tg,List.filter_cons,h,List.all_cons,hb,Bool.false_eq_true,if_false,Bool.not_false,Bool.true_and] at ih ⊢
   exact ih
theorem norm_text {f : List It} (t : List UInt8) (h : itemsErr [] f = 0) : itemsErr [] (normalize (f ++ [⟨1,t,0⟩])) = 0 ∧ tg (normalize (f ++ [⟨1,t,0⟩])) = tg f := by
 rw [normalize_snoc (norm_valid h)]
 by_cases ht : t = []
 ·have e : normStep f ⟨1,t,0⟩ = f := by simp [normStep,ht]
  rw [e]; exact ⟨h,rfl⟩
 ·revert h
  refine rev_ind (p := fun f => itemsErr [] f = 0 → itemsErr [] (normStep f ⟨1,t,0⟩) = 0 ∧ tg (normStep f ⟨1,t,0⟩) = tg f) ?_ ?_ f
  ·intro _
   have e : normStep [] ⟨1,t,0⟩ = [] ++ [⟨1,t,0⟩] := by simp [normStep,ht]
   rw [e,itemsErr_snoc,tg_append,tg_none (isTag_text t 0),List.append_nil]
   exact ⟨⟨rfl,fine_of_text ht (by simp),by simp [isTag]⟩,rfl⟩
  ·intro l y _ h
   obtain ⟨h1,h2,h3⟩ := (itemsErr_snoc l [] y).1 h
   by_cases hy : y.kind = 1
   ·have e : normStep (l ++ [y]) ⟨1,t,0⟩ = l ++ [⟨1,y.text ++ t,0⟩] := by simp [normStep,ht,hy]
    obtain ⟨_,_,g3⟩ := fine_text hy h2
    rw [e,itemsErr_snoc,tg_append,tg_append,tg_none (isTag_text _ 0),tg_none (isTag_kind1 hy)]
    exact ⟨⟨h1,fine_of_text (by simp [ht]) g3,by simp [isTag]⟩,rfl⟩
   ·have e : normStep (l ++ [y]) ⟨1,t,0⟩ = (l ++ [y]) ++ [⟨1,t,0⟩] := by simp [normStep,ht,hy]
    rw [e,itemsErr_snoc,tg_append,tg_none (isTag_text _ 0),List.append_nil]
    refine ⟨⟨h,fine_of_text ht fun z hz => ?_,by simp [isTag]⟩,rfl⟩
    simp only [List.nil_append,List.getLast?_append,List.getLast?_singleton,Option.some_or,Option.some.injEq] at hz
    subst hz; exact hy
theorem norm_item {f : List It} {x : It} (h : itemsErr [] f = 0) (hk : x.kind ≠ 1) (hx : itemFine none x = true) (hf : isTag x = true → fits f x = true) :
  normalize (f ++ [x]) = f ++ [x] ∧ itemsErr [] (f ++ [x]) = 0 := by
 refine ⟨by rw [normalize_snoc (norm_valid h),normStep_item hk],?_⟩
 rw [itemsErr_snoc]
 refine ⟨h,by rw [itemFine_any hk]; exact hx,?_⟩
 rw [List.nil_append]
 cases ht : isTag x with
 | false => rfl
 | true => rw [hf ht]; rfl
structure Gen (f opn : List It) (n : Int) : Prop where
 err : itemsErr [] f = 0
 ids : ∀ z ∈ tg f,1 ≤ z.id ∧ z.id ≤ n
 nd : (opn.map (·.id)).Nodup
 op : ∀ y ∈ opn,isName (tagName y.text) = true ∧ 1 ≤ y.id ∧ y.id ≤ n ∧ ∀ z ∈ tg f,z.id = y.id → z.kind = 2 ∧ z.text = y.text
theorem Gen.nil : Gen [] [] 0 := ⟨rfl,by simp [tg],by simp,by simp⟩
theorem Gen.same {f g opn : List It} {n : Int} (h : Gen f opn n) (h1 : itemsErr [] g = 0) (h2 : tg g = tg f) : Gen g opn n :=
 ⟨h1,by rw [h2]; exact h.ids,h.nd,by rw [h2]; exact h.op⟩
theorem Gen.text {f opn : List It} {n : Int} (h : Gen f opn n) (t : List UInt8) : Gen (normalize (f ++ [⟨1,t,0⟩])) opn n :=
 h.same (norm_text t h.err).1 (norm_text t h.err).2
theorem Gen.slot {f opn : List It} {n : Int} (h : Gen f opn n) {t : List UInt8} (ht : isName t = true) : Gen (normalize (f ++ [⟨5,t,0⟩])) opn n := by
 obtain ⟨e,he⟩ := norm_item (x := ⟨5,t,0⟩) h.err (by simp) (by simp [itemFine,ht]) (by simp [isTag])
 rw [e]
 exact h.same he (by rw [tg_append,tg_none (by simp [isTag]),List.append_nil])
theorem fits_new {f : List It} {x : It} (h : ∀ z ∈ tg f,z.id ≠ x.id) : fits f x = true := by
 rw [fits_tg]
 simp only [fits,List.all_eq_true]
 intro z hz
 have := h z hz
 simp [fitsBad,this]
theorem Gen.empty {f opn : List It} {n : Int} (h : Gen f opn n) {t : List UInt8} (ht : isContent t = true) (h0 : 0 ≤ n) (h9 : n < 999) : Gen (normalize (f ++ [⟨4,t,n + 1⟩])) opn (n + 1) := by
 have hT : isTag ⟨4,t,n + 1⟩ = true := by simp [isTag]
 obtain ⟨e,he⟩ := norm_item (x := ⟨4,t,n + 1⟩) h.err (by simp) (by simp [itemFine,ht]; omega) (fun _ => fits_new fun z hz => by have := h.ids z hz; simp only; omega)
 rw [e]
 refine ⟨he,?_,h.nd,?_⟩
 ·intro z hz
  rw [tg_append,tg_one hT,List.mem_append,List.mem_singleton] at hz
  rcases hz with hz | rfl
  ·have := h.ids z hz; omega
  ·simp only; omega
 ·intro y hy
  obtain ⟨o1,o2,o3,o4⟩ := h.op y hy
  refine ⟨o1,o2,by omega,fun z hz hzi => ?_⟩
  rw [tg_append,tg_one hT,List.mem_append,List.mem_singleton] at hz
  rcases hz with hz | rfl
  ·exact o4 z hz hzi
  ·simp only at hzi; omega
theorem Gen.opens {f opn : List It} {n : Int} (h : Gen f opn n) {t : List UInt8} (ht : isContent t = true) (hn : isName (tagName t) = true) (h0 : 0 ≤ n) (h9 : n < 999) :
  Gen (normalize (f ++ [⟨2,t,n + 1⟩])) (opn ++ [⟨2,t,n + 1⟩]) (n + 1) := by
 have hT : isTag ⟨2,t,n + 1⟩ = true := by simp [isTag]
 obtain ⟨e,he⟩ := norm_item (x := ⟨2,t,n + 1⟩) h.err (by simp) (by simp [itemFine,ht]; omega) (fun _ => fits_new fun z hz => by have := h.ids z hz; simp only; omega)
 rw [e]
 refine ⟨he,?_,?_,?_⟩
 ·intro z hz
  rw [tg_append,tg_one hT,List.mem_append,List.mem_singleton] at hz
  rcases hz with hz | rfl
  ·have := h.ids z hz; omega
  ·simp only; omega
 ·rw [List.map_append,List.nodup_append]
  refine ⟨h.nd,by simp,?_⟩
  intro a ha b hb
  obtain ⟨y,hy,rfl⟩ := List.mem_map.1 ha
  simp only [List.map_cons,List.map_nil,List.mem_singleton] at hb
  have := (h.op y hy).2.2.1
  omega
 ·intro y hy
  rw [List.mem_append,List.mem_singleton] at hy
  rcases hy with hy | rfl
  ·obtain ⟨o1,o2,o3,o4⟩ := h.op y hy
   refine ⟨o1,o2,by omega,fun z hz hzi => ?_⟩
   rw [tg_append,tg_one hT,List.mem_append,List.mem_singleton] at hz
   rcases hz with hz | rfl
   ·exact o4 z hz hzi
   ·simp only at hzi; omega
  ·refine ⟨hn,by simp only; omega,by simp only; omega,fun z hz hzi => ?_⟩
   rw [tg_append,tg_one hT,List.mem_append,List.mem_singleton] at hz
   rcases hz with hz | rfl
   ·have := h.ids z hz; simp only at hzi; omega
   ·exact ⟨rfl,rfl⟩
theorem Gen.close {f opn : List It} {y : It} {n : Int} (h : Gen f (opn ++ [y]) n) (h9 : n ≤ 999) :
  Gen (f ++ [⟨3,tagName y.text,y.id⟩]) opn n ∧ normalize (f ++ [⟨3,tagName y.text,y.id⟩]) = f ++ [⟨3,tagName y.text,y.id⟩] := by
 have hT : isTag ⟨3,tagName y.text,y.id⟩ = true := by simp [isTag]
 obtain ⟨o1,o2,o3,o4⟩ := h.op y (by simp)
 obtain ⟨e,he⟩ := norm_item (x := ⟨3,tagName y.text,y.id⟩) h.err (by simp) (by simp [itemFine,o1]; omega) (fun _ => by
  rw [fits_tg]
  simp only [fits,List.all_eq_true]
  intro z hz
  by_cases hi : z.id = y.id
  ·obtain ⟨z1,z2⟩ := o4 z hz hi
   simp [fitsBad,z1,z2]
  ·simp [fitsBad,hi])
 have hnd := h.nd
 rw [List.map_append,List.nodup_append] at hnd
 refine ⟨⟨he,?_,hnd.1,?_⟩,e⟩
 ·intro z hz
  rw [tg_append,tg_one hT,List.mem_append,List.mem_singleton] at hz
  rcases hz with hz | rfl
  ·exact h.ids z hz
  ·exact ⟨o2,o3⟩
 ·intro x hx
  obtain ⟨p1,p2,p3,p4⟩ := h.op x (by simp [hx])
  refine ⟨p1,p2,p3,fun z hz hzi => ?_⟩
  rw [tg_append,tg_one hT,List.mem_append,List.mem_singleton] at hz
  rcases hz with hz | rfl
  ·exact p4 z hz hzi
  ·have := hnd.2.2 x.id (List.mem_map.2 ⟨x,hx,rfl⟩) y.id (by simp)
   exact absurd hzi.symm this
structure Tgt (pre f : List It) : Prop where
 err : itemsErr [] f = 0
 tags : tg f = tg pre
theorem Tgt.nil : Tgt [] [] := ⟨rfl,rfl⟩
theorem Tgt.more {pre f : List It} (h : Tgt pre f) (t : List UInt8) : Tgt pre (normalize (f ++ [⟨1,t,0⟩])) :=
 ⟨(norm_text t h.err).1,(norm_text t h.err).2.trans h.tags⟩
theorem Tgt.text {pre f : List It} {x : It} (h : Tgt pre f) (hk : x.kind = 1) (t : List UInt8) : Tgt (pre ++ [x]) (normalize (f ++ [⟨1,t,0⟩])) :=
 ⟨(norm_text t h.err).1,by rw [(norm_text t h.err).2,h.tags,tg_append,tg_none (isTag_kind1 hk),List.append_nil]⟩
theorem Tgt.item {pre f rest : List It} {x : It} (h : Tgt pre f) (hs : itemsErr [] (pre ++ x :: rest) = 0) (hk : x.kind ≠ 1) : Tgt (pre ++ [x]) (normalize (f ++ [x])) := by
 rw [itemsErr_append,itemsErr_cons] at hs
 obtain ⟨_,h2,h3,_⟩ := hs
 rw [List.nil_append] at h2 h3
 obtain ⟨e,he⟩ := norm_item (x := x) h.err hk (by rw [← itemFine_any (p := pre.getLast?) hk]; exact h2) (fun ht => by
  rw [ht,Bool.true_and] at h3
  rw [fits_tg,h.tags,← fits_tg]
  simpa using h3)
 rw [e]
 exact ⟨he,by rw [tg_append,tg_append,h.tags]⟩
theorem toF_from : ∀ (l : List Int) (k : Int) (x : Int),toF l ((List.range l.length).map fun (i : Nat) => (i : Int) + k) x = if x ∈ l then some ((l.idxOf x : Int) + k) else none
 | [],k,x => by simp [toF]
 | a :: l,k,x => by
  have e : (List.range (l.length + 1)).map (fun (i : Nat) => (i : Int) + k) = k :: (List.range l.length).map fun (i : Nat) => (i : Int) + (k + 1) := by
   rw [List.range_succ_eq_map,List.map_cons,List.map_map]
   refine congr (congrArg _ (by omega)) (List.map_congr_left fun i _ => ?_)
   simp only [Function.comp]; omega
  rw [List.length_cons,e]
  simp only [toF]
  by_cases h : x = a
  ·subst h; simp
  ·have h2 : (a == x) = false := by simpa using fun e => h e.symm
   rw [if_neg h,toF_from l (k + 1) x,List.idxOf_cons,h2]
   by_cases h3 : x ∈ l
   ·rw [if_pos h3,if_pos (List.mem_cons_of_mem _ h3)]
    congr 1
    simp only [cond_false]; omega
   ·rw [if_neg h3,if_neg (by simp [h,h3])]
theorem toF_count (l : List Int) (x : Int) : toF l (counting l.length) x = if x ∈ l then some ((l.idxOf x : Int) + 1) else none := toF_from l 1 x
def mvI (l : List Int) (x : It) : It := if isTag x = true then ⟨x.kind,x.text,(l.idxOf x.id : Int) + 1⟩ else x
theorem mvI_kind (l : List Int) (x : It) : (mvI l x).kind = x.kind := by simp only [mvI]; split <;> rfl
theorem mvI_text (l : List Int) (x : It) : (mvI l x).text = x.text := by simp only [mvI]; split <;> rfl
theorem mvI_tag (l : List Int) (x : It) : isTag (mvI l x) = isTag x := by simp only [isTag,mvI_kind]
theorem renamed_map {l : List Int} {f : List It} (h : ∀ x ∈ tg f,x.id ∈ l) : renamed f l (counting l.length) = f.map (mvI l) := by
 have key : ∀ x ∈ f,ren l (counting l.length) x = some (mvI l x) := by
  intro x hx
  simp only [ren,mvI]
  by_cases ht : isTag x = true
  ·have := h x (List.mem_filter.2 ⟨hx,ht⟩)
   rw [if_pos ht,if_pos ht,toF_count,if_pos this]; rfl
  ·rw [if_neg ht,if_neg ht]
 simp only [renamed]
 rw [fm_congr key]
 clear key h
 induction f with
 | nil => rfl
 | cons x f ih => simp only [List.filterMap_cons,List.map_cons,ih]
theorem idx_inj {l : List Int} {x y : Int} (hx : x ∈ l) (hy : y ∈ l) (h : l.idxOf x = l.idxOf y) : x = y := by
 induction l with
 | nil => simp at hx
 | cons a l ih =>
  simp only [List.idxOf_cons] at h
  by_cases h1 : a = x
  ·by_cases h2 : a = y
   ·rw [← h1,h2]
   ·have e1 : (a == x) = true := by simp [h1]
    have e2 : (a == y) = false := by simp [h2]
    rw [e1,e2] at h; simp at h
  ·have e1 : (a == x) = false := by simp [h1]
   by_cases h2 : a = y
   ·have e2 : (a == y) = true := by simp [h2]
    rw [e1,e2] at h; simp at h
   ·have e2 : (a == y) = false := by simp [h2]
    rw [e1,e2] at h
    simp only [cond_false] at h
    refine ih ?_ ?_ (by omega)
    ·rcases List.mem_cons.1 hx with h3 | h3
     ·exact absurd h3.symm h1
     ·exact h3
    ·rcases List.mem_cons.1 hy with h3 | h3
     ·exact absurd h3.symm h2
     ·exact h3
theorem mvI_fine {l : List Int} {x : It} {p : Option It} (hx : isTag x = true → x.id ∈ l) (hl : l.length ≤ 999) (h : itemFine p x = true) : itemFine (p.map (mvI l)) (mvI l x) = true := by
 by_cases ht : isTag x = true
 ·have hlt : l.idxOf x.id < l.length := List.idxOf_lt_length_of_mem (hx ht)
  have hk : x.kind = 2 ∨ x.kind = 3 ∨ x.kind = 4 := by
   simp only [isTag,Bool.or_eq_true,beq_iff_eq] at ht; omega
  have e : mvI l x = ⟨x.kind,x.text,(l.idxOf x.id : Int) + 1⟩ := by rw [mvI,if_pos ht]
  rw [e]
  simp only [itemFine] at h ⊢
  rcases hk with hk | hk | hk
  ·simp [hk] at h ⊢; exact ⟨⟨h.1.1,by omega⟩,by omega⟩
  ·simp [hk] at h ⊢; exact ⟨⟨h.1.1,by omega⟩,by omega⟩
  ·simp [hk] at h ⊢; exact ⟨⟨h.1.1,by omega⟩,by omega⟩
 ·have e : mvI l x = x := by rw [mvI,if_neg ht]
  rw [e]
  by_cases hk : x.kind = 1
  ·obtain ⟨g1,g2,g3⟩ := fine_text hk h
   rw [← text_eq hk g2]
   refine fine_of_text g1 fun y hy => ?_
   obtain ⟨z,hz,rfl⟩ := Option.map_eq_some_iff.1 hy
   rw [mvI_kind]; exact g3 z hz
  ·rw [itemFine_any hk] at h ⊢; exact h
theorem mvI_fits {l : List Int} {x : It} {f : List It} (ht : isTag x = true) (hx : x.id ∈ l) (hf : ∀ z ∈ tg f,z.id ∈ l) (h : fits f x = true) : fits (f.map (mvI l)) (mvI l x) = true := by
 simp only [fits,List.all_eq_true,List.mem_map] at h ⊢
 rintro _ ⟨y,hy,rfl⟩
 have hb := h y hy
 by_cases hty : isTag y = true
 ·have hyl := hf y (List.mem_filter.2 ⟨hy,hty⟩)
  have e1 : mvI l x = ⟨x.kind,x.text,(l.idxOf x.id : Int) + 1⟩ := by rw [mvI,if_pos ht]
  have e2 : mvI l y = ⟨y.kind,y.text,(l.idxOf y.id : Int) + 1⟩ := by rw [mvI,if_pos hty]
  have e3 : ((l.idxOf y.id : Int) + 1 != (l.idxOf x.id : Int) + 1) = (y.id != x.id) := by
   by_cases hi : y.id = x.id
   ·rw [hi]; simp
   ·have : l.idxOf y.id ≠ l.idxOf x.id := fun e => hi (idx_inj hyl hx e)
    have h1 : (y.id != x.id) = true := by simpa using hi
    rw [h1]; simp; omega
  have e4 : isTag (mvI l y) = isTag y := mvI_tag l y
  simp only [fitsBad,e4] at hb ⊢
  rw [e1,e2]
  simp only
  rw [e3]
  exact hb
 ·have hty : isTag y = false := by simpa using hty
  simp [fitsBad,mvI_tag,hty]
theorem map_err {l : List Int} (hl : l.length ≤ 999) {f : List It} (hf : ∀ x ∈ tg f,x.id ∈ l) (h : itemsErr [] f = 0) : itemsErr [] (f.map (mvI l)) = 0 := by
 revert hf h
 refine rev_ind (p := fun f => (∀ x ∈ tg f,x.id ∈ l) → itemsErr [] f = 0 → itemsErr [] (f.map (mvI l)) = 0) (fun _ _ => rfl) ?_ f
 intro f x ih hf h
 obtain ⟨h1,h2,h3⟩ := (itemsErr_snoc f [] x).1 h
 rw [List.nil_append] at h2 h3
 have hf1 : ∀ z ∈ tg f,z.id ∈ l := fun z hz => hf z (by rw [tg_append]; exact List.mem_append_left _ hz)
 have hx1 : isTag x = true → x.id ∈ l := fun ht => hf x (by rw [tg_append,tg_one ht]; simp)
 rw [List.map_append,List.map_cons,List.map_nil,itemsErr_snoc]
 refine ⟨ih hf1 h1,?_,?_⟩
 ·rw [List.nil_append,List.getLast?_map]
  exact mvI_fine hx1 hl h2
 ·rw [List.nil_append,mvI_tag]
  cases ht : isTag x with
  | false => rfl
  | true =>
   rw [ht,Bool.true_and] at h3
   rw [mvI_fits ht (hx1 ht) hf1 (by simpa using h3)]; rfl
theorem textLen_map (l : List Int) (f : List It) : textLen (f.map (mvI l)) = textLen f := by
 induction f with
 | nil => rfl
 | cons x f ih => simp only [List.map_cons,textLen,mvI_text,ih]
def tagIds (f : List It) : List Int := (tg f).map (·.id)
theorem numbers_tagIds (f : List It) : numbers f = (tagIds f).foldl insI [] := by
 simp only [numbers,numbersFrom_fold]; rfl
theorem canon_ids (s t : List It) : canonNumbers s t = (tagIds (s ++ t)).foldl insI [] := by
 rw [← numbers_append,numbers_tagIds]
theorem canon_all (s t : List It) : (∀ x ∈ tg s,x.id ∈ canonNumbers s t) ∧ ∀ x ∈ tg t,x.id ∈ canonNumbers s t := by
 rw [canon_ids]
 constructor <;> intro x hx <;> refine foldI_mem _ ?_ <;> simp only [tagIds,tg_append,List.map_append,List.mem_append,List.mem_map]
 ·exact .inl ⟨x,hx,rfl⟩
 ·exact .inr ⟨x,hx,rfl⟩
theorem insI_nodup {l : List Int} {n : Int} (h : l.Nodup) : (insI l n).Nodup := by
 simp only [insI]
 split
 ·exact h
 ·rename_i h1
  rw [List.nodup_append]
  refine ⟨h,by simp,?_⟩
  intro a ha b hb e
  simp only [List.mem_singleton] at hb
  subst hb; subst e
  exact h1 (by simpa using ha)
theorem foldI_nodup : ∀ (m : List Int) {l : List Int},l.Nodup → (m.foldl insI l).Nodup
 | [],_,h => h
 | _ :: m,_,h => foldI_nodup m (insI_nodup h)
theorem foldI_map {g : Int → Int} {L : List Int} (hg : ∀ x ∈ L,∀ y ∈ L,g x = g y → x = y) : ∀ (m acc : List Int),(∀ x ∈ m,x ∈ L) → (∀ x ∈ acc,x ∈ L) → (m.map g).foldl insI (acc.map g) = (m.foldl insI acc).map g
 | [],_,_,_ => rfl
 | n :: m,acc,hm,ha => by
  have hn := hm n (by simp)
  have e : insI (acc.map g) (g n) = (insI acc n).map g := by
   by_cases h : n ∈ acc
   ·have h1 : acc.contains n = true := by simpa using h
    have h2 : (acc.map g).contains (g n) = true := by simp; exact ⟨n,h,rfl⟩
    simp only [insI,h1,h2,if_true]
   ·have h1 : acc.contains n = false := by simpa using h
    have h2 : (acc.map g).contains (g n) = false := by
     cases h3 : (acc.map g).contains (g n) with
     | false => rfl
     | true =>
      simp only [List.contains_iff_mem,List.mem_map] at h3
      obtain ⟨x,hx,hxe⟩ := h3
      exact absurd (hg x (ha x hx) n hn hxe ▸ hx) h
    simp only [insI,h1,h2,Bool.false_eq_true,if_false,List.map_append,List.map_cons,List.map_nil]
  simp only [List.map_cons,List.foldl_cons,e]
  refine foldI_map hg m (insI acc n) (fun x hx => hm x (by simp [hx])) fun x hx => ?_
  simp only [insI] at hx
  split at hx
  ·exact ha x hx
  ·rw [List.mem_append,List.mem_singleton] at hx
   rcases hx with hx | rfl
   ·exact ha x hx
   ·exact hn
theorem idx_count : ∀ {L : List Int} (_ : L.Nodup),L.map (fun x => (L.idxOf x : Int) + 1) = counting L.length := by
 intro L hnd
 have key : ∀ (l pre : List Int),(pre ++ l).Nodup → l.map (fun x => ((pre ++ l).idxOf x : Int) + 1) = (List.range l.length).map fun (i : Nat) => (i : Int) + ((pre.length : Int) + 1) := by
  intro l
  induction l with
  | nil => intro pre _; rfl
  | cons a l ih =>
   intro pre h
   have e : (List.range (l.length + 1)).map (fun (i : Nat) => (i : Int) + ((pre.length : Int) + 1)) = ((pre.length : Int) + 1) :: (List.range l.length).map fun (i : Nat) => (i : Int) + (((pre ++ [a]).length : Int) + 1) := by
    rw [List.range_succ_eq_map,List.map_cons,List.map_map]
    refine congr (congrArg _ (by omega)) (List.map_congr_left fun i _ => ?_)
    simp only [Function.comp,List.length_append,List.length_cons,List.length_nil]; omega
   have h2 := ih (pre ++ [a]) (by rwa [List.append_assoc,List.singleton_append])
   rw [List.append_assoc,List.singleton_append] at h2
   rw [List.length_cons,e,← h2,List.map_cons]
   congr 1
   have hna : a ∉ pre := by
    rw [List.nodup_append] at h
    exact fun hm => h.2.2 a hm a (by simp) rfl
   have : (pre ++ a :: l).idxOf a = pre.length := by
    clear h2 e ih h
    induction pre with
    | nil => simp
    | cons b pre ih =>
     have hb : (b == a) = false := by
      simp only [List.mem_cons,not_or] at hna
      simpa using fun e => hna.1 e.symm
     rw [List.cons_append,List.idxOf_cons,hb,cond_false,ih (fun hm => hna (List.mem_cons_of_mem _ hm)),List.length_cons]
   rw [this]
 have := key L [] hnd
 simpa [counting] using this
theorem tagIds_map {l : List Int} {f : List It} : tagIds (f.map (mvI l)) = (tagIds f).map fun x => (l.idxOf x : Int) + 1 := by
 induction f with
 | nil => rfl
 | cons x f ih =>
  simp only [tagIds,tg,List.map_cons,List.filter_cons,mvI_tag] at ih ⊢
  by_cases ht : isTag x = true
  ·rw [if_pos ht,if_pos ht,List.map_cons,List.map_cons,List.map_cons,ih]
   congr 1
   rw [mvI,if_pos ht]
  ·rw [if_neg ht,if_neg ht,ih]
theorem canon_eq {s t : List It} (hs : itemsErr [] s = 0) (ht : itemsErr [] t = 0) (hl : (canonNumbers s t).length ≤ 999) :
  canonS s t = s.map (mvI (canonNumbers s t)) ∧ canonT s t = t.map (mvI (canonNumbers s t)) := by
 have ha := canon_all s t
 constructor
 ·rw [canonS,rename,renamed_map ha.1]; exact norm_valid (map_err hl ha.1 hs)
 ·rw [canonT,rename,renamed_map ha.2]; exact norm_valid (map_err hl ha.2 ht)
theorem canon_count {s t : List It} : canonNumbers (s.map (mvI (canonNumbers s t))) (t.map (mvI (canonNumbers s t))) = counting (canonNumbers s t).length := by
 have e : canonNumbers s t = (tagIds (s ++ t)).foldl insI [] := canon_ids s t
 have hL : ∀ x ∈ tagIds (s ++ t),x ∈ canonNumbers s t := fun x hx => by rw [e]; exact foldI_mem _ hx
 rw [canon_ids (s.map _) (t.map _),← List.map_append,tagIds_map]
 have h1 := foldI_map (g := fun x => ((canonNumbers s t).idxOf x : Int) + 1) (L := canonNumbers s t) (fun x hx y hy h => idx_inj hx hy (by omega)) (tagIds (s ++ t)) [] hL (by simp)
 rw [List.map_nil] at h1
 rw [h1,← e]
 exact idx_count (by rw [e]; exact foldI_nodup _ List.nodup_nil)
theorem count_idx {n : Nat} {x : Int} (h : x ∈ counting n) : ((counting n).idxOf x : Int) + 1 = x := by
 have hnd : (counting n).Nodup := by
  simp only [counting]
  exact (List.nodup_range).map (f := fun (i : Nat) => (i : Int) + 1) (fun a b h => by have h : a ≠ b := h; omega)
 have e := idx_count hnd
 rw [counting_len] at e
 have hlt : (counting n).idxOf x < (counting n).length := List.idxOf_lt_length_of_mem h
 have h2 : ((counting n).map fun x => ((counting n).idxOf x : Int) + 1)[(counting n).idxOf x]? = (counting n)[(counting n).idxOf x]? := by rw [e]
 rw [List.getElem?_map,List.getElem?_eq_getElem hlt] at h2
 have hg : (counting n)[(counting n).idxOf x] = x := List.getElem_idxOf hlt
 rw [hg] at h2
 simpa using h2
theorem mvI_count {n : Nat} {f : List It} (h : ∀ x ∈ tg f,x.id ∈ counting n) : f.map (mvI (counting n)) = f := by
 induction f with
 | nil => rfl
 | cons x f ih =>
  rw [List.map_cons]
  have h2 : ∀ z ∈ tg f,z.id ∈ counting n := fun z hz => h z (by simp only [tg,List.filter_cons]; split <;> simp [tg] at hz ⊢ <;> simp [hz])
  rw [ih h2]
  congr 1
  rw [mvI]
  split
  ·rename_i ht
   have := h x (by simp only [tg,List.filter_cons,ht,if_true]; simp)
   rw [count_idx this]
  ·rfl
theorem canon_ok {s t : List It} (hs : itemsErr [] s = 0) (ht : itemsErr [] t = 0) (hl : (canonNumbers s t).length ≤ 999) :
  canonS (canonS s t) (canonT s t) = canonS s t ∧ canonT (canonS s t) (canonT s t) = canonT s t := by
 obtain ⟨e1,e2⟩ := canon_eq hs ht hl
 have ha := canon_all s t
 have hs' := map_err hl ha.1 hs
 have ht' := map_err hl ha.2 ht
 rw [e1,e2]
 have hn := canon_count (s := s) (t := t)
 have hl' : (canonNumbers (s.map (mvI (canonNumbers s t))) (t.map (mvI (canonNumbers s t)))).length ≤ 999 := by rw [hn,counting_len]; exact hl
 obtain ⟨f1,f2⟩ := canon_eq hs' ht' hl'
 have hb := canon_all (s.map (mvI (canonNumbers s t))) (t.map (mvI (canonNumbers s t)))
 rw [hn] at hb f1 f2
 exact ⟨by rw [f1,mvI_count hb.1],by rw [f2,mvI_count hb.2]⟩
theorem lowB_nat (n : Int) : ((lowB n).toNat : Int) = n % 256 := by
 have h1 : 0 ≤ n % 256 := Int.emod_nonneg _ (by decide)
 have h2 : n % 256 < 256 := Int.emod_lt_of_pos _ (by decide)
 simp only [lowB,UInt8.toNat_ofNat']
 omega
theorem lowB_of (x : UInt8) : lowB (x.toNat : Int) = x := by
 have := x.toNat_lt
 apply UInt8.toNat_inj.1
 have h := lowB_nat (x.toNat : Int)
 omega
theorem be1_of (a : UInt8) : [lowB (beNat [a])] = [a] := by
 have : beNat [a] = (a.toNat : Int) := by simp [beNat]
 rw [this,lowB_of]
theorem lowB_eq {n : Int} {x : UInt8} (h : n % 256 = x.toNat) : lowB n = x := by
 apply UInt8.toNat_inj.1
 have := lowB_nat n
 omega
theorem be2_of (a b : UInt8) : be2 (beNat [a,b]) = [a,b] := by
 have h1 := a.toNat_lt
 have h2 := b.toNat_lt
 simp only [be2,beNat,List.foldl_cons,List.foldl_nil,List.cons.injEq,and_true]
 exact ⟨lowB_eq (by omega),lowB_eq (by omega)⟩
theorem be4_of (a b c d : UInt8) : be4 (beNat [a,b,c,d]) = [a,b,c,d] := by
 have h1 := a.toNat_lt
 have h2 := b.toNat_lt
 have h3 := c.toNat_lt
 have h4 := d.toNat_lt
 simp only [be4,be2,beNat,List.foldl_cons,List.foldl_nil,List.cons_append,List.nil_append,List.cons.injEq,and_true]
 exact ⟨lowB_eq (by omega),lowB_eq (by omega),lowB_eq (by omega),lowB_eq (by omega)⟩
theorem vAt_range (v : List Int) (o : Int) : 0 ≤ vAt v o := by
 simp only [vAt]
 (repeat' split) <;> omega
theorem vTrim_fixed {v : List Int} (h : vTrim v = v) : v.length ≤ 8 ∧ ∀ n ∈ v,0 ≤ n := by
 have h0 : vTrim v = (joinList v [] 8).take (joinLast v [] 8) := rfl
 constructor
 ·rw [← h,h0]; simp [joinList_length]; omega
 ·intro n hn
  rw [← h,h0] at hn
  have hn := List.mem_of_mem_take hn
  simp only [joinList,List.mem_map] at hn
  obtain ⟨i,_,rfl⟩ := hn
  have h1 := vAt_range v i
  have h2 := vAt_range [] i
  split <;> omega
structure opFacts (o : Opr) : Prop where
 time : 1 ≤ o.stamp.time ∧ o.stamp.time ≤ 1073741824
 office : 0 ≤ o.stamp.office ∧ o.stamp.office < 8
 number : 1 ≤ o.stamp.number ∧ o.stamp.number ≤ 128
 kind : o.kind = 1 ∨ o.kind = 2
 seenLen : o.seen.length ≤ 8
 seen : ∀ n ∈ o.seen,0 ≤ n ∧ n ≤ 128
 bare : o.kind = 2 → o.entry = ⟨o.entry.source,[],o.entry.previous,o.entry.next,[],[],0,0⟩
 looked : entryErr (looked o) = 0
theorem op_facts {o : Opr} (h : opErr o = 0) : opFacts o := by
 simp only [opErr] at h
 split at h
 ·simp at h
 ·rename_i h1
  split at h
  ·simp at h
  ·rename_i h2
   split at h
   ·simp at h
   ·rename_i h3
    split at h
    ·simp at h
    ·split at h
     ·simp at h
     ·rename_i h5
      simp only [Bool.not_eq_false,stampOk,decide_eq_true_eq] at h1
      have hs : vTrim o.seen = o.seen := by
       by_cases hs : vTrim o.seen = o.seen
       ·exact hs
       ·exact absurd (.inr hs) h2
      obtain ⟨s1,s2⟩ := vTrim_fixed hs
      simp only [Bool.not_eq_true,List.any_eq_false,decide_eq_true_eq] at h3
      refine ⟨⟨by omega,by omega⟩,⟨by omega,by omega⟩,⟨by omega,by omega⟩,by omega,s1,fun n hn => ⟨s2 n hn,by have := h3 n hn; omega⟩,fun hk => ?_,h⟩
      have hb : bareEn o.entry = true := by
       cases hb : bareEn o.entry with
       | true => rfl
       | false => exact absurd ⟨hk,hb⟩ h5
      simp only [bareEn,Bool.and_eq_true,beq_iff_eq,List.length_eq_zero_iff] at hb
      obtain ⟨b1,b2,b3,b4,b5⟩ := hb
      clear h
      generalize o.entry = e at b1 b2 b3 b4 b5 ⊢
      obtain ⟨a1,a2,a3,a4,a5,a6,a7,a8⟩ := e
      simp only at b1 b2 b3 b4 b5
      subst b1; subst b2; subst b3; subst b4; subst b5
      rfl
structure enFacts (e : En) : Prop where
 source : validItems e.source = 0
 target : validItems e.target = 0
 nonempty : e.source ≠ []
 author : isName e.author = true ∨ e.author = []
 project : isName e.project = true ∨ e.project = []
 created : 0 ≤ e.created ∧ e.created ≤ 1073741824
 origin : 1 ≤ e.origin ∧ e.origin ≤ 3
theorem en_facts {e : En} (h : entryErr e = 0) : enFacts e := by
 simp only [entryErr] at h
 split at h
 ·rename_i h1; exact absurd h h1
 ·rename_i h1
  split at h
  ·rename_i h2; exact absurd h h2
  ·rename_i h2
   split at h
   ·simp at h
   ·rename_i h3
    split at h
    ·rename_i h4; exact absurd h h4
    ·split at h
     ·rename_i h5; exact absurd h h5
     ·split at h
      ·simp at h
      ·rename_i h6
       split at h
       ·simp at h
       ·rename_i h7
        simp only [canonOk,Bool.not_eq_false,Bool.and_eq_true,Bool.not_eq_true',beq_eq_false_iff_ne,ne_eq,List.length_eq_zero_iff] at h3
        simp only [named,Bool.not_eq_false,Bool.and_eq_true,Bool.or_eq_true,beq_iff_eq] at h6
        exact ⟨by simpa using h1,by simpa using h2,h3.1.1,h6.1.symm,h6.2.symm,⟨by omega,by omega⟩,⟨by omega,by omega⟩⟩
theorem isName_len {s : List UInt8} (h : isName s = true ∨ s = []) : s.length ≤ 24 := by
 rcases h with h | rfl
 ·cases s with
  | nil => simp
  | cons c r => simp only [isName,Bool.and_eq_true,decide_eq_true_eq] at h; exact h.1.1
 ·simp
theorem small_total {f : List It} (h1 : f.length < 2 ^ 30) (h2 : textLen f < 2 ^ 30) : total f < 2 ^ 63 := by
 have := total_le f
 omega
theorem textLen_fine : ∀ f : List It,(∀ x ∈ f,itemFine none x = true) → textLen f ≤ total f + 64 * f.length := by
 intro f
 induction f with
 | nil => intro _; simp [textLen]
 | cons x f ih =>
  intro h
  have e1 := ih fun y hy => h y (by simp [hy])
  have hx := h x (by simp)
  have ht : total (x :: f) = wid x + total f := by simp [total]
  have hw : x.text.length ≤ wid x + 64 := by
   simp only [itemFine] at hx
   by_cases k1 : x.kind = 1
   ·simp [wid,k1]
   ·rw [if_neg k1] at hx
    by_cases k5 : x.kind = 5
    ·rw [if_pos k5] at hx
     simp only [Bool.and_eq_true] at hx
     have := isName_len (.inl hx.1); omega
    ·rw [if_neg k5] at hx
     by_cases k2 : x.kind = 2 ∨ x.kind = 4
     ·rw [if_pos k2] at hx
      simp only [Bool.and_eq_true,isContent,contentEnds,decide_eq_true_eq] at hx; omega
     ·rw [if_neg k2] at hx
      by_cases k3 : x.kind = 3
      ·rw [if_pos k3] at hx
       simp only [Bool.and_eq_true] at hx
       have := isName_len (.inl hx.1.1); omega
      ·rw [if_neg k3] at hx; simp at hx
  simp only [textLen,List.length_cons,ht]; omega
theorem canon_len (s t : List It) : (canonNumbers s t).length ≤ s.length + t.length := by
 have h1 := moreNumbers_len (numbers t) (numbers s)
 have h2 := numbers_len s
 have h3 := numbers_len t
 simp only [canonNumbers]; omega
theorem gen_valid {f : List It} (h : itemsErr [] f = 0) (h1 : f.length ≤ 100) (h2 : textLen f ≤ 900) : validItems f = 0 := by
 have := total_le f
 exact (validItems_iff (by omega)).2 ⟨by omega,by omega,h⟩
def genCtx : List (List UInt8) := [[],[83,97,118,101],[114,101,100,32,99,97,114],[120]]
def genNames : List (List UInt8) := [[],[97,110,110],[98,111,98],[112],[113]]
theorem ctx_ok : ∀ s ∈ genCtx,(parse s).2.2 = 0 ∧ s.length ≤ 7 := by decide +kernel
theorem names_ok : ∀ s ∈ genNames,named s = true ∧ s.length ≤ 3 := by decide +kernel
structure GenEn (e : En) : Prop where
 ok : entryErr e = 0
 srcLen : e.source.length ≤ 40
 srcText : textLen e.source ≤ 400
 tgtLen : e.target.length ≤ 100
 tgtText : textLen e.target ≤ 900
 prev : e.previous.length ≤ 7
 next : e.next.length ≤ 7
 author : e.author.length ≤ 3
 project : e.project.length ≤ 3
theorem fine_id {p : Option It} {x : It} (h : itemFine p x = true) : 0 ≤ x.id ∧ x.id ≤ 999 := by
 simp only [itemFine] at h
 split at h
 ·simp only [Bool.and_eq_true,beq_iff_eq] at h; omega
 ·split at h
  ·simp only [Bool.and_eq_true,beq_iff_eq] at h; omega
  ·split at h
   ·simp only [Bool.and_eq_true,decide_eq_true_eq] at h; omega
   ·split at h
    ·simp only [Bool.and_eq_true,decide_eq_true_eq] at h; omega
    ·simp at h
theorem valid_ids {f : List It} (h : validItems f = 0) : ∀ x ∈ f,0 ≤ x.id ∧ x.id ≤ 999 := by
 simp only [validItems] at h
 split at h
 ·simp at h
 ·intro x hx
  exact fine_id (itemsErr_fine f [] h x hx)
theorem asked_source {e : En} (h : entryErr e = 0) : validItems e.source = 0 ∧ validItems e.target = 0 := ⟨(en_facts h).source,(en_facts h).target⟩
theorem gen_entry {f t : List It} {p n a r : List UInt8} {c o : Int} (hf : itemsErr [] f = 0) (ht : itemsErr [] t = 0) (hne : f ≠ []) (f1 : f.length ≤ 40) (f2 : textLen f ≤ 400) (t1 : t.length ≤ 100) (t2 : textLen t ≤ 900)
  (hp : p ∈ genCtx) (hn : n ∈ genCtx) (ha : a ∈ genNames) (hr : r ∈ genNames) (hc : 0 ≤ c ∧ c ≤ 1073741824) (ho : 1 ≤ o ∧ o ≤ 3) : GenEn ⟨canonS f t,canonT f t,p,n,a,r,c,o⟩ := by
 have hl : (canonNumbers f t).length ≤ 999 := by have := canon_len f t; omega
 obtain ⟨e1,e2⟩ := canon_eq hf ht hl
 have hall := canon_all f t
 have v1 : itemsErr [] (canonS f t) = 0 := by rw [e1]; exact map_err hl hall.1 hf
 have v2 : itemsErr [] (canonT f t) = 0 := by rw [e2]; exact map_err hl hall.2 ht
 have l1 : (canonS f t).length = f.length := by rw [e1,List.length_map]
 have l2 : (canonT f t).length = t.length := by rw [e2,List.length_map]
 have x1 : textLen (canonS f t) = textLen f := by rw [e1,textLen_map]
 have x2 : textLen (canonT f t) = textLen t := by rw [e2,textLen_map]
 obtain ⟨k1,k2⟩ := canon_ok hf ht hl
 have w1 : validItems (canonS f t) = 0 := gen_valid v1 (by omega) (by omega)
 have w2 : validItems (canonT f t) = 0 := gen_valid v2 (by omega) (by omega)
 have hne' : (canonS f t).length ≠ 0 := by rw [l1]; exact fun h => hne (List.eq_nil_of_length_eq_zero h)
 have hco : canonOk ⟨canonS f t,canonT f t,p,n,a,r,c,o⟩ = true := by
  simp only [canonOk,k1,k2,itsEq_iff.2 rfl,Bool.and_true,Bool.not_eq_true',beq_eq_false_iff_ne,ne_eq]
  exact hne'
 refine ⟨?_,by simp only [l1]; exact f1,by simp only [x1]; exact f2,by simp only [l2]; exact t1,by simp only [x2]; exact t2,(ctx_ok p hp).2,(ctx_ok n hn).2,(names_ok a ha).2,(names_ok r hr).2⟩
 simp only [entryErr,w1,w2,hco,(ctx_ok p hp).1,(ctx_ok n hn).1,(names_ok a ha).1,(names_ok r hr).1,ne_eq,not_true,if_false,Bool.and_self,Bool.true_eq_false]
 rw [if_neg (by omega)]
theorem GenEn.small {e : En} (h : GenEn e) : e.small := by
 have := asked_source h.ok
 have h1 := h.srcLen
 have h2 := h.srcText
 have h3 := h.tgtLen
 have h4 := h.tgtText
 have h5 := h.prev
 have h6 := h.next
 refine ⟨by omega,by omega,by omega,by omega,by omega,by omega,fun x hx => ?_⟩
 rcases List.mem_append.1 hx with hx | hx
 ·have := valid_ids this.1 x hx; omega
 ·have := valid_ids this.2 x hx; omega
structure GenOp (o : Opr) : Prop where
 ok : opErr o = 0
 src : itemsErr [] o.entry.source = 0
 srcLen : o.entry.source.length ≤ 40
 srcText : textLen o.entry.source ≤ 400
 small : o.small
def bareOf (e : En) : En := ⟨e.source,[],e.previous,e.next,[],[],0,0⟩
theorem GenEn.items {e : En} (h : GenEn e) : itemsErr [] e.source = 0 := by
 have h1 := (asked_source h.ok).1
 simp only [validItems] at h1
 split at h1
 ·simp at h1
 ·exact h1
theorem seen_ok : ∀ (i j k : Fin 3) (f : Fin 3),let v : List Int := [((i.val : Nat) : Int),((j.val : Nat) : Int),((k.val : Nat) : Int)]
  vTrim (vTrim v) = vTrim v ∧ (vTrim v).any (fun n => decide (128 < n)) = false ∧ vAt (vTrim v) f.val = v.getD f.val 0 ∧ (vTrim v).length ≤ 3 := by decide +kernel
theorem seen_ok' {v : List Int} (hv : ∃ x y z : Int,v = [x,y,z] ∧ (0 ≤ x ∧ x < 3) ∧ (0 ≤ y ∧ y < 3) ∧ (0 ≤ z ∧ z < 3)) {f : Int} (hf : 0 ≤ f ∧ f < 3) :
  vTrim (vTrim v) = vTrim v ∧ (vTrim v).any (fun n => decide (128 < n)) = false ∧ vAt (vTrim v) f = v.getD f.toNat 0 ∧ (vTrim v).length ≤ 3 := by
 obtain ⟨x,y,z,rfl,hx,hy,hz⟩ := hv
 have := seen_ok ⟨x.toNat,by omega⟩ ⟨y.toNat,by omega⟩ ⟨z.toNat,by omega⟩ ⟨f.toNat,by omega⟩
 simp only at this
 rw [show ((x.toNat : Nat) : Int) = x by omega,show ((y.toNat : Nat) : Int) = y by omega,show ((z.toNat : Nat) : Int) = z by omega,show ((f.toNat : Nat) : Int) = f by omega] at this
 exact this
theorem gen_op {e : En} (h : GenEn e) {t f n k : Int} {v : List Int} (ht : 1 ≤ t ∧ t ≤ 1000) (hf : 0 ≤ f ∧ f < 3) (hn : 1 ≤ n ∧ n ≤ 3) (hv : ∃ x y z : Int,v = [x,y,z] ∧ (0 ≤ x ∧ x < 3) ∧ (0 ≤ y ∧ y < 3) ∧ (0 ≤ z ∧ z < 3)) (hvn : v.getD f.toNat 0 = n - 1) :
  GenOp ⟨⟨t,f,n⟩,1,e,vTrim v⟩ ∧ GenOp ⟨⟨t,f,n⟩,2,bareOf e,vTrim v⟩ := by
 obtain ⟨s1,s2,s3,s4⟩ := seen_ok' hv hf
 have hst : stampOk ⟨t,f,n⟩ = true := by simp only [stampOk,decide_eq_true_eq]; omega
 have hsm := h.small
 have h7 := h.author
 have h8 := h.project
 constructor
 ·refine ⟨?_,h.items,h.srcLen,h.srcText,⟨hsm,by simp only; omega,by simp only; omega,by simp only; omega⟩⟩
  simp only [opErr,hst,s1,s2,s3,hvn,looked,Bool.true_eq_false,Bool.false_eq_true,if_false,ne_eq,not_true,or_false,false_and]
  simp [h.ok]
 ·have hb : bareEn (bareOf e) = true := by simp [bareEn,bareOf]
  have ha : entryErr (asked (bareOf e)) = 0 := by rw [show asked (bareOf e) = asked e from rfl]; exact asked_ok h.ok
  refine ⟨?_,h.items,h.srcLen,h.srcText,⟨⟨hsm.source,hsm.sourceT,by simp [bareOf],by simp [bareOf,textLen],hsm.previous,hsm.next,fun x hx => hsm.ids x ?_⟩,by simp [bareOf],by simp [bareOf],by simp only; omega⟩⟩
  ·simp only [opErr,hst,s1,s2,s3,hvn,looked,hb,ha,Bool.true_eq_false,Bool.false_eq_true,if_false,ne_eq,not_true,or_false,and_false]
  ·simp only [bareOf,List.append_nil] at hx
   exact List.mem_append_left _ hx
theorem err_ids {f : List It} (h : itemsErr [] f = 0) : ∀ x ∈ f,0 ≤ x.id ∧ x.id ≤ 999 := fun x hx => fine_id (itemsErr_fine f [] h x hx)
structure IsOrd {α : Type} (c : α → α → Int) : Prop where
 anti : ∀ a b,c b a = - c a b
 trans : ∀ a b d,0 ≤ c a b → 0 ≤ c b d → 0 ≤ c a d
theorem IsOrd.on {α β : Type} {c : β → β → Int} (h : IsOrd c) (f : α → β) : IsOrd fun a b => c (f a) (f b) :=
 ⟨fun _ _ => h.anti _ _,fun _ _ _ => h.trans _ _ _⟩
def stEq (a b : Stamp) : Bool := a.time == b.time && (a.office == b.office && (a.number == b.number && true))
theorem stEq_iff {a b : Stamp} : stEq a b = true ↔ a = b := by
 obtain ⟨a1,a2,a3⟩ := a
 obtain ⟨b1,b2,b3⟩ := b
 simp [stEq]
def opEq (a b : Opr) : Bool := stEq a.stamp b.stamp && a.kind == b.kind && enEq a.entry b.entry && a.seen == b.seen
theorem opEq_iff {a b : Opr} : opEq a b = true ↔ a = b := by
 obtain ⟨a1,a2,a3,a4⟩ := a
 obtain ⟨b1,b2,b3,b4⟩ := b
 simp only [opEq,Bool.and_eq_true,stEq_iff,enEq_iff,beq_iff_eq,Opr.mk.injEq,and_assoc]
theorem parse_small (s : List UInt8) : (parse s).1.length < 2 ^ 30 ∧ textLen (parse s).1 < 2 ^ 30 ∧ ∀ x ∈ (parse s).1,-9223372036854775808 ≤ x.id ∧ x.id ≤ 9223372036854775807 := by
 by_cases h : (parse s).2.2 = 0
 ·obtain ⟨h1,_,h3,h4⟩ := format_parse h
  have h5 : itemsErr [] (parse s).1 = 0 := by
   simp only [validItems] at h1
   split at h1
   ·simp at h1
   ·exact h1
  have h6 := textLen_fine (parse s).1 (itemsErr_fine (parse s).1 [] h5)
  exact ⟨by omega,by omega,fun x hx => by have := err_ids h5 x hx; omega⟩
 ·have e : (parse s).1 = [] := by
   rw [← rparse_parse] at h ⊢
   exact rparseN_bad _ _ _ _ _ h
  rw [e]
  exact ⟨by decide,by decide,fun x hx => by simp at hx⟩
theorem beNat_lt : ∀ (l : List UInt8),∃ m : Nat,beNat l = m ∧ m < 256 ^ l.length := by
 have gen : ∀ (l : List UInt8) (n : Nat),∃ m : Nat,l.foldl (fun a x => a * 256 + (x.toNat : Int)) (n : Int) = m ∧ m < (n + 1) * 256 ^ l.length := by
  intro l
  induction l with
  | nil => intro n; exact ⟨n,rfl,by simp⟩
  | cons c l ih =>
   intro n
   obtain ⟨m,h1,h2⟩ := ih (n * 256 + c.toNat)
   refine ⟨m,?_,?_⟩
   ·rw [← h1]; simp
   ·have hc : c.toNat < 256 := c.toNat_lt
    have : (n * 256 + c.toNat + 1) * 256 ^ l.length ≤ ((n + 1) * 256) * 256 ^ l.length := Nat.mul_le_mul_right _ (by omega)
    simp only [List.length_cons,Nat.pow_succ]
    have e : (n + 1) * (256 ^ l.length * 256) = (n + 1) * 256 * 256 ^ l.length := by rw [Nat.mul_comm (256 ^ l.length),Nat.mul_assoc]
    omega
 intro l
 obtain ⟨m,h1,h2⟩ := gen l 0
 exact ⟨m,h1,by simpa using h2⟩
theorem number_bound (r : Rb) (n : Nat) (hn : n ≤ 4) : 0 ≤ (r.number n).1 ∧ (r.number n).1 < 2 ^ (8 * n) := by
 have hl : (r.take n).1.length ≤ n := by simp only [Rb.take]; split <;> simp <;> omega
 obtain ⟨m,h1,h2⟩ := beNat_lt (r.take n).1
 have h3 : 256 ^ (r.take n).1.length ≤ 256 ^ n := Nat.pow_le_pow_right (by decide) hl
 have e : (r.number n).1 = m := h1
 have e2 : (256 : Nat) ^ n = 2 ^ (8 * n) := by rw [Nat.pow_mul]
 rw [e]
 constructor
 ·omega
 ·have : m < 2 ^ (8 * n) := by omega
  exact_mod_cast this
theorem rb_drop (r : Rb) (n : Nat) : (r.number n).2.b.length ≤ r.b.length := by
 simp only [Rb.number,Rb.take]; split <;> simp
theorem rbText_drop (r : Rb) : r.text.2.b.length ≤ r.b.length ∧ r.text.1.length ≤ r.b.length := by
 have hd := rb_drop r 4
 have e : r.text = if ((r.number 4).2.b.length : Int) < (r.number 4).1 then ([],⟨(r.number 4).2.b,true⟩) else (r.number 4).2.take (r.number 4).1.toNat := rfl
 rw [e]
 split
 ·exact ⟨hd,by simp⟩
 ·rename_i h
  have h2 : ¬ (r.number 4).2.b.length < (r.number 4).1.toNat := by omega
  simp only [Rb.take,if_neg h2,List.length_take,List.length_drop]
  omega
theorem rbFragment_drop (r : Rb) : r.fragment.2.b.length ≤ r.b.length := (rbText_drop r).1
theorem rbNumbers_drop : ∀ (n : Nat) (r : Rb),(Rb.numbers n r).2.b.length ≤ r.b.length ∧ (Rb.numbers n r).1.length = n
 | 0,r => ⟨Nat.le_refl _,rfl⟩
 | n + 1,r => by
  have h1 := rb_drop r 2
  have h2 := rbNumbers_drop n (r.number 2).2
  simp only [Rb.numbers,List.length_cons,h2.2]
  exact ⟨by omega,trivial⟩
theorem fmt_bound {f : List It} (h1 : f.length < 2 ^ 30) (h2 : textLen f < 2 ^ 30) (h : validItems f = 0) : (format f).1.length ≤ 200000 := by
 have hv := (validItems_iff (small_total h1 h2)).1 h
 have hk := itemsErr_fine f [] hv.2.2
 have hb := textLen_fine f hk
 have key : ∀ f : List It,(∀ x ∈ f,itemFine none x = true) → (f.flatMap itemText).length ≤ 4 * textLen f + 30 * f.length := by
  intro f
  induction f with
  | nil => intro _; simp
  | cons x f ih =>
   intro h
   have h1 := ih fun y hy => h y (by simp [hy])
   have h3 := fine_id (h x (by simp))
   have h2 := itemText_len x (by omega)
   simp only [List.flatMap_cons,List.length_append,textLen,List.length_cons]
   omega
 have := key f hk
 simp only [format]
 split
 ·simp
 ·simp only
  have := hv.1
  have := hv.2.1
  omega
theorem parse_len {s : List UInt8} (h : (parse s).2.2 = 0) : s.length ≤ 200000 := by
 obtain ⟨v,e,_,_⟩ := format_parse h
 have := fmt_bound (parse_small s).1 (parse_small s).2.1 v
 rwa [e] at this
theorem en_ctx {e : En} (h : entryErr e = 0) : (parse e.previous).2.2 = 0 ∧ (parse e.next).2.2 = 0 := by
 by_cases h1 : (parse e.previous).2.2 = 0
 ·by_cases h2 : (parse e.next).2.2 = 0
  ·exact ⟨h1,h2⟩
  ·exfalso
   simp only [entryErr] at h
   (repeat' split at h) <;> simp_all
 ·exfalso
  simp only [entryErr] at h
  (repeat' split at h) <;> simp_all
theorem enc_len {o : Opr} (hs : o.small) (h : opErr o = 0) : (encBody o).length < 2 ^ 22 := by
 have F := op_facts h
 have hc := en_ctx F.looked
 have e1 : (looked o).previous = o.entry.previous := by simp only [looked]; split <;> rfl
 have e2 : (looked o).next = o.entry.next := by simp only [looked]; split <;> rfl
 have e3 : (looked o).source = o.entry.source := by simp only [looked]; split <;> rfl
 rw [e1,e2] at hc
 have hp := parse_len hc.1
 have hn := parse_len hc.2
 have hv := (en_facts F.looked).source
 rw [e3] at hv
 have hsl := fmt_bound hs.entry.source hs.entry.sourceT hv
 have hsn := F.seenLen
 have hfl : ∀ l : List Int,(l.flatMap be2).length = 2 * l.length := by
  intro l
  induction l with
  | nil => rfl
  | cons x l ih => simp only [List.flatMap_cons,List.length_append,List.length_cons,be2_length,ih]; omega
 have hel : ∀ s : List UInt8,(encText s).length = s.length + 4 := by intro s; simp [encText,be4_length]; omega
 simp only [encBody]
 by_cases hk : o.kind = 1
 ·have hl : entryErr o.entry = 0 := by
   have := F.looked
   simpa [looked,hk] using this
  have E := en_facts hl
  have htl := fmt_bound hs.entry.target hs.entry.targetT E.target
  have hal := isName_len E.author
  have hpr := isName_len E.project
  simp only [if_pos hk,List.length_append,List.length_cons,List.length_nil,be4_length,be2_length,hfl,hel]
  omega
 ·simp only [if_neg hk,List.length_append,List.length_cons,List.length_nil,be4_length,be2_length,hfl,hel]
  omega
theorem encode_len {o : Opr} (hs : o.small) : (encode o).1.length < 2 ^ 22 := by
 by_cases h : opErr o = 0
 ·simp only [encode,h,ne_eq,not_true,if_false]
  exact enc_len hs h
 ·simp only [encode,h,ne_eq,not_false_eq_true,if_true,List.length_nil]
  decide
def Rb.rnumber (r : Rb) (n : Nat) : Int × Rb := if r.b.length < n then (0,⟨r.b,true⟩) else (beNat (r.b.take n),⟨r.b.drop n,r.bad⟩)
def Rb.rtext (r : Rb) : List UInt8 × Rb :=
 let p := r.rnumber 4
 if p.2.bad = true ∨ (p.2.b.length : Int) < p.1 then ([],⟨p.2.b,true⟩) else (p.2.b.take p.1.toNat,⟨p.2.b.drop p.1.toNat,p.2.bad⟩)
def Rb.rfragment (r : Rb) : List It × Rb :=
 let p := r.rtext
 let q := parse p.1
 (q.1,⟨p.2.b,p.2.bad || q.2.2 != 0⟩)
def Rb.rnumbers : Nat → Rb → List Int × Rb
 | 0,r => ([],r)
 | n + 1,r => if r.bad = true then ([],r) else let p := r.rnumber 2; let q := Rb.rnumbers n p.2; (p.1 :: q.1,q.2)
def rreadOp (b : List UInt8) : Opr × Rb :=
 let v := (Rb.mk b false).rnumber 1
 let k := (Rb.mk v.2.b (v.1 != 1)).rnumber 1
 let t := k.2.rnumber 4
 let f := t.2.rnumber 1
 let m := f.2.rnumber 2
 let c := m.2.rnumber 1
 let s := Rb.rnumbers c.1.toNat c.2
 let src := s.2.rfragment
 let pv := src.2.rtext
 let nx := pv.2.rtext
 if k.1 = 1 then
  let tg := nx.2.rfragment
  let au := tg.2.rtext
  let pr := au.2.rtext
  let cr := pr.2.rnumber 4
  let og := cr.2.rnumber 1
  (⟨⟨t.1,f.1,m.1⟩,k.1,⟨src.1,tg.1,pv.1,nx.1,au.1,pr.1,cr.1,og.1⟩,s.1⟩,og.2)
 else (⟨⟨t.1,f.1,m.1⟩,k.1,⟨src.1,[],pv.1,nx.1,[],[],0,0⟩,s.1⟩,nx.2)
def rdecode (b : List UInt8) : Opr × Int :=
 let p := rreadOp b
 if p.2.bad = true ∨ 0 < p.2.b.length ∨ opErr p.1 ≠ 0 then (noOp,12) else (p.1,0)
theorem number_good {r : Rb} {n : Nat} (h : (r.number n).2.bad = false) : r.bad = false ∧ r.rnumber n = r.number n ∧ n ≤ r.b.length := by
 simp only [Rb.number,Rb.take] at h ⊢
 by_cases h1 : r.b.length < n
 ·rw [if_pos h1] at h; simp at h
 ·rw [if_neg h1] at h ⊢
  exact ⟨h,by simp only [Rb.rnumber,if_neg h1],by omega⟩
theorem rnumber_good {r : Rb} {n : Nat} (h : (r.rnumber n).2.bad = false) : r.bad = false ∧ r.rnumber n = r.number n ∧ n ≤ r.b.length := by
 simp only [Rb.rnumber] at h
 by_cases h1 : r.b.length < n
 ·rw [if_pos h1] at h; simp at h
 ·rw [if_neg h1] at h
  exact ⟨h,by simp only [Rb.rnumber,Rb.number,Rb.take,if_neg h1],by omega⟩
theorem number_bytes {r : Rb} {n : Nat} (h : (r.number n).2.bad = false) : ∃ w,w.length = n ∧ (r.number n).1 = beNat w ∧ r.b = w ++ (r.number n).2.b := by
 have := (number_good h).2.2
 simp only [Rb.number,Rb.take]
 rw [if_neg (by omega)]
 exact ⟨r.b.take n,by simp; omega,rfl,by simp⟩
theorem take_bad {r : Rb} {n : Nat} (h : r.bad = true) : (r.take n).2.bad = true := by
 simp only [Rb.take]
 split <;> simp [h]
theorem text_good {r : Rb} (h : r.text.2.bad = false) : r.bad = false ∧ r.rtext = r.text := by
 simp only [Rb.text] at h ⊢
 by_cases h1 : ((r.number 4).2.b.length : Int) < (r.number 4).1
 ·rw [if_pos h1] at h; simp at h
 ·rw [if_neg h1] at h ⊢
  have hb : (r.number 4).2.bad = false := by
   cases hb : (r.number 4).2.bad with
   | false => rfl
   | true => rw [take_bad hb] at h; simp at h
  obtain ⟨g1,g2,g3⟩ := number_good hb
  refine ⟨g1,?_⟩
  simp only [Rb.rtext,g2,hb,Bool.false_eq_true,false_or]
  rw [if_neg h1]
  simp only [Rb.take]
  rw [if_neg (by omega)]
  simp [hb]
theorem rtext_good {r : Rb} (h : r.rtext.2.bad = false) : r.bad = false ∧ r.rtext = r.text := by
 have h0 := h
 simp only [Rb.rtext] at h
 by_cases h1 : (r.rnumber 4).2.bad = true ∨ ((r.rnumber 4).2.b.length : Int) < (r.rnumber 4).1
 ·rw [if_pos h1] at h; simp at h
 ·rw [if_neg h1] at h
  obtain ⟨g1,g2,g3⟩ := rnumber_good h
  refine ⟨g1,?_⟩
  simp only [not_or] at h1
  simp only [Rb.rtext]
  rw [if_neg (by simp only [not_or]; exact h1)]
  simp only [Rb.text]
  rw [g2] at h1 ⊢
  rw [if_neg h1.2]
  simp only [Rb.take]
  rw [if_neg (by omega)]
theorem text_bytes {r : Rb} (h : r.text.2.bad = false) : r.b = encText r.text.1 ++ r.text.2.b := by
 simp only [Rb.text] at h ⊢
 by_cases h1 : ((r.number 4).2.b.length : Int) < (r.number 4).1
 ·rw [if_pos h1] at h; simp at h
 ·rw [if_neg h1] at h ⊢
  have hb : (r.number 4).2.bad = false := by
   cases hb : (r.number 4).2.bad with
   | false => rfl
   | true => rw [take_bad hb] at h; simp at h
  obtain ⟨w,w1,w2,w3⟩ := number_bytes hb
  match w,w1 with
  | [a,b,c,d],_ =>
   have hn : 0 ≤ (r.number 4).1 := by
    rw [w2]; simp only [beNat,List.foldl_cons,List.foldl_nil]
    have := a.toNat_lt; omega
   have hl : (r.number 4).1.toNat ≤ (r.number 4).2.b.length := by omega
   simp only [Rb.take]
   rw [if_neg (by omega)]
   simp only [encText]
   have e : ((((r.number 4).2.b.take (r.number 4).1.toNat).length : Nat) : Int) = (r.number 4).1 := by
    rw [List.length_take]; omega
   rw [e]
   conv => rhs; rw [w2,be4_of]
   conv => lhs; rw [w3]
   rw [← w2]
   simp
theorem fragment_good {r : Rb} (h : r.fragment.2.bad = false) : r.bad = false ∧ r.rfragment = r.fragment := by
 simp only [Rb.fragment,Bool.or_eq_false_iff] at h ⊢
 obtain ⟨g1,g2⟩ := text_good h.1
 exact ⟨g1,by simp only [Rb.rfragment,g2]⟩
theorem rfragment_good {r : Rb} (h : r.rfragment.2.bad = false) : r.bad = false ∧ r.rfragment = r.fragment := by
 simp only [Rb.rfragment,Bool.or_eq_false_iff] at h
 obtain ⟨g1,g2⟩ := rtext_good h.1
 exact ⟨g1,by simp only [Rb.rfragment,Rb.fragment,g2]⟩
theorem fragment_bytes {r : Rb} (h : r.fragment.2.bad = false) : r.b = encText (format r.fragment.1).1 ++ r.fragment.2.b := by
 simp only [Rb.fragment,Bool.or_eq_false_iff,bne_eq_false_iff_eq] at h ⊢
 rw [(format_parse h.2).2.1]
 exact text_bytes h.1
theorem numbers_bad : ∀ (n : Nat) (r : Rb),(Rb.numbers n r).2.bad = false → r.bad = false := by
 intro n
 induction n with
 | zero => intro r h; exact h
 | succ n ih => intro r h; exact (number_good (ih _ h)).1
theorem numbers_good : ∀ (n : Nat) (r : Rb),(Rb.numbers n r).2.bad = false → Rb.rnumbers n r = Rb.numbers n r := by
 intro n
 induction n with
 | zero => intro r h; rfl
 | succ n ih =>
  intro r h
  have hb := numbers_bad _ _ h
  simp only [Rb.numbers] at h
  have g := number_good (numbers_bad _ _ h)
  simp only [Rb.rnumbers,Rb.numbers,hb,Bool.false_eq_true,if_false,g.2.1,ih _ h]
theorem rnumbers_bad : ∀ (n : Nat) (r : Rb),(Rb.rnumbers n r).2.bad = false → r.bad = false := by
 intro n
 induction n with
 | zero => intro r h; exact h
 | succ n ih =>
  intro r h
  cases hb : r.bad with
  | false => rfl
  | true => simp only [Rb.rnumbers,hb,if_true] at h; simp at h
theorem rnumbers_good : ∀ (n : Nat) (r : Rb),(Rb.rnumbers n r).2.bad = false → Rb.rnumbers n r = Rb.numbers n r := by
 intro n
 induction n with
 | zero => intro r h; rfl
 | succ n ih =>
  intro r h
  have hb := rnumbers_bad _ _ h
  simp only [Rb.rnumbers,hb,Bool.false_eq_true,if_false] at h
  have g := rnumber_good (rnumbers_bad _ _ h)
  have e := ih _ h
  simp only [Rb.rnumbers,Rb.numbers,hb,Bool.false_eq_true,if_false]
  rw [e,g.2.1]
theorem numbers_bytes : ∀ (n : Nat) (r : Rb),(Rb.numbers n r).2.bad = false → (Rb.numbers n r).1.length = n ∧ r.b = (Rb.numbers n r).1.flatMap be2 ++ (Rb.numbers n r).2.b := by
 intro n
 induction n with
 | zero => intro r h; exact ⟨rfl,rfl⟩
 | succ n ih =>
  intro r h
  simp only [Rb.numbers] at h ⊢
  obtain ⟨h1,h2⟩ := ih _ h
  obtain ⟨w,w1,w2,w3⟩ := number_bytes (numbers_bad _ _ h)
  match w,w1 with
  | [a,b],_ =>
   refine ⟨by simp [h1],?_⟩
   simp only [List.flatMap_cons]
   conv => rhs; rw [w2,be2_of]
   conv => lhs; rw [w3,h2]
   simp
set_option maxHeartbeats 1000000 in
theorem readers {b : List UInt8} (h : (rreadOp b).2.bad = false ∨ ((readOp b).2.2.bad = false ∧ (readOp b).2.1 = 1)) : rreadOp b = ((readOp b).1,(readOp b).2.2) ∧ (readOp b).2.1 = 1 ∧ (readOp b).2.2.bad = false := by
 rcases h with h | ⟨h,hv⟩
 ·simp only [rreadOp] at h
  have step : ∀ (v k t f m c : Int × Rb) (s : List Int × Rb) (src : List It × Rb) (pv nx : List UInt8 × Rb),
    v = (Rb.mk b false).rnumber 1 → k = (Rb.mk v.2.b (v.1 != 1)).rnumber 1 → t = k.2.rnumber 4 → f = t.2.rnumber 1 → m = f.2.rnumber 2 → c = m.2.rnumber 1 → s = Rb.rnumbers c.1.toNat c.2 → src = s.2.rfragment → pv = src.2.rtext → nx = pv.2.rtext → nx.2.bad = false →
    v = (Rb.mk b false).number 1 ∧ v.1 = 1 ∧ k = v.2.number 1 ∧ t = k.2.number 4 ∧ f = t.2.number 1 ∧ m = f.2.number 2 ∧ c = m.2.number 1 ∧ s = Rb.numbers c.1.toNat c.2 ∧ src = s.2.fragment ∧ pv = src.2.text ∧ nx = pv.2.text := by
   intro v k t f m c s src pv nx ev ek et ef em ec es esrc epv enx hb
   obtain ⟨b10,g10⟩ := rtext_good (enx ▸ hb)
   obtain ⟨b9,g9⟩ := rtext_good (epv ▸ b10)
   obtain ⟨b8,g8⟩ := rfragment_good (esrc ▸ b9)
   have b7 := rnumbers_bad _ _ (es ▸ b8)
   have g7 := rnumbers_good _ _ (es ▸ b8)
   obtain ⟨b6,g6,_⟩ := rnumber_good (ec ▸ b7)
   obtain ⟨b5,g5,_⟩ := rnumber_good (em ▸ b6)
   obtain ⟨b4,g4,_⟩ := rnumber_good (ef ▸ b5)
   obtain ⟨b3,g3,_⟩ := rnumber_good (et ▸ b4)
   obtain ⟨b2,g2,_⟩ := rnumber_good (ek ▸ b3)
   simp only [bne_eq_false_iff_eq] at b2
   have b1 : v.2.bad = false := by
    rw [ev] at b2 ⊢
    simp only [Rb.rnumber] at b2 ⊢
    split
    ·rename_i h; rw [if_pos h] at b2; simp at b2
    ·rfl
   have e0 : (Rb.mk v.2.b (v.1 != 1)) = v.2 := by
    have : (v.1 != 1) = false := by simpa using b2
    rw [this,← b1]
   have g1 := (rnumber_good (ev ▸ b1)).2.1
   rw [e0] at ek g2
   exact ⟨ev.trans g1,b2,ek.trans g2,et.trans g3,ef.trans g4,em.trans g5,ec.trans g6,es.trans g7,esrc.trans g8,epv.trans g9,enx.trans g10⟩
  simp only [rreadOp,readOp]
  generalize ev : (Rb.mk b false).rnumber 1 = v at h ⊢
  generalize ek : (Rb.mk v.2.b (v.1 != 1)).rnumber 1 = k at h ⊢
  generalize et : k.2.rnumber 4 = t at h ⊢
  generalize ef : t.2.rnumber 1 = f at h ⊢
  generalize em : f.2.rnumber 2 = m at h ⊢
  generalize ec : m.2.rnumber 1 = c at h ⊢
  generalize es : Rb.rnumbers c.1.toNat c.2 = s at h ⊢
  generalize esrc : s.2.rfragment = src at h ⊢
  generalize epv : src.2.rtext = pv at h ⊢
  generalize enx : pv.2.rtext = nx at h ⊢
  by_cases hk : k.1 = 1
  ·rw [if_pos hk] at h
   simp only at h
   obtain ⟨b15,g15,_⟩ := rnumber_good h
   obtain ⟨b14,g14,_⟩ := rnumber_good b15
   obtain ⟨b13,g13⟩ := rtext_good b14
   obtain ⟨b12,g12⟩ := rtext_good b13
   obtain ⟨b11,g11⟩ := rfragment_good b12
   obtain ⟨e1,e0,e2,e3,e4,e5,e6,e7,e8,e9,e10⟩ := step v k t f m c s src pv nx ev.symm ek.symm et.symm ef.symm em.symm ec.symm es.symm esrc.symm epv.symm enx.symm b11
   rw [← e1,← e2,← e3,← e4,← e5,← e6,← e7,← e8,← e9,← e10,if_pos hk,if_pos hk]
   rw [g11] at h g12 g13 g14 g15 ⊢
   rw [g12] at h g13 g14 g15 ⊢
   rw [g13] at h g14 g15 ⊢
   rw [g14] at h g15 ⊢
   rw [g15] at h ⊢
   exact ⟨by dsimp only,e0,by dsimp only; exact h⟩
  ·rw [if_neg hk] at h
   simp only at h
   obtain ⟨e1,e0,e2,e3,e4,e5,e6,e7,e8,e9,e10⟩ := step v k t f m c s src pv nx ev.symm ek.symm et.symm ef.symm em.symm ec.symm es.symm esrc.symm epv.symm enx.symm h
   rw [← e1,← e2,← e3,← e4,← e5,← e6,← e7,← e8,← e9,← e10,if_neg hk,if_neg hk]
   exact ⟨by dsimp only,e0,by dsimp only; exact h⟩
 ·simp only [readOp] at h hv
  simp only [rreadOp,readOp]
  have step : ∀ (v k t f m c : Int × Rb) (s : List Int × Rb) (src : List It × Rb) (pv nx : List UInt8 × Rb),
    v = (Rb.mk b false).number 1 → k = v.2.number 1 → t = k.2.number 4 → f = t.2.number 1 → m = f.2.number 2 → c = m.2.number 1 → s = Rb.numbers c.1.toNat c.2 → src = s.2.fragment → pv = src.2.text → nx = pv.2.text → nx.2.bad = false → v.1 = 1 →
    (Rb.mk b false).rnumber 1 = v ∧ (Rb.mk v.2.b (v.1 != 1)).rnumber 1 = k ∧ k.2.rnumber 4 = t ∧ t.2.rnumber 1 = f ∧ f.2.rnumber 2 = m ∧ m.2.rnumber 1 = c ∧ Rb.rnumbers c.1.toNat c.2 = s ∧ s.2.rfragment = src ∧ src.2.rtext = pv ∧ pv.2.rtext = nx := by
   intro v k t f m c s src pv nx ev ek et ef em ec es esrc epv enx hb hv
   obtain ⟨b10,g10⟩ := text_good (enx ▸ hb)
   obtain ⟨b9,g9⟩ := text_good (epv ▸ b10)
   obtain ⟨b8,g8⟩ := fragment_good (esrc ▸ b9)
   have b7 := numbers_bad _ _ (es ▸ b8)
   have g7 := numbers_good _ _ (es ▸ b8)
   obtain ⟨b6,g6,_⟩ := number_good (ec ▸ b7)
   obtain ⟨b5,g5,_⟩ := number_good (em ▸ b6)
   obtain ⟨b4,g4,_⟩ := number_good (ef ▸ b5)
   obtain ⟨b3,g3,_⟩ := number_good (et ▸ b4)
   obtain ⟨b2,g2,_⟩ := number_good (ek ▸ b3)
   have g1 := (number_good (ev ▸ b2)).2.1
   have e0 : (Rb.mk v.2.b (v.1 != 1)) = v.2 := by
    have : (v.1 != 1) = false := by rw [hv]; rfl
    rw [this,← b2]
   rw [e0]
   exact ⟨g1.trans ev.symm,g2.trans ek.symm,g3.trans et.symm,g4.trans ef.symm,g5.trans em.symm,g6.trans ec.symm,g7.trans es.symm,g8.trans esrc.symm,g9.trans epv.symm,g10.trans enx.symm⟩
  generalize ev : (Rb.mk b false).number 1 = v at h hv ⊢
  generalize ek : v.2.number 1 = k at h hv ⊢
  generalize et : k.2.number 4 = t at h hv ⊢
  generalize ef : t.2.number 1 = f at h hv ⊢
  generalize em : f.2.number 2 = m at h hv ⊢
  generalize ec : m.2.number 1 = c at h hv ⊢
  generalize es : Rb.numbers c.1.toNat c.2 = s at h hv ⊢
  generalize esrc : s.2.fragment = src at h hv ⊢
  generalize epv : src.2.text = pv at h hv ⊢
  generalize enx : pv.2.text = nx at h hv ⊢
  by_cases hk : k.1 = 1
  ·rw [if_pos hk] at h hv
   simp only at h hv
   obtain ⟨b15,g15,_⟩ := number_good h
   obtain ⟨b14,g14,_⟩ := number_good b15
   obtain ⟨b13,g13⟩ := text_good b14
   obtain ⟨b12,g12⟩ := text_good b13
   obtain ⟨b11,g11⟩ := fragment_good b12
   obtain ⟨e1,e2,e3,e4,e5,e6,e7,e8,e9,e10⟩ := step v k t f m c s src pv nx ev.symm ek.symm et.symm ef.symm em.symm ec.symm es.symm esrc.symm epv.symm enx.symm b11 hv
   rw [e1,e2,e3,e4,e5,e6,e7,e8,e9,e10,if_pos hk,if_pos hk]
   refine ⟨?_,by dsimp only; exact hv,by dsimp only; exact h⟩
   dsimp only
   rw [g11,g12,g13,g14,g15]
  ·rw [if_neg hk] at h hv
   simp only at h hv
   obtain ⟨e1,e2,e3,e4,e5,e6,e7,e8,e9,e10⟩ := step v k t f m c s src pv nx ev.symm ek.symm et.symm ef.symm em.symm ec.symm es.symm esrc.symm epv.symm enx.symm h hv
   rw [e1,e2,e3,e4,e5,e6,e7,e8,e9,e10,if_neg hk,if_neg hk]
   exact ⟨by dsimp only,by dsimp only; exact hv,by dsimp only; exact h⟩
theorem read_bytes {b : List UInt8} (h : (readOp b).2.2.bad = false) (hv : (readOp b).2.1 = 1) (hk : (readOp b).1.kind = 1 ∨ (readOp b).1.kind = 2) : b = encBody (readOp b).1 ++ (readOp b).2.2.b := by
 simp only [readOp] at h hv hk ⊢
 have step : ∀ (v k t f m c : Int × Rb) (s : List Int × Rb) (src : List It × Rb) (pv nx : List UInt8 × Rb),
   (Rb.mk b false).number 1 = v → v.2.number 1 = k → k.2.number 4 = t → t.2.number 1 = f → f.2.number 2 = m → m.2.number 1 = c → Rb.numbers c.1.toNat c.2 = s → s.2.fragment = src → src.2.text = pv → pv.2.text = nx → nx.2.bad = false → v.1 = 1 →
   b = [1,lowB k.1] ++ (be4 t.1 ++ ([lowB f.1] ++ (be2 m.1 ++ ([lowB s.1.length] ++ (s.1.flatMap be2 ++ (encText (format src.1).1 ++ (encText pv.1 ++ (encText nx.1 ++ nx.2.b)))))))) := by
  intro v k t f m c s src pv nx ev ek et ef em ec es esrc epv enx hb hv
  have b10 := text_good (enx ▸ hb)
  have b9 := text_good (epv ▸ b10.1)
  have b8 := fragment_good (esrc ▸ b9.1)
  have b7 := numbers_bad _ _ (es ▸ b8.1)
  have b6 := number_good (ec ▸ b7)
  have b5 := number_good (em ▸ b6.1)
  have b4 := number_good (ef ▸ b5.1)
  have b3 := number_good (et ▸ b4.1)
  have b2 := number_good (ek ▸ b3.1)
  have x10 := text_bytes (enx ▸ hb)
  have x9 := text_bytes (epv ▸ b10.1)
  have x8 := fragment_bytes (esrc ▸ b9.1)
  have x7 := numbers_bytes _ _ (es ▸ b8.1)
  obtain ⟨w6,l6,y6,x6⟩ := number_bytes (ec ▸ b7)
  obtain ⟨w5,l5,y5,x5⟩ := number_bytes (em ▸ b6.1)
  obtain ⟨w4,l4,y4,x4⟩ := number_bytes (ef ▸ b5.1)
  obtain ⟨w3,l3,y3,x3⟩ := number_bytes (et ▸ b4.1)
  obtain ⟨w2,l2,y2,x2⟩ := number_bytes (ek ▸ b3.1)
  obtain ⟨w1,l1,y1,x1⟩ := number_bytes (ev ▸ b2.1)
  rw [enx] at x10
  rw [epv] at x9
  rw [esrc] at x8
  rw [es] at x7
  rw [ec] at x6 y6
  rw [em] at x5 y5
  rw [ef] at x4 y4
  rw [et] at x3 y3
  rw [ek] at x2 y2
  rw [ev] at x1 y1
  have e1 : w1 = [1] := by
   match w1,l1 with
   | [a],_ =>
    rw [hv] at y1
    have : (a.toNat : Int) = 1 := by simpa [beNat] using y1.symm
    have : a = 1 := UInt8.toNat_inj.1 (by simp; omega)
    rw [this]
  have e2 : w2 = [lowB k.1] := by
   match w2,l2 with
   | [a],_ => rw [y2,be1_of]
  have e3 : w3 = be4 t.1 := by
   match w3,l3 with
   | [p,q,u,v],_ => rw [y3,be4_of]
  have e4 : w4 = [lowB f.1] := by
   match w4,l4 with
   | [a],_ => rw [y4,be1_of]
  have e5 : w5 = be2 m.1 := by
   match w5,l5 with
   | [p,q],_ => rw [y5,be2_of]
  have e6 : w6 = [lowB s.1.length] := by
   match w6,l6 with
   | [a],_ =>
    have h0 : 0 ≤ c.1 := by rw [y6]; simp [beNat]
    have : ((s.1.length : Nat) : Int) = c.1 := by rw [x7.1]; omega
    rw [this,y6,be1_of]
  simp only at x1
  conv => lhs; rw [x1,x2,x3,x4,x5,x6,x7.2,x8,x9,x10,e1,e2,e3,e4,e5,e6]
  simp
 generalize ev : (Rb.mk b false).number 1 = v at h hv hk ⊢
 generalize ek : v.2.number 1 = k at h hv hk ⊢
 generalize et : k.2.number 4 = t at h hv hk ⊢
 generalize ef : t.2.number 1 = f at h hv hk ⊢
 generalize em : f.2.number 2 = m at h hv hk ⊢
 generalize ec : m.2.number 1 = c at h hv hk ⊢
 generalize es : Rb.numbers c.1.toNat c.2 = s at h hv hk ⊢
 generalize esrc : s.2.fragment = src at h hv hk ⊢
 generalize epv : src.2.text = pv at h hv hk ⊢
 generalize enx : pv.2.text = nx at h hv hk ⊢
 by_cases hk1 : k.1 = 1
 ·rw [if_pos hk1] at h hv ⊢
  simp only at h hv ⊢
  have b15 := number_good h
  have b14 := number_good b15.1
  have b13 := text_good b14.1
  have b12 := text_good b13.1
  have b11 := fragment_good b12.1
  have hs := step v k t f m c s src pv nx ev ek et ef em ec es esrc epv enx b11.1 hv
  have x11 := fragment_bytes b12.1
  have x12 := text_bytes b13.1
  have x13 := text_bytes b14.1
  obtain ⟨w14,l14,y14,x14⟩ := number_bytes b15.1
  obtain ⟨w15,l15,y15,x15⟩ := number_bytes h
  have e14 : w14 = be4 (nx.2.fragment.2.text.2.text.2.number 4).1 := by
   match w14,l14 with
   | [p,q,u,v],_ => rw [y14,be4_of]
  have e15 : w15 = [lowB ((nx.2.fragment.2.text.2.text.2.number 4).2.number 1).1] := by
   match w15,l15 with
   | [a],_ => rw [y15,be1_of]
  simp only [encBody,if_pos hk1]
  conv => lhs; rw [hs,x11,x12,x13,x14,x15,e14,e15]
  simp only [List.append_assoc]
 ·rw [if_neg hk1] at h hv hk ⊢
  simp only at h hv hk ⊢
  have hs := step v k t f m c s src pv nx ev ek et ef em ec es esrc epv enx h hv
  simp only [encBody,if_neg hk1]
  conv => lhs; rw [hs]
  simp only [List.append_assoc,List.nil_append,List.append_nil]
theorem rdecode_eq (b : List UInt8) : rdecode b = decode b := by
 simp only [rdecode,decode]
 by_cases hr : (rreadOp b).2.bad = true
 ·rw [if_pos (.inl hr)]
  by_cases h : (readOp b).2.2.bad = true ∨ 0 < (readOp b).2.2.b.length ∨ (readOp b).2.1 ≠ 1
  ·rw [if_pos h]
  ·simp only [not_or] at h
   have := readers (b := b) (.inr ⟨by simpa using h.1,by simpa using h.2.2⟩)
   rw [this.1] at hr
   exact absurd hr h.1
 ·have hr : (rreadOp b).2.bad = false := by simpa using hr
  obtain ⟨e,e1,e2⟩ := readers (.inl hr)
  rw [e]
  simp only [e2,e1,Bool.false_eq_true,false_or,ne_eq,not_true,or_false]
  by_cases hl : 0 < (readOp b).2.2.b.length
  ·rw [if_pos (.inl hl),if_pos hl]
  ·rw [if_neg hl]
   by_cases ho : opErr (readOp b).1 = 0
   ·have hb := read_bytes e2 e1 (op_facts ho).kind
    have hn : (readOp b).2.2.b = [] := by simpa using hl
    rw [hn,List.append_nil] at hb
    have he : encode (readOp b).1 = (b,0) := by
     simp only [encode,ho,ne_eq,not_true,if_false]
     rw [← hb]
    rw [he]
    simp [ho,hl]
   ·have he : (encode (readOp b).1).2 ≠ 0 := by simp only [encode,ne_eq,ho,not_false_eq_true,if_true]
    rw [if_pos (.inr ho),if_pos (.inl he)]
end Go.Bt

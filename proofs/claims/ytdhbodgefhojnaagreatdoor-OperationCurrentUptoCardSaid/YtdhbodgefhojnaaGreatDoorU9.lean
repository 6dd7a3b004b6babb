/- A part of the proof that OperationCurrent returns true and leaves its arguments as they were, for every input of bounded size. -/
import Derived.Test.YtdhbodgefhojnaaGreatDoorU8
set_option linter.all false

namespace Go.Pm
open Go Go.RowKit
inductive PCode where
 | skip
 | reg (gs : List Nat) (is : List Pi)
 | dreg (ds : List (List Pi × Pi × List Pi)) (last : List Pi) (gs : List Nat) (tail : List Pi)
 | seq (a b : PCode)
 | ite (c : O) (a b : PCode)
 | block (id : Nat) (c : PCode)
 | loop (c : PCode)
 | exit (id : Nat)
 | ret
 | both (a b : PCode)
def gsOf (pis : List Pi) : List Nat := pis.filterMap fun p => if p.g.isEmpty then none else p.d
def cReg (P : Program) (ops : Array Oper) : Option PCode :=
 match cPis P ops ops.toList with
 | some pis => if okL [] pis (gsOf pis) then some (.reg (gsOf pis) pis) else none
 | none => none
def cDreg (P : Program) (ops : Array Oper) (bs : List Nat) : Option PCode :=
 if P.follows .mixedOrders then match cPis P ops ops.toList with
  | some pis =>
   let m := mX bs pis.length
   let ls := (List.range m).filter fun i => !(pin pis i).i.silent
   if okX ops pis bs m ls && okL (D0 pis m) (pis.drop m) (gsOf pis) then
    some (.dreg (stX pis bs m ls 0 ls) ((silX pis bs m ls ls.length).map (pin pis)) (gsOf pis) (pis.drop m)) else none
  | none => none
 else none
def isAlloc : Op → Bool
 | .alloc _ | .box _ _ => true
 | _ => false
def allocAt (ops : Array Oper) : List Nat := (List.range ops.size).filter fun i => match ops[i]? with
 | some o => isAlloc o.op
 | none => false
def cBoth (P : Program) (ops : Array Oper) : Option PCode :=
 match allocAt ops with
 | [i,j] => if i ≠ j ∧ i < ops.size ∧ j < ops.size ∧ P.follows .mixedOrders = true ∧ ((List.range ops.size).all fun x => x == i || (x == j || match ops[x]? with | some o => plainOp o.op | none => true)) = true then
   match cDreg P (waitsFor ops j i) (Region.before (waitsFor ops j i)).toList,cDreg P (swOps (waitsFor ops i j) i j) (Region.before (swOps (waitsFor ops i j) i j)).toList with
   | some a,some b => some (.both a b)
   | _,_ => none
  else none
 | _ => none
def cRegD (P : Program) (ops : Array Oper) : Option PCode :=
 match cDreg P ops (Region.before ops).toList with
 | some c => some c
 | none => cBoth P ops
def cCode (P : Program) : Code → Option PCode
 | .skip => some .skip
 | .region _ ops false => cReg P ops
 | .region _ ops true => cRegD P ops
 | .seq a b => match cCode P a,cCode P b with
  | some a,some b => some (.seq a b)
  | _,_ => none
 | .cond c a b => match cO c,cCode P a,cCode P b with
  | some c,some a,some b => some (.ite c a b)
  | _,_,_ => none
 | .block id c => (cCode P c).map (.block id)
 | .loop c => (cCode P c).map .loop
 | .exit id => some (.exit id)
 | .ret => some .ret
 | _ => none
theorem cReg_some {P : Program} {ops : Array Oper} {c : PCode} (h : cReg P ops = some c) : ∃ pis,cPis P ops ops.toList = some pis ∧ okL [] pis (gsOf pis) = true ∧ c = .reg (gsOf pis) pis := by
 unfold cReg at h
 split at h
 ·rename_i pis hp
  split at h <;> simp only [Option.some.injEq,reduceCtorEq] at h
  rename_i hok
  exact ⟨pis,hp,hok,h.symm⟩
 ·simp at h
theorem cDreg_some {P : Program} {ops : Array Oper} {bs : List Nat} {c : PCode} (h : cDreg P ops bs = some c) :
  P.follows .mixedOrders = true ∧ ∃ pis m ls,cPis P ops ops.toList = some pis ∧ okX ops pis bs m ls = true ∧ okL (D0 pis m) (pis.drop m) (gsOf pis) = true ∧
   c = .dreg (stX pis bs m ls 0 ls) ((silX pis bs m ls ls.length).map (pin pis)) (gsOf pis) (pis.drop m) := by
 unfold cDreg at h
 split at h
 ·rename_i hm
  split at h
  ·rename_i pis hp
   dsimp only at h
   split at h <;> simp only [Option.some.injEq,reduceCtorEq] at h
   rename_i hok
   rw [Bool.and_eq_true] at hok
   exact ⟨hm,pis,_,_,hp,hok.1,hok.2,h.symm⟩
  ·simp at h
 ·simp at h
theorem cBoth_some {P : Program} {ops : Array Oper} {c : PCode} (h : cBoth P ops = some c) : ∃ i j a b,i ≠ j ∧ i < ops.size ∧ j < ops.size ∧ P.follows .mixedOrders = true ∧
  (∀ x o,x ≠ i → x ≠ j → ops[x]? = some o → plainOp o.op = true) ∧ cDreg P (waitsFor ops j i) (Region.before (waitsFor ops j i)).toList = some a ∧
  cDreg P (swOps (waitsFor ops i j) i j) (Region.before (swOps (waitsFor ops i j) i j)).toList = some b ∧ c = .both a b := by
 unfold cBoth at h
 split at h
 ·rename_i i j hal
  split at h
  ·rename_i hc
   obtain ⟨h1,h2,h3,h4,h5⟩ := hc
   split at h <;> simp only [Option.some.injEq,reduceCtorEq] at h
   rename_i a b ha hb
   refine ⟨i,j,a,b,h1,h2,h3,h4,fun x o hx1 hx2 ho => ?_,ha,hb,h.symm⟩
   simp only [List.all_eq_true,List.mem_range,Bool.or_eq_true,beq_iff_eq] at h5
   have := h5 x (Array.getElem?_eq_some_iff.1 ho).1
   rw [ho] at this
   rcases this with h | h | h
   ·exact absurd h hx1
   ·exact absurd h hx2
   ·exact h
  ·simp at h
 ·simp at h
theorem cRegD_some {P : Program} {ops : Array Oper} {c : PCode} (h : cRegD P ops = some c) :
  (∃ ds last gs tail,c = .dreg ds last gs tail ∧ cDreg P ops (Region.before ops).toList = some c) ∨ (∃ a b,c = .both a b ∧ cBoth P ops = some c) := by
 unfold cRegD at h
 split at h
 ·rename_i c' hc
  simp only [Option.some.injEq] at h
  subst h
  obtain ⟨_,pis,m,ls,_,_,_,he⟩ := cDreg_some hc
  exact .inl ⟨_,_,_,_,he,hc⟩
 ·obtain ⟨i,j,a,b,_,_,_,_,_,_,_,he⟩ := cBoth_some h
  exact .inr ⟨a,b,he,h⟩
def PWc (n : Nat) (P : Program) (c : PCode) (K : Exit → St → Prop) (st : St) : Prop := ∀ code,cCode P code = some c → PW n P code K st
theorem PWc.mono {n : Nat} {P : Program} {c : PCode} {K K' : Exit → St → Prop} {st : St} (h : PWc n P c K st) (hk : ∀ e st',K e st' → K' e st') : PWc n P c K' st :=
 fun code hc => (h code hc).mono hk
section rules
variable {n : Nat} {P : Program} {K : Exit → St → Prop} {st : St}
theorem PWc.skip (h : K .normal st) : PWc n P .skip K st := by
 intro code hc
 cases code
 case skip => exact PW.skip h
 all_goals first | (exfalso; revert hc; simp only [cCode]; try ((repeat' split) <;> simp); done) | (rename_i _ ops draw; exfalso; cases draw <;> simp only [cCode] at hc <;> first | (obtain ⟨_,_,_,h⟩ := cReg_some hc; simp at h; done) | (rcases cRegD_some hc with ⟨_,_,_,_,h,_⟩ | ⟨_,_,h,_⟩ <;> simp at h; done))
theorem PWc.reg {gs : List Nat} {is : List Pi} (h : runC P gs is (K .normal) st) : PWc n P (.reg gs is) K st := by
 intro code hc
 cases code
 case region id ops draw =>
  cases draw
  ·simp only [cCode] at hc
   obtain ⟨ps,hps,hok,he⟩ := cReg_some hc
   simp only [PCode.reg.injEq] at he
   obtain ⟨rfl,rfl⟩ := he
   intro B w0 w μ a hS hF
   refine wp_region ?_
   have := runC_sound (P := P) (ops := ops) (n := n) (B := B) (gs := gsOf is) (w0 := w0) (ws := w) (σs := st.σ) (μs := μ) (K := K .normal) (Q := Post P n B w0 w st.σ μ K)
    (fun st' w' μ' a' h1 h2 h3 h4 => ⟨st',μ',h1,h2,h3,h4⟩) ops.toList 0 is [] st.fr st.σ w μ a (fun j => by simp) hps hok h hS hF.toI (KeepN.refl _ _ _ _)
   simp only [Nat.zero_add,List.map_id',Array.length_toList] at this
   exact this
  ·simp only [cCode] at hc
   rcases cRegD_some hc with ⟨_,_,_,_,h,_⟩ | ⟨_,_,h,_⟩ <;> simp at h
 all_goals first | (exfalso; revert hc; simp only [cCode]; try ((repeat' split) <;> simp); done)
theorem PWc.dreg {ds : List (List Pi × Pi × List Pi)} {last : List Pi} {gs : List Nat} {tail : List Pi} (h : runD P ds last (runC P gs tail (K .normal)) st) : PWc n P (.dreg ds last gs tail) K st := by
 intro code hc
 cases code
 case region id ops draw =>
  cases draw
  ·simp only [cCode] at hc
   obtain ⟨_,_,_,h⟩ := cReg_some hc
   simp at h
  ·simp only [cCode] at hc
   rcases cRegD_some hc with ⟨_,_,_,_,_,hc⟩ | ⟨_,_,h,_⟩
   rotate_left
   ·simp at h
   obtain ⟨hm,pis,m,ls,hps,hok,htl,he⟩ := cDreg_some hc
   simp only [PCode.dreg.injEq] at he
   obtain ⟨rfl,rfl,rfl,rfl⟩ := he
   intro B w0 w μ a hS hF
   exact region_draw (n := n) hm hps hok htl h hS hF fun st' w' μ' a' h1 h2 h3 h4 => ⟨st',μ',h1,h2,h3,h4⟩
 all_goals first | (exfalso; revert hc; simp only [cCode]; try ((repeat' split) <;> simp); done)
theorem cDreg_any {ops : Array Oper} {bs : List Nat} {c : PCode} (hc : cDreg P ops bs = some c) (h : ∃ ds last gs tail,c = .dreg ds last gs tail ∧ runD P ds last (runC P gs tail (K .normal)) st)
  {B : Nat} {w0 w : World} {μ : Mem} {a : Act} (hS : Sim P B w0 w st.σ μ) (hF : FR w st.σ μ st.fr a) :
  wpAny P .any ops (fun e a' w' => ∃ st' μ',K e st' ∧ Sim P B w0 w' st'.σ μ' ∧ FR w' st'.σ μ' st'.fr a' ∧ KeepN n w st.σ μ w' st'.σ μ') ops.size (Array.replicate ops.size false) a { w with drawn := w.drawn + 1 } := by
 obtain ⟨hm,pis,m,ls,hps,hok,htl,rfl⟩ := cDreg_some hc
 obtain ⟨ds,last,gs,tail,he,h⟩ := h
 simp only [PCode.dreg.injEq] at he
 obtain ⟨rfl,rfl,rfl,rfl⟩ := he
 exact region_drawA (n := n) hps hok htl h hS hF fun st' w' μ' a' h1 h2 h3 h4 => ⟨st',μ',h1,h2,h3,h4⟩
theorem PWc.both {x y : PCode} (h1 : ∃ ds last gs tail,x = .dreg ds last gs tail ∧ runD P ds last (runC P gs tail (K .normal)) st) (h2 : ∃ ds last gs tail,y = .dreg ds last gs tail ∧ runD P ds last (runC P gs tail (K .normal)) st) :
  PWc n P (.both x y) K st := by
 intro code hc
 cases code
 case region id ops draw =>
  cases draw
  ·simp only [cCode] at hc
   obtain ⟨_,_,_,h⟩ := cReg_some hc
   simp at h
  ·simp only [cCode] at hc
   rcases cRegD_some hc with ⟨_,_,_,_,h,_⟩ | ⟨a,b,h,hc⟩
   ·simp at h
   obtain ⟨i,j,a',b',hij,hi,hj,hm,hp,ha,hb,he⟩ := cBoth_some hc
   simp only [PCode.both.injEq] at he
   obtain ⟨rfl,rfl⟩ := he
   intro B w0 w μ a hS hF
   refine region_split hm hij hi hj hp ?_ ?_
   ·have := cDreg_any (n := n) ha h1 hS hF
    rwa [waitsFor_size] at this
   ·have := cDreg_any (n := n) hb h2 hS hF
    rwa [swOps_size,waitsFor_size] at this
 all_goals first | (exfalso; revert hc; simp only [cCode]; try ((repeat' split) <;> simp); done)
theorem PWc.ret (h : K .ret st) : PWc n P .ret K st := by
 intro code hc
 cases code
 case ret => exact PW.ret h
 all_goals first | (exfalso; revert hc; simp only [cCode]; try ((repeat' split) <;> simp); done) | (rename_i _ ops draw; exfalso; cases draw <;> simp only [cCode] at hc <;> first | (obtain ⟨_,_,_,h⟩ := cReg_some hc; simp at h; done) | (rcases cRegD_some hc with ⟨_,_,_,_,h,_⟩ | ⟨_,_,h,_⟩ <;> simp at h; done))
theorem PWc.exit {id : Nat} (h : K (.exit id) st) : PWc n P (.exit id) K st := by
 intro code hc
 cases code
 case exit id' => simp only [cCode,Option.some.injEq,PCode.exit.injEq] at hc; subst hc; exact PW.exit h
 all_goals first | (exfalso; revert hc; simp only [cCode]; try ((repeat' split) <;> simp); done) | (rename_i _ ops draw; exfalso; cases draw <;> simp only [cCode] at hc <;> first | (obtain ⟨_,_,_,h⟩ := cReg_some hc; simp at h; done) | (rcases cRegD_some hc with ⟨_,_,_,_,h,_⟩ | ⟨_,_,h,_⟩ <;> simp at h; done))
def thenC (n : Nat) (P : Program) (y : PCode) (K : Exit → St → Prop) : Exit → St → Prop
 | .normal,st => PWc n P y K st
 | e,st => K e st
theorem PWc.seq {x y : PCode} (h : PWc n P x (thenC n P y K) st) : PWc n P (.seq x y) K st := by
 intro code hc
 cases code
 case seq p q =>
  simp only [cCode] at hc
  split at hc <;> simp only [Option.some.injEq,reduceCtorEq,PCode.seq.injEq] at hc
  rename_i p' q' hp hq
  obtain ⟨rfl,rfl⟩ := hc
  refine PW.seq ((h p hp).mono ?_)
  intro e st' hK
  cases e <;> first | exact hK q hq | exact hK
 all_goals first | (exfalso; revert hc; simp only [cCode]; try ((repeat' split) <;> simp); done) | (rename_i _ ops draw; exfalso; cases draw <;> simp only [cCode] at hc <;> first | (obtain ⟨_,_,_,h⟩ := cReg_some hc; simp at h; done) | (rcases cRegD_some hc with ⟨_,_,_,_,h,_⟩ | ⟨_,_,h,_⟩ <;> simp at h; done))
theorem PWc.block {id : Nat} {c : PCode} (h : PWc n P c (blockK id K) st) : PWc n P (.block id c) K st := by
 intro code hc
 cases code
 case block id' c' =>
  simp only [cCode,Option.map_eq_some_iff,PCode.block.injEq] at hc
  obtain ⟨c2,hc2,rfl,rfl⟩ := hc
  exact PW.block (h c' hc2)
 all_goals first | (exfalso; revert hc; simp only [cCode]; try ((repeat' split) <;> simp); done) | (rename_i _ ops draw; exfalso; cases draw <;> simp only [cCode] at hc <;> first | (obtain ⟨_,_,_,h⟩ := cReg_some hc; simp at h; done) | (rcases cRegD_some hc with ⟨_,_,_,_,h,_⟩ | ⟨_,_,h,_⟩ <;> simp at h; done))
theorem PWc.loop {c : PCode} (I : St → Prop) (m : St → Nat) (h0 : I st) (h : ∀ st,I st → PWc n P c (loopK I m (m st) K) st) : PWc n P (.loop c) K st := by
 intro code hc
 cases code
 case loop c' =>
  simp only [cCode,Option.map_eq_some_iff,PCode.loop.injEq] at hc
  obtain ⟨c2,hc2,rfl⟩ := hc
  exact PW.loop I m h0 fun st hI => h st hI c' hc2
 all_goals first | (exfalso; revert hc; simp only [cCode]; try ((repeat' split) <;> simp); done) | (rename_i _ ops draw; exfalso; cases draw <;> simp only [cCode] at hc <;> first | (obtain ⟨_,_,_,h⟩ := cReg_some hc; simp at h; done) | (rcases cRegD_some hc with ⟨_,_,_,_,h,_⟩ | ⟨_,_,h,_⟩ <;> simp at h; done))
theorem PWc.ite {c : O} {x y : PCode} {b : Bool} (hb : ev st.fr c = .b b) (ht : b = true → PWc n P x K st) (hf : b = false → PWc n P y K st) : PWc n P (.ite c x y) K st := by
 intro code hc
 cases code
 case cond c' p q =>
  simp only [cCode] at hc
  split at hc <;> simp only [Option.some.injEq,reduceCtorEq,PCode.ite.injEq] at hc
  rename_i c2 p' q' hcc hp hq
  obtain ⟨rfl,rfl,rfl⟩ := hc
  intro B w0 w μ a hS hF
  have hv := (hb ▸ cO_ok hF hcc).inv_b
  cases b
  ·exact wp_cond_false hv (hf rfl q hq B w0 w μ a hS hF)
  ·exact wp_cond_true hv (ht rfl p hp B w0 w μ a hS hF)
 all_goals first | (exfalso; revert hc; simp only [cCode]; try ((repeat' split) <;> simp); done) | (rename_i _ ops draw; exfalso; cases draw <;> simp only [cCode] at hc <;> first | (obtain ⟨_,_,_,h⟩ := cReg_some hc; simp at h; done) | (rcases cRegD_some hc with ⟨_,_,_,_,h,_⟩ | ⟨_,_,h,_⟩ <;> simp at h; done))
end rules
inductive V.Wf : V → Prop
 | s (l : List UInt8) (h : l.length ≤ maxLen) : Wf (.s l)
 | sl (sz : Nat) (xs : List (List V)) (h : xs.length ≤ maxLen) (hr : ∀ r ∈ xs,r.length = sz) (hx : ∀ i j x,at2 xs i j = some x → Wf x) : Wf (.sl sz xs)
 | agg (xs : List V) (h : ∀ (i : Nat) (x : V),xs[i]? = some x → Wf x) : Wf (.agg xs)
 | b (x) : Wf (.b x)
 | i (k n) : Wf (.i k n)
 | u : Wf .u
 | nil : Wf .nil
 | lit (sz xs) : Wf (.lit sz xs)
 | own (id g) : Wf (.own id g)
 | sub (id g lo hi) : Wf (.sub id g lo hi)
 | ptr (id off) : Wf (.ptr id off)
 | ep (sz xs i off) : Wf (.ep sz xs i off)
 | rp (id g i off) : Wf (.rp id g i off)
 | mp (id) : Wf (.mp id)
 | nilmap : Wf .nilmap
 | nilptr : Wf .nilptr
 | fn (f caps) : Wf (.fn f caps)
 | tup (xs) : Wf (.tup xs)
theorem VR.wf {w : World} {σ : Store} {μ : Mem} {x : V} {v : Value} (h : VR w σ μ x v) : x.Wf := by
 induction h with
 | u v => exact .u
 | b x => exact .b x
 | i k n => exact .i k n
 | s l x hl hm => exact .s l hm
 | nil => exact .nil
 | sl0 sz => exact .sl sz [] (by simp) (by simp) (by simp [at2])
 | sle sz a => exact .sl sz [] (by simp) (by simp) (by simp [at2])
 | sl sz xs b o cap f hlen hcap hrow hc hv ih => exact .sl sz xs (Nat.le_trans hlen hcap) hrow ih
 | lit0 sz => exact .lit sz _
 | lit sz xs b o f hcap hrow hc hv ih => exact .lit sz xs
 | own id g v hid h => exact .own id g
 | sub id g lo hi v hid h => exact .sub id g lo hi
 | ptr id off b h hm => exact .ptr id off
 | ep sz xs i off b o f hi hrow hc hv ih => exact .ep sz xs i off
 | rp id g i off v hid h => exact .rp id g i off
 | mp id r h hm => exact .mp id
 | nilmap => exact .nilmap
 | nilptr => exact .nilptr
 | fn f caps vs hl hv ih => exact .fn f caps
 | agg xs vs hl hv ih => exact .agg xs ih
 | tup xs vs hl hv ih => exact .tup xs
def Closed (σ : Store) : Prop := ∀ (id T : Nat) (cs : List V),σ[id]? = some (.box T cs) → ∀ (j : Nat) (x : V),cs[j]? = some x → x.Lt σ.length
theorem Sim.closed {P : Program} {B : Nat} {w0 w : World} {σ : Store} {μ : Mem} (hS : Sim P B w0 w σ μ) : Closed σ := by
 intro id T cs h j x hx
 obtain ⟨b,vs,_,_,_,_,hcs⟩ := hS.boxAt h
 obtain ⟨u,_,hv⟩ := hcs j x hx
 exact hv.lt
def Wk (P : Program) (n : Nat) (xs : List V) (σ : Store) (xs' : List V) (σ' : Store) : Prop :=
 ∀ (B : Nat) (w0 w : World) (μ : Mem) (vs : Array Value),Sim P B w0 w σ μ → CR w σ μ xs vs → ∃ μ',Sim P B w0 w σ' μ' ∧ CR w σ' μ' xs' vs ∧ KeepN n w σ μ w σ' μ'
theorem Wk.refl {P : Program} {n : Nat} (xs : List V) (σ : Store) : Wk P n xs σ xs σ := fun _ _ _ μ _ h1 h2 => ⟨μ,h1,h2,KeepN.refl _ _ _ _⟩
theorem Wk.trans {P : Program} {n : Nat} {xs : List V} {σ : Store} {xs' : List V} {σ' : Store} {xs'' : List V} {σ'' : Store} (h : Wk P n xs σ xs' σ') (k : Wk P n xs' σ' xs'' σ'') : Wk P n xs σ xs'' σ'' := by
 intro B w0 w μ vs h1 h2
 obtain ⟨μ1,h3,h4,h5⟩ := h B w0 w μ vs h1 h2
 obtain ⟨μ2,h6,h7,h8⟩ := k B w0 w μ1 vs h3 h4
 exact ⟨μ2,h6,h7,h5.trans h8⟩
theorem PWc.wk {P : Program} {n : Nat} {c : PCode} {K : Exit → St → Prop} {fr fr' : List V} {σ σ' : Store} (h : Wk P n fr σ fr' σ') (k : PWc n P c K ⟨fr',σ'⟩) : PWc n P c K ⟨fr,σ⟩ := by
 intro code hc B w0 w μ a hS hF
 obtain ⟨μ',h1,h2,h3⟩ := h B w0 w μ a.tmps hS ⟨hF.2.1.symm,hF.2.2⟩
 exact wp_mono (k code hc B w0 w μ' a h1 ⟨hF.1,h2.1.symm,h2.2⟩) fun e a' w' ⟨st',μ2,h4,h5,h6,h7⟩ => ⟨st',μ2,h4,h5,h6,h3.trans h7⟩
theorem PC.wk {P : Program} {f : Nat} {args args' : List V} {σ σ' : Store} {Q : V → Store → Prop} (h : Wk P σ.length args σ args' σ') (k : PC P f args' σ' Q) : PC P f args σ Q := by
 intro B w0 w μ vs hS hv
 obtain ⟨μ',h1,h2,h3⟩ := h B w0 w μ vs hS ⟨hv.1.symm,hv.2⟩
 refine (k B w0 w μ' vs h1 ⟨h2.1.symm,h2.2⟩).mono ?_
 rintro e w' ⟨r,v,σ2,μ2,rfl,h4,h5,h6,h7⟩
 exact ⟨r,v,σ2,μ2,rfl,h4,h5,h6,fun x u hx => h7 x u (h3 x u hx hx.lt)⟩
inductive Cv : V → V → Prop
 | refl (x) : Cv x x
 | forget (x) : Cv x .u
 | nil (sz) : Cv .nil (.sl sz [])
 | lit (sz xs) : Cv (.lit sz xs) (.sl sz xs)
 | agg (xs ys : List V) (hl : ys.length = xs.length) (h : ∀ (i : Nat) (x y : V),xs[i]? = some x → ys[i]? = some y → Cv x y) : Cv (.agg xs) (.agg ys)
 | tup (xs ys : List V) (hl : ys.length = xs.length) (h : ∀ (i : Nat) (x y : V),xs[i]? = some x → ys[i]? = some y → Cv x y) : Cv (.tup xs) (.tup ys)
theorem Cv.ok {w : World} {σ : Store} {μ : Mem} {x y : V} (h : Cv x y) : ∀ {v : Value},VR w σ μ x v → VR w σ μ y v := by
 induction h with
 | refl x => exact fun h => h
 | forget x => exact fun _ => .u _
 | nil sz => intro v h; rw [h.inv_nil]; exact .sl0 _
 | lit sz xs =>
  intro v h
  rcases h.inv_lit with ⟨rfl,rfl⟩ | ⟨b,o,f,rfl,hm,hr⟩
  ·exact .sl0 _
  ·exact .sl _ _ b o _ f (Nat.le_refl _) hm hr.1 hr.2.1 hr.2.2
 | agg xs ys hl hc ih =>
  intro v h
  obtain ⟨vs,rfl,h1,h2⟩ := h.inv_agg
  refine .agg ys vs (by rw [hl,h1]) fun i y hy => ?_
  have hi : i < xs.length := by rw [← hl]; exact (List.getElem?_eq_some_iff.1 hy).1
  exact ih i xs[i] y (List.getElem?_eq_getElem hi) hy (h2 i _ (List.getElem?_eq_getElem hi))
 | tup xs ys hl hc ih =>
  intro v h
  obtain ⟨vs,rfl,h1,h2⟩ := h.inv_tup
  refine .tup ys vs (by rw [hl,h1]) fun i y hy => ?_
  have hi : i < xs.length := by rw [← hl]; exact (List.getElem?_eq_some_iff.1 hy).1
  exact ih i xs[i] y (List.getElem?_eq_getElem hi) hy (h2 i _ (List.getElem?_eq_getElem hi))
inductive Cvs : List V → List V → Prop
 | nil : Cvs [] []
 | cons {x y xs ys} (h : Cv x y) (t : Cvs xs ys) : Cvs (x :: xs) (y :: ys)
theorem Cvs.at {xs ys : List V} (h : Cvs xs ys) : ys.length = xs.length ∧ ∀ (i : Nat) (x y : V),xs[i]? = some x → ys[i]? = some y → Cv x y := by
 induction h with
 | nil => simp
 | cons h t ih =>
  refine ⟨by simp [ih.1],fun i x y hx hy => ?_⟩
  cases i with
  | zero => simp only [List.getElem?_cons_zero,Option.some.injEq] at hx hy; subst hx; subst hy; exact h
  | succ i => exact ih.2 i x y (by simpa using hx) (by simpa using hy)
theorem Cvs.refl (xs : List V) : Cvs xs xs := by
 induction xs with
 | nil => exact .nil
 | cons x xs ih => exact .cons (.refl x) ih
theorem Cv.aggs {xs ys : List V} (h : Cvs xs ys) : Cv (.agg xs) (.agg ys) := .agg xs ys h.at.1 h.at.2
theorem Wk.cvs {P : Program} {n : Nat} {xs ys : List V} {σ : Store} (h : Cvs xs ys) : Wk P n xs σ ys σ := by
 intro B w0 w μ vs hS hC
 obtain ⟨h1,h2⟩ := h.at
 refine ⟨μ,hS,⟨by rw [h1]; exact hC.1,fun i y hy => ?_⟩,KeepN.refl _ _ _ _⟩
 have hi : i < xs.length := by rw [← h1]; exact (List.getElem?_eq_some_iff.1 hy).1
 exact (h2 i xs[i] y (List.getElem?_eq_getElem hi) hy).ok (hC.2 i _ (List.getElem?_eq_getElem hi))
theorem Wk.share {P : Program} {n : Nat} {xs : List V} {σ : Store} {id E sz by' g : Nat} {sh : Bool} {rows : List (List V)} (ho : σ[id]? = some (.row E sz by' g sh rows)) : Wk P n xs σ xs (σ.set id (.row E sz by' g true rows)) := by
 intro B w0 w μ vs hS hC
 have hlt : id < σ.length := (List.getElem?_eq_some_iff.1 ho).1
 have hup := hS.update (w' := w) (σ' := σ.set id (.row E sz by' g true rows)) (μ' := μ) id none (grownBy_refl w none) (by simp) (by simp) (fun j hj => List.getElem?_set_ne (fun e => hj e.symm)) (fun _ _ => rfl)
  (fun b hb => .inl ⟨_,ho,by simp,hb⟩)
  (fun b off u o h1 _ h2 h3 h4 => ⟨h3,fun o' h5 h6 => by
   rw [ho] at h1; simp only [Option.some.injEq] at h1; subst h1
   simp only [List.getElem?_set_self hlt,Option.some.injEq] at h5; subst h5
   intro hw
   exact h4 ⟨id,_,ho,h2,fun _ => hw rfl⟩⟩)
  (fun T cs h => by rw [ho] at h; simp at h) (fun K E es h => by rw [ho] at h; simp at h)
  (fun E2 sz2 by2 g2 sh2 xs2 _ h => by
   simp only [List.getElem?_set_self hlt,Option.some.injEq,Ob.row.injEq] at h
   obtain ⟨rfl,rfl,rfl,rfl,rfl,rfl⟩ := h
   exact ⟨g,sh,rows,ho,Nat.le_refl _,fun _ => ⟨rfl,rfl⟩⟩)
  (fun hp o h => by
   simp only [List.getElem?_set_self hlt,Option.some.injEq] at h; subst h
   exact (hS.obj id _ ho).keep hp.keep fun _ _ => rfl)
 exact ⟨μ,hup.1,⟨hC.1,fun i x hx => (hC.2 i x hx).mono hup.2⟩,hup.2.keep.toN⟩
theorem VR.ofShared {P : Program} {B : Nat} {w0 w : World} {σ : Store} {μ : Mem} (hS : Sim P B w0 w σ μ) {id E sz by' g : Nat} {rows : List (List V)} (ho : σ[id]? = some (.row E sz by' g true rows)) (lo hi : Nat) (hlh : lo ≤ hi) (hh : hi ≤ rows.length) :
  VR w σ μ (.sl sz ((rows.drop lo).take (hi - lo))) (subv (μ id) lo hi sz) := by
 obtain ⟨_,hrow,hr⟩ := hS.rowAt ho
 have hl : ((rows.drop lo).take (hi - lo)).length = hi - lo := by simp; omega
 rcases hr with ⟨hm,hn⟩ | ⟨b,cap,cur,hm,_,hc,hcm,_,hr⟩
 ·subst hn
  simp only [List.length_nil] at hh
  have h3 : lo = 0 := by omega
  have h4 : hi = 0 := by omega
  subst h3; subst h4
  rw [hm]
  exact .sl0 sz
 ·rw [hm]
  let f : Nat → Nat → Value := fun i j => (w.cell? ⟨b,i * sz + j,none⟩).getD undef
  have hf : ∀ i j x,at2 rows i j = some x → w.cell? ⟨b,i * sz + j,none⟩ = some (f i j) ∧ x.pure = true ∧ VR w σ μ x (f i j) := by
   intro i j x hx
   obtain ⟨h1,u,h2,h3⟩ := hr i j x hx
   have : f i j = u := by simp [f,h2]
   exact ⟨by rw [this]; exact h2,h1,by rw [this]; exact h3⟩
  have hnw : ∀ i j x,at2 rows i j = some x → ¬ wr σ μ b (i * sz + j) := by
   rintro i j x hx ⟨id2,o2,h1,h2,h3⟩
   have hd : o2 ≠ .dead := by rintro rfl; exact h3
   have := hS.sep id id2 _ o2 b ho h1 (by simp) hd (by simp [hm,blk]) h2
   subst this
   rw [ho] at h1
   simp only [Option.some.injEq] at h1; subst h1
   have h4 := h3 rfl
   obtain ⟨r,hr1,hr2⟩ := at2_some hx
   have hi' : i < rows.length := (List.getElem?_eq_some_iff.1 hr1).1
   have hj : j < sz := by rw [← hrow r (List.mem_of_getElem? hr1)]; exact (List.getElem?_eq_some_iff.1 hr2).1
   have : (i + 1) * sz ≤ rows.length * sz := Nat.mul_le_mul_right _ hi'
   rw [Nat.add_mul,Nat.one_mul] at this; omega
  have hat : RowsAt w σ μ rows sz b 0 f := ⟨hrow,fun i j x hx => ⟨by rw [Nat.zero_add]; exact (hf i j x hx).1,by rw [Nat.zero_add]; exact hnw i j x hx,(hf i j x hx).2.1⟩,fun i j x hx => (hf i j x hx).2.2⟩
  by_cases he : cap = lo
  ·have h3 : hi - lo = 0 := by omega
   simp only [subv,he,if_true,h3,List.take_zero,Nat.sub_self]
   exact .sl sz [] b 0 0 f (by simp) (by simp) (by simp) (by simp [at2]) (by simp [at2])
  ·simp only [subv,he,if_false,Option.map_some,Addr.add_lit]
   have h5 := hat.sub lo (hi - lo)
   have h6 := VR.sl (w := w) (σ := σ) (μ := μ) sz _ b _ (cap - lo) _ (by rw [hl]; omega) (by omega) h5.1 h5.2.1 h5.2.2
   rwa [hl] at h6
theorem subv_all {P : Program} {B : Nat} {w0 w : World} {σ : Store} {μ : Mem} (hS : Sim P B w0 w σ μ) {id E sz by' g : Nat} {sh : Bool} {rows : List (List V)} (ho : σ[id]? = some (.row E sz by' g sh rows)) : subv (μ id) 0 rows.length sz = μ id := by
 rcases (hS.rowAt ho).2.2 with ⟨hm,hn⟩ | ⟨b,cap,cur,hm,_⟩
 ·subst hn; rw [hm]; rfl
 ·rw [hm]; simp [subv,Addr.add_lit]
theorem Wk.own {P : Program} {n : Nat} {xs : List V} {σ : Store} {k id E sz by' g : Nat} {rows : List (List V)} (ho : σ[id]? = some (.row E sz by' g true rows)) (hk : xs[k]? = some (.own id g)) : Wk P n xs σ (xs.set k (.sl sz rows)) σ := by
 intro B w0 w μ vs hS hC
 have hlt : k < xs.length := (List.getElem?_eq_some_iff.1 hk).1
 refine ⟨μ,hS,⟨by simp [hC.1],fun i y hy => ?_⟩,KeepN.refl _ _ _ _⟩
 by_cases hi : i = k
 ·subst hi
  rw [List.getElem?_set_self hlt] at hy
  simp only [Option.some.injEq] at hy; subst hy
  have h1 := hC.2 i _ hk
  have h2 := h1.inv_own ho
  rw [h2]
  have := VR.ofShared hS ho 0 rows.length (by omega) (Nat.le_refl _)
  rw [subv_all hS ho] at this
  simpa using this
 ·rw [List.getElem?_set_ne (fun e => hi e.symm)] at hy
  exact hC.2 i y hy
theorem Wk.sub {P : Program} {n : Nat} {xs : List V} {σ : Store} {k id E sz by' g lo hi : Nat} {rows : List (List V)} (ho : σ[id]? = some (.row E sz by' g true rows)) (hk : xs[k]? = some (.sub id g lo hi)) : Wk P n xs σ (xs.set k (.sl sz ((rows.drop lo).take (hi - lo)))) σ := by
 intro B w0 w μ vs hS hC
 have hlt : k < xs.length := (List.getElem?_eq_some_iff.1 hk).1
 refine ⟨μ,hS,⟨by simp [hC.1],fun i y hy => ?_⟩,KeepN.refl _ _ _ _⟩
 by_cases hi : i = k
 ·subst hi
  rw [List.getElem?_set_self hlt] at hy
  simp only [Option.some.injEq] at hy; subst hy
  obtain ⟨h1,h2,h3⟩ := (hC.2 i _ hk).inv_sub ho
  rw [h3]
  exact VR.ofShared hS ho lo _ h1 h2
 ·rw [List.getElem?_set_ne (fun e => hi e.symm)] at hy
  exact hC.2 i y hy
theorem Wk.promote {P : Program} {n : Nat} {xs : List V} {σ : Store} {k E sz by' : Nat} (hT : Ti P E sz by') (hk : xs[k]? = some .nil) : Wk P n xs σ (xs.set k (.own σ.length 0)) (σ ++ [.row E sz by' 0 false []]) := by
 intro B w0 w μ vs hS hC
 have hlt : k < xs.length := (List.getElem?_eq_some_iff.1 hk).1
 have hn := hS.newOb (w' := w) (.row E sz by' 0 false []) (.slice none 0 0) (grownBy_refl w none) (by simp [blk]) (fun _ => ⟨hT,[],World.ownsRow_nil w B E sz,by simp,by simp [at2]⟩)
 refine ⟨_,hn.1,⟨by simp [hC.1],fun i y hy => ?_⟩,hn.2.keep.toN⟩
 by_cases hi : i = k
 ·subst hi
  rw [List.getElem?_set_self hlt] at hy
  simp only [Option.some.injEq] at hy; subst hy
  rw [(hC.2 i _ hk).inv_nil]
  have := VR.ownNow (w := w) (σ := σ ++ [.row E sz by' 0 false []]) (μ := upd μ σ.length (.slice none 0 0)) (id := σ.length) (E := E) (sz := sz) (by' := by') (g := 0) (sh := false) (xs := []) (by simp)
  rwa [upd_same] at this
 ·rw [List.getElem?_set_ne (fun e => hi e.symm)] at hy
  exact (hC.2 i y hy).mono hn.2
theorem pure_lt {x : V} (h : x.pure = true) (m : Nat) : x.Lt m := by
 cases x <;> simp [V.pure] at h
 ·exact .b _
 ·exact .i _ _
 ·exact .s _
 ·exact .sl _ _
theorem VR.take {w : World} {σ : Store} {μ : Mem} {x : V} {v : Value} (h : VR w σ μ x v) {m : Nat} (hm : m ≤ σ.length) (hx : x.Lt m) : VR w (σ.take m) μ x v := by
 have hw : ∀ b off,wr (σ.take m) μ b off → wr σ μ b off := by
  rintro b off ⟨id,o,h1,h2,h3⟩
  refine ⟨id,o,?_,h2,h3⟩
  rw [List.getElem?_take] at h1
  split at h1
  ·exact h1
  ·simp at h1
 have hat : ∀ {id : Nat} {o : Ob},id < m → ((σ.take m)[id]? = some o ↔ σ[id]? = some o) := fun h => by rw [List.getElem?_take_of_lt h]
 have hlen : (σ.take m).length = m := by simp; omega
 induction h with
 | u v => exact .u v
 | b x => exact .b x
 | i k n => exact .i k n
 | s l x hl hm => exact .s l x hl hm
 | nil => exact .nil
 | sl0 sz => exact .sl0 sz
 | sle sz a => exact .sle sz a
 | sl sz xs b o cap f hlen hcap hrow hc hv ih =>
  exact .sl sz xs b o cap f hlen hcap hrow (fun i j x hx => ⟨(hc i j x hx).1,fun h => (hc i j x hx).2.1 (hw _ _ h),(hc i j x hx).2.2⟩) (fun i j x hx => ih i j x hx (pure_lt (hc i j x hx).2.2 m))
 | lit0 sz => exact .lit0 sz
 | lit sz xs b o f hcap hrow hc hv ih =>
  exact .lit sz xs b o f hcap hrow (fun i j x hx => ⟨(hc i j x hx).1,fun h => (hc i j x hx).2.1 (hw _ _ h),(hc i j x hx).2.2⟩) (fun i j x hx => ih i j x hx (pure_lt (hc i j x hx).2.2 m))
 | own id g v hid h =>
  cases hx with
  | own _ _ hl => exact .own id g v (by rw [hlen]; exact hl) fun E sz by' g' sh xs ho => h E sz by' g' sh xs ((hat hl).1 ho)
 | sub id g lo hi v hid h =>
  cases hx with
  | sub _ _ _ _ hl => exact .sub id g lo hi v (by rw [hlen]; exact hl) fun E sz by' g' sh xs ho => h E sz by' g' sh xs ((hat hl).1 ho)
 | ptr id off b h hm =>
  cases hx with
  | ptr _ _ hl =>
   obtain ⟨T,cs,h1⟩ := h
   exact .ptr id off b ⟨T,cs,(hat hl).2 h1⟩ hm
 | ep sz xs i off b o f hi hrow hc hv ih =>
  exact .ep sz xs i off b o f hi hrow (fun j x hx => ⟨(hc j x hx).1,fun h => (hc j x hx).2.1 (hw _ _ h),(hc j x hx).2.2⟩) (fun j x hx => ih j x hx (pure_lt (hc j x hx).2.2 m))
 | rp id g i off v hid h =>
  cases hx with
  | rp _ _ _ _ hl => exact .rp id g i off v (by rw [hlen]; exact hl) fun E sz by' g' sh xs ho => h E sz by' g' sh xs ((hat hl).1 ho)
 | mp id r h hm =>
  cases hx with
  | mp _ hl =>
   obtain ⟨K,E,es,h1⟩ := h
   exact .mp id r ⟨K,E,es,(hat hl).2 h1⟩ hm
 | nilmap => exact .nilmap
 | nilptr => exact .nilptr
 | fn f caps vs hl hv ih =>
  cases hx with
  | fn _ _ h => exact .fn f caps vs hl fun i x hx => ih i x hx (h i x hx)
 | agg xs vs hl hv ih =>
  cases hx with
  | agg _ h => exact .agg xs vs hl fun i x hx => ih i x hx (h i x hx)
 | tup xs vs hl hv ih =>
  cases hx with
  | tup _ h => exact .tup xs vs hl fun i x hx => ih i x hx (h i x hx)
theorem mkey_lt {x : V} (h : x.mkey = true) (m : Nat) : x.Lt m := by
 cases x <;> simp [V.mkey] at h
 ·exact .b _
 ·exact .i _ _
 ·exact .s _
 ·rename_i xs
  refine .agg _ fun i x hx => ?_
  have := h x (List.mem_of_getElem? hx)
  cases x <;> simp [V.scal] at this
  ·exact .b _
  ·exact .i _ _
  ·exact .s _
theorem mval_lt {x : V} (h : x.mval = true) (m : Nat) : x.Lt m := by
 by_cases ha : ∃ xs,x = .agg xs
 ·obtain ⟨xs,rfl⟩ := ha
  simp only [V.mval,List.all_eq_true] at h
  exact .agg _ fun i x hx => pure_lt (h x (List.mem_of_getElem? hx)) m
 ·refine pure_lt ?_ m
  cases x <;> first | exact h | exact absurd ⟨_,rfl⟩ ha
theorem Wk.drop {P : Program} {n m : Nat} {xs : List V} {σ : Store} (hnm : n ≤ m) (hm : m ≤ σ.length) (hx : ∀ (i : Nat) (x : V),xs[i]? = some x → x.Lt m) (hcl : ∀ (id T : Nat) (cs : List V),id < m → σ[id]? = some (.box T cs) → ∀ (j : Nat) (x : V),cs[j]? = some x → x.Lt m) : Wk P n xs σ xs (σ.take m) := by
 intro B w0 w μ vs hS hC
 have hat : ∀ {id : Nat} {o : Ob},(σ.take m)[id]? = some o → id < m ∧ σ[id]? = some o := by
  intro id o h
  rw [List.getElem?_take] at h
  split at h
  ·exact ⟨by assumption,h⟩
  ·simp at h
 refine ⟨μ,⟨hS.below,hS.base,fun id o ho => ?_,fun i j oi oj b hi hj h1 h2 h3 h4 => hS.sep i j oi oj b (hat hi).2 (hat hj).2 h1 h2 h3 h4⟩,⟨hC.1,fun i x hx' => (hC.2 i x hx').take hm (hx i x hx')⟩,fun x v hv hl => hv.take hm (hl.mono hnm)⟩
 obtain ⟨hid,ho'⟩ := hat ho
 have hob := hS.obj id o ho'
 cases o with
 | dead => trivial
 | box T cs =>
  obtain ⟨b,us,h1,h2,h3,h4,h5⟩ := hob
  exact ⟨b,us,h1,h2,h3,h4,fun j x hj => let ⟨u,h6,h7⟩ := h5 j x hj; ⟨u,h6,h7.take hm (hcl id T cs hid ho' j x hj)⟩⟩
 | row E sz by' g sh rows =>
  obtain ⟨h1,vals,h2,h3⟩ := hob
  exact ⟨h1,vals,h2,h3.1,fun i j x hj => let ⟨h4,u,h5,h6⟩ := h3.2 i j x hj; ⟨h4,u,h5,h6.take hm (pure_lt h4 m)⟩⟩
 | map K E es =>
  obtain ⟨r,ents,clock,h1,h2,h3,h4⟩ := hob
  exact ⟨r,ents,clock,h1,h2,h3,h4.1,fun i k x hi => let ⟨h5,h6,e,h7,h8,h9⟩ := h4.2.1 i k x hi; ⟨h5,h6,e,h7,h8.take hm (mkey_lt h5 m),h9.take hm (mval_lt h6 m)⟩,h4.2.2⟩
theorem Wk.drop0 {P : Program} {n : Nat} {xs : List V} {σ loc : Store} (hn : n ≤ σ.length) (hcl : Closed σ) (hx : ∀ (i : Nat) (x : V),xs[i]? = some x → x.Lt σ.length) : Wk P n xs (σ ++ loc) xs σ := by
 have := Wk.drop (P := P) (n := n) (m := σ.length) (xs := xs) (σ := σ ++ loc) hn (by simp) hx (fun id T cs hid h j x hj => hcl id T cs (by rwa [List.getElem?_append_left hid] at h) j x hj)
 simpa using this
inductive Rs where
 | t (n : Nat)
 | c (n : Nat) (k : Option Nat)
structure PFun where
 nt : Nat
 rs : List Rs
 c : PCode
def cRs (P : Program) : List ResultVar → Option (List Rs)
 | [] => some []
 | .tmp t :: r => (cRs P r).map (.t t :: ·)
 | .cell t T :: r => match isAggT P T,P.info? T,cRs P r with
  | some true,some ti,some rs => some (.c t (some ti.size) :: rs)
  | some false,some _,some rs => some (.c t none :: rs)
  | _,_,_ => none
def cFun (P : Program) (fn : Func) : Option PFun :=
 match fn.body with
 | some code => match cCode P code,cRs P fn.results.toList with
  | some c,some rs => some ⟨fn.ntmps,rs,c⟩
  | _,_ => none
 | none => none
def resV (st : St) : Rs → Option V
 | .t n => some (st.fr.getD n .u)
 | .c n k => match st.fr.getD n .u with
  | .ptr id off => match st.σ[id]? with
   | some (.box _ cs) => match k with
    | none => cs[off]?
    | some m => if off + m ≤ cs.length then some (.agg ((cs.drop off).take m)) else none
   | _ => none
  | _ => none
def resVs (st : St) : List Rs → Option (List V)
 | [] => some []
 | r :: rs => match resV st r,resVs st rs with
  | some x,some xs => some (x :: xs)
  | _,_ => none
def one : List V → V
 | [x] => x
 | xs => .tup xs
def retK (P : Program) (n : Nat) (rs : List Rs) (Q : V → Store → Prop) (e : Exit) (st : St) : Prop :=
 (e = .normal ∨ e = .ret) ∧ ∃ xs,resVs st rs = some xs ∧ ∃ r σ',Wk P n [one xs] st.σ [r] σ' ∧ Q r σ'
def resOne (tmps : Array Value) : ResultVar → Sem Value
 | .tmp t => pure (tmps.getD t undef)
 | .cell a t => do loadVar t (← asAddr (tmps.getD a undef))
theorem results_eq (fn : Func) (tmps : Array Value) : results fn tmps = (do let vs ← fn.results.mapM (resOne tmps); pure (if h : vs.size = 1 then vs[0] else .tuple vs)) := rfl
theorem run_results {P : Program} {B : Nat} {w0 w : World} {st : St} {μ : Mem} {a : Act} (hS : Sim P B w0 w st.σ μ) (hF : FR w st.σ μ st.fr a) : ∀ (l : List ResultVar) (rs : List Rs) (xs : List V),cRs P l = some rs → resVs st rs = some xs →
  ∃ vs : List Value,(l.mapM (resOne a.tmps)).run P w = .ok vs w ∧ vs.length = xs.length ∧ ∀ (i : Nat) (x : V),xs[i]? = some x → VR w st.σ μ x (vs.getD i undef)
 | [],rs,xs,hc,hx => by
  simp only [cRs,Option.some.injEq] at hc; subst hc
  simp only [resVs,Option.some.injEq] at hx; subst hx
  exact ⟨[],by simp,rfl,by simp⟩
 | r :: l,rs,xs,hc,hx => by
  have key : ∃ r' rs',rs = r' :: rs' ∧ cRs P l = some rs' ∧ ∀ x,resV st r' = some x → ∃ v,(resOne a.tmps r).run P w = .ok v w ∧ VR w st.σ μ x v := by
   cases r with
   | tmp t =>
    simp only [cRs,Option.map_eq_some_iff] at hc
    obtain ⟨rs',h1,rfl⟩ := hc
    refine ⟨.t t,rs',rfl,h1,fun x h => ⟨_,rfl,?_⟩⟩
    simp only [resV,Option.some.injEq] at h
    subst h
    exact hF.at t
   | cell t T =>
    simp only [cRs] at hc
    have inner : ∀ (g : Bool) (ti : TypeInfo),isAggT P T = some g → P.info? T = some ti → ∀ x,resV st (.c t (if g then some ti.size else none)) = some x → ∃ v,(do loadVar T (← asAddr (a.tmps.getD t undef)) : Sem Value).run P w = .ok v w ∧ VR w st.σ μ x v := by
     intro g ti hg hti x h
     simp only [resV] at h
     split at h
     ·rename_i id off hp
      have h1 := hp ▸ hF.at t
      obtain ⟨b,hm,hv,_⟩ := h1.inv_ptr
      split at h
      ·rename_i T' cs hb
       obtain ⟨b',vs,hm',hB,hh,hsz,hcs⟩ := hS.boxAt hb
       rw [hm] at hm'
       simp only [Value.pointer.injEq,Option.some.injEq,Addr.mk.injEq,and_true] at hm'
       subst hm'
       have hl := load_raw (P := P) (σ := st.σ) (μ := μ) (row := cs) (k := if g then some ti.size else none) (b := b) (off := off) hti (isAggT_load hg) off (fun j z hz => hcs _ z hz)
       have he : (do loadVar T (← asAddr (a.tmps.getD t undef)) : Sem Value).run P w = (Instr.loadAt T (.pointer (some ⟨b,off,none⟩))).run P w := by
        rw [hv]; rfl
       rw [he]
       cases g
       ·simp only [Bool.false_eq_true,if_false] at h hl
        exact hl.1 trivial x h
       ·simp only [if_true] at h hl
        split at h <;> simp only [Option.some.injEq,reduceCtorEq] at h
        rename_i hle
        subst h
        exact hl.2 _ rfl hle
      ·simp at h
     ·simp at h
    split at hc <;> simp only [Option.some.injEq,reduceCtorEq] at hc
    ·rename_i ti rs' hg hti h1
     exact ⟨_,rs',hc.symm,h1,fun x h => inner true ti hg hti x h⟩
    ·rename_i ti rs' hg hti h1
     exact ⟨_,rs',hc.symm,h1,fun x h => inner false ti hg hti x h⟩
  obtain ⟨r',rs',rfl,h1,h2⟩ := key
  simp only [resVs] at hx
  split at hx <;> simp only [Option.some.injEq,reduceCtorEq] at hx
  rename_i x ys hx1 hys
  subst hx
  obtain ⟨v,h3,h4⟩ := h2 x hx1
  obtain ⟨vs,h5,h6,h7⟩ := run_results hS hF l rs' ys h1 hys
  refine ⟨v :: vs,?_,by simp [h6],fun i y hy => ?_⟩
  ·simp only [List.mapM_cons,Sem.run_bind,h3,Result.andThen_ok,h5,Sem.run_pure]
  ·cases i with
   | zero => simp only [List.getElem?_cons_zero,Option.some.injEq] at hy; subst hy; simpa using h4
   | succ i => simpa using h7 i y (by simpa using hy)
theorem PC.intro {P : Program} {f : Nat} {fn : Func} {pf : PFun} {args : List V} {σ : Store} {Q : V → Store → Prop} (hf : P.funcs[f]? = some fn) (hc : cFun P fn = some pf)
  (h : Closed σ → (∀ (i : Nat) (x : V),args[i]? = some x → x.Wf ∧ x.Lt σ.length) → PWc σ.length P pf.c (retK P σ.length pf.rs Q) ⟨args ++ List.replicate (pf.nt - args.length) .u,σ⟩) : PC P f args σ Q := by
 unfold cFun at hc
 split at hc
 ·rename_i code hb
  split at hc <;> simp only [Option.some.injEq,reduceCtorEq] at hc
  rename_i c rs hcc hrs
  subst hc
  intro B w0 w μ vs hS hv
  refine calls_of_wp hf hb ?_
  have hF : FR w σ μ (args ++ List.replicate (fn.ntmps - args.length) .u) { tmps := vs ++ Array.replicate (fn.ntmps - vs.size) undef,defers := [] } := by
   refine ⟨rfl,by simp [hv.1],fun i x hx => ?_⟩
   by_cases hi : i < args.length
   ·rw [List.getElem?_append_left hi] at hx
    have h1 := hv.2 i x hx
    have hi2 : i < vs.size := by rw [hv.1]; exact hi
    have e : (vs ++ Array.replicate (fn.ntmps - vs.size) undef).getD i undef = vs.getD i undef := by
     simp only [Array.getD_eq_getD_getElem?,Array.getElem?_append_left hi2]
    simp only [e]; exact h1
   ·rw [List.getElem?_append_right (by omega)] at hx
    have : x = .u := by
     have := (List.getElem?_eq_some_iff.1 hx).2
     simpa using this.symm
    subst this; exact .u _
  refine wp_mono (h hS.closed (fun i x hx => ⟨(hv.2 i x hx).wf,(hv.2 i x hx).lt⟩) code hcc B w0 w μ _ hS hF) ?_
  rintro e a' w' ⟨st',μ',hK,hS',hF',hk⟩
  obtain ⟨he,xs,hxs,r,σ',hw,hQ⟩ := hK
  obtain ⟨us,h1,h2,h3⟩ := run_results hS' hF' fn.results.toList rs xs hrs hxs
  have hres : ∃ v,(results fn a'.tmps).run P w' = .ok v w' ∧ VR w' st'.σ μ' (one xs) v := by
   have hr : (results fn a'.tmps).run P w' = .ok (if h : us.toArray.size = 1 then us.toArray[0] else .tuple us.toArray) w' := by
    rw [results_eq,Array.mapM_eq_mapM_toList]
    simp only [Sem.run_bind,Sem.run_map,h1,Result.andThen_ok,Sem.run_pure]
   refine ⟨_,hr,?_⟩
   match xs,us,h2,h3 with
   | [x],[u],_,h3 => have := h3 0 x rfl; exact this
   | [],[],_,_ => exact .tup [] #[] rfl (by simp)
   | x :: y :: xs,u :: v :: us,h2,h3 =>
    have hne : ¬ ((u :: v :: us).toArray.size = 1) := by simp
    rw [dif_neg hne]
    exact .tup _ _ (by simpa using h2.symm) fun i z hz => by
     have := h3 i z hz
     simpa [List.getD_eq_getElem?_getD] using this
  obtain ⟨v,hr,hv'⟩ := hres
  obtain ⟨μ2,h4,h5,h6⟩ := hw B w0 w' μ' #[v] hS' ⟨rfl,fun i x hx => by
   cases i with
   | zero => simp only [List.getElem?_cons_zero,Option.some.injEq] at hx; subst hx; simpa using hv'
   | succ i => simp at hx⟩
  have hfin : ∃ r v_1 σ' μ',Ending.returned v = .returned v_1 ∧ Q r σ' ∧ Sim P B w0 w' σ' μ' ∧ VR w' σ' μ' r v_1 ∧ Keep w σ μ w' σ' μ' :=
   ⟨r,v,σ',μ2,rfl,hQ,h4,by have := h5.2 0 r rfl; simpa using this,fun x u hx => h6 x u (hk x u hx hx.lt) hx.lt⟩
  rcases he with rfl | rfl
  ·exact ⟨hF'.1,v,hr,hfin⟩
  ·exact ⟨hF'.1,v,hr,hfin⟩
 ·simp at hc
def Rnd (n : Nat) (P : Program) (c : PCode) (K : Exit → St → Prop) : Nat → St → Prop
 | 0,_ => False
 | N + 1,st => PWc n P c (fun e => match e with
  | .normal => Rnd n P c K N
  | e => K e) st
theorem PWc.rnd {n : Nat} {P : Program} {c : PCode} {K : Exit → St → Prop} {st : St} (N : Nat) (h : Rnd n P c K N st) : PWc n P (.loop c) K st := by
 intro code hc
 cases code
 case loop c' =>
  simp only [cCode,Option.map_eq_some_iff,PCode.loop.injEq] at hc
  obtain ⟨c2,hc2,rfl⟩ := hc
  intro B w0 w μ a hs hf
  refine wp_loop_bounded N (fun k a2 w2 => ∃ st2 μ2,Rnd n P c2 K k st2 ∧ Sim P B w0 w2 st2.σ μ2 ∧ FR w2 st2.σ μ2 st2.fr a2 ∧ KeepN n w st.σ μ w2 st2.σ μ2) ⟨st,μ,h,hs,hf,KeepN.refl _ _ _ _⟩ ?_
  rintro k a2 w2 ⟨st2,μ2,hI2,hs2,hf2,hk2⟩
  cases k with
  | zero => exact hI2.elim
  | succ k =>
   refine wp_mono (hI2 c' hc2 B w0 w2 μ2 a2 hs2 hf2) ?_
   rintro e a' w' ⟨st',μ',hK,hs',hf',hk⟩
   cases e with
   | normal => exact ⟨k,Nat.lt_succ_self k,st',μ',hK,hs',hf',hk2.trans hk⟩
   | exit id => exact ⟨st',μ',hK,hs',hf',hk2.trans hk⟩
   | goto l => exact ⟨st',μ',hK,hs',hf',hk2.trans hk⟩
   | ret => exact ⟨st',μ',hK,hs',hf',hk2.trans hk⟩
   | panic c => exact ⟨st',μ',hK,hs',hf',hk2.trans hk⟩
   | outgrown => exact ⟨st',μ',hK,hs',hf',hk2.trans hk⟩
 all_goals first | (exfalso; revert hc; simp only [cCode]; try ((repeat' split) <;> simp); done) | (rename_i _ ops draw; exfalso; cases draw <;> simp only [cCode] at hc <;> first | (obtain ⟨_,_,_,h⟩ := cReg_some hc; simp at h; done) | (rcases cRegD_some hc with ⟨_,_,_,_,h,_⟩ | ⟨_,_,h,_⟩ <;> simp at h; done))
def blkK (id : Nat) (K : Exit → St → Prop) : Exit → St → Prop
 | .exit id' => if id' = id then K .normal else K (.exit id')
 | e => K e
def rndK (n : Nat) (P : Program) (c : PCode) (K : Exit → St → Prop) (N : Nat) : Exit → St → Prop
 | .normal => Rnd n P c K N
 | e => K e
def seqK (k : St → Prop) (K : Exit → St → Prop) : Exit → St → Prop
 | .normal => k
 | e => K e
def dregK (P : Program) : PCode → (St → Prop) → St → Prop
 | .dreg ds last gs tail,k,st => runD P ds last (runC P gs tail k) st
 | _,_,_ => False
theorem dregK_ex {P : Program} {c : PCode} {k : St → Prop} {st : St} (h : dregK P c k st) : ∃ ds last gs tail,c = .dreg ds last gs tail ∧ runD P ds last (runC P gs tail k) st := by
 cases c with
 | dreg ds last gs tail => exact ⟨ds,last,gs,tail,rfl,h⟩
 | _ => exact h.elim
def wpc (n : Nat) (P : Program) : PCode → (Exit → St → Prop) → St → Prop
 | .skip,K,st => K .normal st
 | .reg gs is,K,st => runC P gs is (K .normal) st
 | .dreg ds last gs tail,K,st => runD P ds last (runC P gs tail (K .normal)) st
 | .seq a b,K,st => wpc n P a (seqK (wpc n P b K) K) st
 | .ite c a b,K,st => match ev st.fr c with
  | .b x => (x = true → wpc n P a K st) ∧ (x = false → wpc n P b K st)
  | _ => False
 | .block id c,K,st => wpc n P c (blkK id K) st
 | .loop c,K,st => PWc n P (.loop c) K st
 | .exit id,K,st => K (.exit id) st
 | .ret,K,st => K .ret st
 | .both a b,K,st => dregK P a (K .normal) st ∧ dregK P b (K .normal) st
theorem wpc_sound {n : Nat} {P : Program} : ∀ {c : PCode} {K : Exit → St → Prop} {st : St},wpc n P c K st → PWc n P c K st
 | .skip,_,_,h => PWc.skip h
 | .reg _ _,_,_,h => PWc.reg h
 | .dreg _ _ _ _,_,_,h => PWc.dreg h
 | .seq a b,K,st,h => PWc.seq ((wpc_sound (c := a) h).mono fun e st' hk => by
   cases e with
   | normal => exact wpc_sound (c := b) hk
   | _ => exact hk)
 | .ite c a b,K,st,h => by
  simp only [wpc] at h
  split at h
  ·rename_i x hx
   exact PWc.ite hx (fun hb => wpc_sound (h.1 hb)) fun hb => wpc_sound (h.2 hb)
  ·exact h.elim
 | .block id c,K,st,h => PWc.block ((wpc_sound (c := c) h).mono fun e st' hk => by
   cases e with
   | exit id' =>
    simp only [blkK] at hk
    simp only [blockK]
    split at hk <;> rename_i h1 <;> simp only [h1,if_true,if_false] <;> exact hk
   | _ => exact hk)
 | .loop _,_,_,h => h
 | .exit _,_,_,h => PWc.exit h
 | .ret,_,_,h => PWc.ret h
 | .both _ _,_,_,h => PWc.both (dregK_ex h.1) (dregK_ex h.2)
theorem rnd_succ {n : Nat} {P : Program} {c : PCode} {K : Exit → St → Prop} {N : Nat} {st : St} (h : wpc n P c (rndK n P c K N) st) : Rnd n P c K (N + 1) st := by
 simp only [Rnd]
 exact (wpc_sound h).mono fun e st' hk => by cases e <;> exact hk
theorem blkK_normal {id : Nat} {K : Exit → St → Prop} : blkK id K .normal = K .normal := rfl
theorem blkK_ret {id : Nat} {K : Exit → St → Prop} : blkK id K .ret = K .ret := rfl
theorem blkK_same {id : Nat} {K : Exit → St → Prop} : blkK id K (.exit id) = K .normal := by simp only [blkK,if_true]
theorem blkK_exit {id id' : Nat} {K : Exit → St → Prop} : blkK id K (.exit id') = if id' = id then K .normal else K (.exit id') := rfl
theorem seqK_normal {k : St → Prop} {K : Exit → St → Prop} : seqK k K .normal = k := rfl
theorem seqK_ret {k : St → Prop} {K : Exit → St → Prop} : seqK k K .ret = K .ret := rfl
theorem seqK_exit {k : St → Prop} {K : Exit → St → Prop} {id : Nat} : seqK k K (.exit id) = K (.exit id) := rfl
def pI (r : Option (Prop × V)) (d : Option Nat) (K : St → Prop) (fr : List V) (σ : Store) : Prop :=
 match r with
 | some (ob,v) => ob ∧ K ⟨setd fr d v,σ⟩
 | none => False
def xI (r : Option (Prop × V × Store)) (d : Option Nat) (K : St → Prop) (fr : List V) : Prop :=
 match r with
 | some (ob,v,σ') => ob ∧ K ⟨setd fr d v,σ'⟩
 | none => False
def qI (r : Option (Prop × V)) (c : Bool) (d : Option Nat) (K : St → Prop) (fr : List V) (σ : Store) : Prop :=
 match r with
 | some (ob,v) => (c = true → ob) ∧ K ⟨setd fr d v,σ⟩
 | none => False
theorem pI_some {ob : Prop} {v : V} {d : Option Nat} {K : St → Prop} {fr : List V} {σ : Store} : pI (some (ob,v)) d K fr σ = (ob ∧ K ⟨setd fr d v,σ⟩) := rfl
theorem xI_some {ob : Prop} {v : V} {d : Option Nat} {K : St → Prop} {fr : List V} {σ' : Store} : xI (some (ob,v,σ')) d K fr = (ob ∧ K ⟨setd fr d v,σ'⟩) := rfl
theorem qI_some {ob : Prop} {v : V} {c : Bool} {d : Option Nat} {K : St → Prop} {fr : List V} {σ : Store} : qI (some (ob,v)) c d K fr σ = ((c = true → ob) ∧ K ⟨setd fr d v,σ⟩) := rfl
theorem pI_eq {P : Program} {d : Option Nat} {i : I} {K : St → Prop} {fr : List V} {σ : Store} (hs : i.silent = true) : gI P ⟨d,[],i⟩ K ⟨fr,σ⟩ = pI (pexec fr σ i) d K fr σ := by
 have hx := xexec_silent (fr := fr) (σ := σ) hs
 simp only [gI]
 cases i <;> first | (simp [I.silent] at hs; done) | skip
 all_goals
  simp only [stepI,pI,hx]
  generalize pexec fr σ _ = r
  cases r <;> rfl
theorem xI_eq {P : Program} {d : Option Nat} {i : I} {K : St → Prop} {fr : List V} {σ : Store} (hs : i.silent = false) (hc : ∀ f args,i ≠ .call f args) : gI P ⟨d,[],i⟩ K ⟨fr,σ⟩ = xI (xexec fr σ i) d K fr := by
 have hp : pexec fr σ i = none := by
  cases h : pexec fr σ i with
  | none => rfl
  | some r => rw [pexec_silent h] at hs; simp at hs
 simp only [gI]
 cases i <;> first | (simp [I.silent] at hs; done) | exact absurd rfl (hc _ _) | skip
 all_goals
  simp only [stepI,xI,hp]
  generalize xexec fr σ _ = r
  cases r <;> rfl
theorem gI_mov {P : Program} {d : Option Nat} {K : St → Prop} {fr : List V} {σ : Store} {x : O} : gI P ⟨d,[],.mov x⟩ K ⟨fr,σ⟩ = pI (pexec fr σ (.mov x)) d K fr σ := pI_eq rfl
theorem gI_pick {P : Program} {d : Option Nat} {K : St → Prop} {fr : List V} {σ : Store} {c a b : O} : gI P ⟨d,[],.pick c a b⟩ K ⟨fr,σ⟩ = pI (pexec fr σ (.pick c a b)) d K fr σ := pI_eq rfl
theorem gI_build {P : Program} {d : Option Nat} {K : St → Prop} {fr : List V} {σ : Store} {zs : List V} {ps : List (Nat × Nat × O)} : gI P ⟨d,[],.build zs ps⟩ K ⟨fr,σ⟩ = pI (pexec fr σ (.build zs ps)) d K fr σ := pI_eq rfl
theorem gI_bslice {P : Program} {d : Option Nat} {K : St → Prop} {fr : List V} {σ : Store} {sz : Nat} {szs : List (Option Nat)} {xs : List O} : gI P ⟨d,[],.bslice sz szs xs⟩ K ⟨fr,σ⟩ = pI (pexec fr σ (.bslice sz szs xs)) d K fr σ := pI_eq rfl
theorem gI_load {P : Program} {d : Option Nat} {K : St → Prop} {fr : List V} {σ : Store} {k : Option Nat} {a : O} : gI P ⟨d,[],.load k a⟩ K ⟨fr,σ⟩ = pI (pexec fr σ (.load k a)) d K fr σ := pI_eq rfl
theorem gI_nilck {P : Program} {d : Option Nat} {K : St → Prop} {fr : List V} {σ : Store} {x : O} : gI P ⟨d,[],.nilck x⟩ K ⟨fr,σ⟩ = pI (pexec fr σ (.nilck x)) d K fr σ := pI_eq rfl
theorem gI_bin {P : Program} {d : Option Nat} {K : St → Prop} {fr : List V} {σ : Store} {op : BinOp} {x y : O} : gI P ⟨d,[],.bin op x y⟩ K ⟨fr,σ⟩ = pI (pexec fr σ (.bin op x y)) d K fr σ := pI_eq rfl
theorem gI_beq {P : Program} {d : Option Nat} {K : St → Prop} {fr : List V} {σ : Store} {neg : Bool} {ks : List Nat} {x y : O} : gI P ⟨d,[],.beq neg ks x y⟩ K ⟨fr,σ⟩ = pI (pexec fr σ (.beq neg ks x y)) d K fr σ := pI_eq rfl
theorem gI_bbq {P : Program} {d : Option Nat} {K : St → Prop} {fr : List V} {σ : Store} {neg : Bool} {x y : O} : gI P ⟨d,[],.bbq neg x y⟩ K ⟨fr,σ⟩ = pI (pexec fr σ (.bbq neg x y)) d K fr σ := pI_eq rfl
theorem gI_un {P : Program} {d : Option Nat} {K : St → Prop} {fr : List V} {σ : Store} {op : UnOp} {x : O} : gI P ⟨d,[],.un op x⟩ K ⟨fr,σ⟩ = pI (pexec fr σ (.un op x)) d K fr σ := pI_eq rfl
theorem gI_cvi {P : Program} {d : Option Nat} {K : St → Prop} {fr : List V} {σ : Store} {k : IntKind} {x : O} : gI P ⟨d,[],.cvi k x⟩ K ⟨fr,σ⟩ = pI (pexec fr σ (.cvi k x)) d K fr σ := pI_eq rfl
theorem gI_b2s {P : Program} {d : Option Nat} {K : St → Prop} {fr : List V} {σ : Store} {x : O} : gI P ⟨d,[],.b2s x⟩ K ⟨fr,σ⟩ = pI (pexec fr σ (.b2s x)) d K fr σ := pI_eq rfl
theorem gI_slice {P : Program} {d : Option Nat} {K : St → Prop} {fr : List V} {σ : Store} {sz : Nat} {x : O} {lo hi : Option O} : gI P ⟨d,[],.slice sz x lo hi⟩ K ⟨fr,σ⟩ = pI (pexec fr σ (.slice sz x lo hi)) d K fr σ := pI_eq rfl
theorem gI_sslice {P : Program} {d : Option Nat} {K : St → Prop} {fr : List V} {σ : Store} {x : O} {lo hi : Option O} : gI P ⟨d,[],.sslice x lo hi⟩ K ⟨fr,σ⟩ = pI (pexec fr σ (.sslice x lo hi)) d K fr σ := pI_eq rfl
theorem gI_fld {P : Program} {d : Option Nat} {K : St → Prop} {fr : List V} {σ : Store} {off : Nat} {x : O} : gI P ⟨d,[],.fld off x⟩ K ⟨fr,σ⟩ = pI (pexec fr σ (.fld off x)) d K fr σ := pI_eq rfl
theorem gI_idx {P : Program} {d : Option Nat} {K : St → Prop} {fr : List V} {σ : Store} {sz : Nat} {x i : O} : gI P ⟨d,[],.idx sz x i⟩ K ⟨fr,σ⟩ = pI (pexec fr σ (.idx sz x i)) d K fr σ := pI_eq rfl
theorem gI_sidx {P : Program} {d : Option Nat} {K : St → Prop} {fr : List V} {σ : Store} {x i : O} : gI P ⟨d,[],.sidx x i⟩ K ⟨fr,σ⟩ = pI (pexec fr σ (.sidx x i)) d K fr σ := pI_eq rfl
theorem gI_ext {P : Program} {d : Option Nat} {K : St → Prop} {fr : List V} {σ : Store} {k : Nat} {x : O} : gI P ⟨d,[],.ext k x⟩ K ⟨fr,σ⟩ = pI (pexec fr σ (.ext k x)) d K fr σ := pI_eq rfl
theorem gI_len {P : Program} {d : Option Nat} {K : St → Prop} {fr : List V} {σ : Store} {str : Bool} {x : O} : gI P ⟨d,[],.len str x⟩ K ⟨fr,σ⟩ = pI (pexec fr σ (.len str x)) d K fr σ := pI_eq rfl
theorem gI_max2 {P : Program} {d : Option Nat} {K : St → Prop} {fr : List V} {σ : Store} {x y : O} : gI P ⟨d,[],.max2 x y⟩ K ⟨fr,σ⟩ = pI (pexec fr σ (.max2 x y)) d K fr σ := pI_eq rfl
theorem gI_min2 {P : Program} {d : Option Nat} {K : St → Prop} {fr : List V} {σ : Store} {x y : O} : gI P ⟨d,[],.min2 x y⟩ K ⟨fr,σ⟩ = pI (pexec fr σ (.min2 x y)) d K fr σ := pI_eq rfl
theorem gI_look {P : Program} {d : Option Nat} {K : St → Prop} {fr : List V} {σ : Store} {kd : Nat} {z : V} {ok : Bool} {m k : O} : gI P ⟨d,[],.look kd z ok m k⟩ K ⟨fr,σ⟩ = pI (pexec fr σ (.look kd z ok m k)) d K fr σ := pI_eq rfl
theorem gI_mlen {P : Program} {d : Option Nat} {K : St → Prop} {fr : List V} {σ : Store} {x : O} : gI P ⟨d,[],.mlen x⟩ K ⟨fr,σ⟩ = pI (pexec fr σ (.mlen x)) d K fr σ := pI_eq rfl
theorem gI_box {P : Program} {d : Option Nat} {K : St → Prop} {fr : List V} {σ : Store} {T : Nat} {x : O} : gI P ⟨d,[],.box T x⟩ K ⟨fr,σ⟩ = xI (xexec fr σ (.box T x)) d K fr := xI_eq rfl (by simp)
theorem gI_alloc {P : Program} {d : Option Nat} {K : St → Prop} {fr : List V} {σ : Store} {T : Nat} {zs : List V} : gI P ⟨d,[],.alloc T zs⟩ K ⟨fr,σ⟩ = xI (xexec fr σ (.alloc T zs)) d K fr := xI_eq rfl (by simp)
theorem gI_store {P : Program} {d : Option Nat} {K : St → Prop} {fr : List V} {σ : Store} {k : Nat} {szs : List (Option Nat)} {a x : O} : gI P ⟨d,[],.store k szs a x⟩ K ⟨fr,σ⟩ = xI (xexec fr σ (.store k szs a x)) d K fr := xI_eq rfl (by simp)
theorem gI_app {P : Program} {d : Option Nat} {K : St → Prop} {fr : List V} {σ : Store} {E sz by' : Nat} {x y : O} : gI P ⟨d,[],.app E sz by' x y⟩ K ⟨fr,σ⟩ = xI (xexec fr σ (.app E sz by' x y)) d K fr := xI_eq rfl (by simp)
theorem gI_apps {P : Program} {d : Option Nat} {K : St → Prop} {fr : List V} {σ : Store} {E : Nat} {x y : O} : gI P ⟨d,[],.apps E x y⟩ K ⟨fr,σ⟩ = xI (xexec fr σ (.apps E x y)) d K fr := xI_eq rfl (by simp)
theorem gI_mk {P : Program} {d : Option Nat} {K : St → Prop} {fr : List V} {σ : Store} {E sz by' : Nat} {zs : List V} {l c : O} : gI P ⟨d,[],.mk E sz by' zs l c⟩ K ⟨fr,σ⟩ = xI (xexec fr σ (.mk E sz by' zs l c)) d K fr := xI_eq rfl (by simp)
theorem gI_bown {P : Program} {d : Option Nat} {K : St → Prop} {fr : List V} {σ : Store} {E sz by' : Nat} {szs : List (Option Nat)} {xs : List O} : gI P ⟨d,[],.bown E sz by' szs xs⟩ K ⟨fr,σ⟩ = xI (xexec fr σ (.bown E sz by' szs xs)) d K fr := xI_eq rfl (by simp)
theorem gI_mkmap {P : Program} {d : Option Nat} {K : St → Prop} {fr : List V} {σ : Store} {T E : Nat} : gI P ⟨d,[],.mkmap T E⟩ K ⟨fr,σ⟩ = xI (xexec fr σ (.mkmap T E)) d K fr := xI_eq rfl (by simp)
theorem gI_mupd {P : Program} {d : Option Nat} {K : St → Prop} {fr : List V} {σ : Store} {kd : Nat} {szs : List (Option Nat)} {m k x : O} : gI P ⟨d,[],.mupd kd szs m k x⟩ K ⟨fr,σ⟩ = xI (xexec fr σ (.mupd kd szs m k x)) d K fr := xI_eq rfl (by simp)
def gX (p : Pi) (r : Option Bool) (K : St → Prop) (fr : List V) (σ : Store) : Prop :=
 match r with
 | none => False
 | some c => match p.i with
  | .load k a => match ev fr a with
   | .ptr _ _ => qI (pexec fr σ (.load k a)) c p.d K fr σ
   | _ => ∃ v,(c = true → ∃ ob,pexec fr σ (.load k a) = some (ob,v) ∧ ob) ∧ K ⟨setd fr p.d v,σ⟩
  | i => qI (pexec fr σ i) c p.d K fr σ
theorem gX_eq {P : Program} {p : Pi} {K : St → Prop} {fr : List V} {σ : Store} (hg : p.g ≠ []) (hc : ∀ f args,p.i ≠ .call f args) : gI P p K ⟨fr,σ⟩ = gX p (chainB fr p.g) K fr σ := by
 obtain ⟨d,g,i⟩ := p
 cases g with
 | nil => exact absurd rfl hg
 | cons q qs =>
  simp only [gI,gX]
  cases chainB fr (q :: qs) with
  | none => rfl
  | some c =>
   simp only [gstep]
   cases i <;> first | rfl | exact absurd rfl (hc _ _)
theorem gg_mov {P : Program} {d : Option Nat} {q : Nat × Bool} {qs : List (Nat × Bool)} {K : St → Prop} {fr : List V} {σ : Store} {x : O} : gI P ⟨d,q :: qs,.mov x⟩ K ⟨fr,σ⟩ = gX ⟨d,q :: qs,.mov x⟩ (chainB fr (q :: qs)) K fr σ := gX_eq (by simp) (by simp)
theorem gg_pick {P : Program} {d : Option Nat} {q : Nat × Bool} {qs : List (Nat × Bool)} {K : St → Prop} {fr : List V} {σ : Store} {c a b : O} : gI P ⟨d,q :: qs,.pick c a b⟩ K ⟨fr,σ⟩ = gX ⟨d,q :: qs,.pick c a b⟩ (chainB fr (q :: qs)) K fr σ := gX_eq (by simp) (by simp)
theorem gg_build {P : Program} {d : Option Nat} {q : Nat × Bool} {qs : List (Nat × Bool)} {K : St → Prop} {fr : List V} {σ : Store} {zs : List V} {ps : List (Nat × Nat × O)} : gI P ⟨d,q :: qs,.build zs ps⟩ K ⟨fr,σ⟩ = gX ⟨d,q :: qs,.build zs ps⟩ (chainB fr (q :: qs)) K fr σ := gX_eq (by simp) (by simp)
theorem gg_bslice {P : Program} {d : Option Nat} {q : Nat × Bool} {qs : List (Nat × Bool)} {K : St → Prop} {fr : List V} {σ : Store} {sz : Nat} {szs : List (Option Nat)} {xs : List O} : gI P ⟨d,q :: qs,.bslice sz szs xs⟩ K ⟨fr,σ⟩ = gX ⟨d,q :: qs,.bslice sz szs xs⟩ (chainB fr (q :: qs)) K fr σ := gX_eq (by simp) (by simp)
theorem gg_load {P : Program} {d : Option Nat} {q : Nat × Bool} {qs : List (Nat × Bool)} {K : St → Prop} {fr : List V} {σ : Store} {k : Option Nat} {a : O} : gI P ⟨d,q :: qs,.load k a⟩ K ⟨fr,σ⟩ = gX ⟨d,q :: qs,.load k a⟩ (chainB fr (q :: qs)) K fr σ := gX_eq (by simp) (by simp)
theorem gg_nilck {P : Program} {d : Option Nat} {q : Nat × Bool} {qs : List (Nat × Bool)} {K : St → Prop} {fr : List V} {σ : Store} {x : O} : gI P ⟨d,q :: qs,.nilck x⟩ K ⟨fr,σ⟩ = gX ⟨d,q :: qs,.nilck x⟩ (chainB fr (q :: qs)) K fr σ := gX_eq (by simp) (by simp)
theorem gg_bin {P : Program} {d : Option Nat} {q : Nat × Bool} {qs : List (Nat × Bool)} {K : St → Prop} {fr : List V} {σ : Store} {op : BinOp} {x y : O} : gI P ⟨d,q :: qs,.bin op x y⟩ K ⟨fr,σ⟩ = gX ⟨d,q :: qs,.bin op x y⟩ (chainB fr (q :: qs)) K fr σ := gX_eq (by simp) (by simp)
theorem gg_beq {P : Program} {d : Option Nat} {q : Nat × Bool} {qs : List (Nat × Bool)} {K : St → Prop} {fr : List V} {σ : Store} {neg : Bool} {ks : List Nat} {x y : O} : gI P ⟨d,q :: qs,.beq neg ks x y⟩ K ⟨fr,σ⟩ = gX ⟨d,q :: qs,.beq neg ks x y⟩ (chainB fr (q :: qs)) K fr σ := gX_eq (by simp) (by simp)
theorem gg_bbq {P : Program} {d : Option Nat} {q : Nat × Bool} {qs : List (Nat × Bool)} {K : St → Prop} {fr : List V} {σ : Store} {neg : Bool} {x y : O} : gI P ⟨d,q :: qs,.bbq neg x y⟩ K ⟨fr,σ⟩ = gX ⟨d,q :: qs,.bbq neg x y⟩ (chainB fr (q :: qs)) K fr σ := gX_eq (by simp) (by simp)
theorem gg_un {P : Program} {d : Option Nat} {q : Nat × Bool} {qs : List (Nat × Bool)} {K : St → Prop} {fr : List V} {σ : Store} {op : UnOp} {x : O} : gI P ⟨d,q :: qs,.un op x⟩ K ⟨fr,σ⟩ = gX ⟨d,q :: qs,.un op x⟩ (chainB fr (q :: qs)) K fr σ := gX_eq (by simp) (by simp)
theorem gg_cvi {P : Program} {d : Option Nat} {q : Nat × Bool} {qs : List (Nat × Bool)} {K : St → Prop} {fr : List V} {σ : Store} {k : IntKind} {x : O} : gI P ⟨d,q :: qs,.cvi k x⟩ K ⟨fr,σ⟩ = gX ⟨d,q :: qs,.cvi k x⟩ (chainB fr (q :: qs)) K fr σ := gX_eq (by simp) (by simp)
theorem gg_b2s {P : Program} {d : Option Nat} {q : Nat × Bool} {qs : List (Nat × Bool)} {K : St → Prop} {fr : List V} {σ : Store} {x : O} : gI P ⟨d,q :: qs,.b2s x⟩ K ⟨fr,σ⟩ = gX ⟨d,q :: qs,.b2s x⟩ (chainB fr (q :: qs)) K fr σ := gX_eq (by simp) (by simp)
theorem gg_slice {P : Program} {d : Option Nat} {q : Nat × Bool} {qs : List (Nat × Bool)} {K : St → Prop} {fr : List V} {σ : Store} {sz : Nat} {x : O} {lo hi : Option O} : gI P ⟨d,q :: qs,.slice sz x lo hi⟩ K ⟨fr,σ⟩ = gX ⟨d,q :: qs,.slice sz x lo hi⟩ (chainB fr (q :: qs)) K fr σ := gX_eq (by simp) (by simp)
theorem gg_sslice {P : Program} {d : Option Nat} {q : Nat × Bool} {qs : List (Nat × Bool)} {K : St → Prop} {fr : List V} {σ : Store} {x : O} {lo hi : Option O} : gI P ⟨d,q :: qs,.sslice x lo hi⟩ K ⟨fr,σ⟩ = gX ⟨d,q :: qs,.sslice x lo hi⟩ (chainB fr (q :: qs)) K fr σ := gX_eq (by simp) (by simp)
theorem gg_fld {P : Program} {d : Option Nat} {q : Nat × Bool} {qs : List (Nat × Bool)} {K : St → Prop} {fr : List V} {σ : Store} {off : Nat} {x : O} : gI P ⟨d,q :: qs,.fld off x⟩ K ⟨fr,σ⟩ = gX ⟨d,q :: qs,.fld off x⟩ (chainB fr (q :: qs)) K fr σ := gX_eq (by simp) (by simp)
theorem gg_idx {P : Program} {d : Option Nat} {q : Nat × Bool} {qs : List (Nat × Bool)} {K : St → Prop} {fr : List V} {σ : Store} {sz : Nat} {x i : O} : gI P ⟨d,q :: qs,.idx sz x i⟩ K ⟨fr,σ⟩ = gX ⟨d,q :: qs,.idx sz x i⟩ (chainB fr (q :: qs)) K fr σ := gX_eq (by simp) (by simp)
theorem gg_sidx {P : Program} {d : Option Nat} {q : Nat × Bool} {qs : List (Nat × Bool)} {K : St → Prop} {fr : List V} {σ : Store} {x i : O} : gI P ⟨d,q :: qs,.sidx x i⟩ K ⟨fr,σ⟩ = gX ⟨d,q :: qs,.sidx x i⟩ (chainB fr (q :: qs)) K fr σ := gX_eq (by simp) (by simp)
theorem gg_ext {P : Program} {d : Option Nat} {q : Nat × Bool} {qs : List (Nat × Bool)} {K : St → Prop} {fr : List V} {σ : Store} {k : Nat} {x : O} : gI P ⟨d,q :: qs,.ext k x⟩ K ⟨fr,σ⟩ = gX ⟨d,q :: qs,.ext k x⟩ (chainB fr (q :: qs)) K fr σ := gX_eq (by simp) (by simp)
theorem gg_len {P : Program} {d : Option Nat} {q : Nat × Bool} {qs : List (Nat × Bool)} {K : St → Prop} {fr : List V} {σ : Store} {str : Bool} {x : O} : gI P ⟨d,q :: qs,.len str x⟩ K ⟨fr,σ⟩ = gX ⟨d,q :: qs,.len str x⟩ (chainB fr (q :: qs)) K fr σ := gX_eq (by simp) (by simp)
theorem gg_max2 {P : Program} {d : Option Nat} {q : Nat × Bool} {qs : List (Nat × Bool)} {K : St → Prop} {fr : List V} {σ : Store} {x y : O} : gI P ⟨d,q :: qs,.max2 x y⟩ K ⟨fr,σ⟩ = gX ⟨d,q :: qs,.max2 x y⟩ (chainB fr (q :: qs)) K fr σ := gX_eq (by simp) (by simp)
theorem gg_min2 {P : Program} {d : Option Nat} {q : Nat × Bool} {qs : List (Nat × Bool)} {K : St → Prop} {fr : List V} {σ : Store} {x y : O} : gI P ⟨d,q :: qs,.min2 x y⟩ K ⟨fr,σ⟩ = gX ⟨d,q :: qs,.min2 x y⟩ (chainB fr (q :: qs)) K fr σ := gX_eq (by simp) (by simp)
theorem gg_look {P : Program} {d : Option Nat} {q : Nat × Bool} {qs : List (Nat × Bool)} {K : St → Prop} {fr : List V} {σ : Store} {kd : Nat} {z : V} {ok : Bool} {m k : O} : gI P ⟨d,q :: qs,.look kd z ok m k⟩ K ⟨fr,σ⟩ = gX ⟨d,q :: qs,.look kd z ok m k⟩ (chainB fr (q :: qs)) K fr σ := gX_eq (by simp) (by simp)
theorem gg_mlen {P : Program} {d : Option Nat} {q : Nat × Bool} {qs : List (Nat × Bool)} {K : St → Prop} {fr : List V} {σ : Store} {x : O} : gI P ⟨d,q :: qs,.mlen x⟩ K ⟨fr,σ⟩ = gX ⟨d,q :: qs,.mlen x⟩ (chainB fr (q :: qs)) K fr σ := gX_eq (by simp) (by simp)
theorem call_eq {P : Program} {d : Option Nat} {f : Nat} {args : List O} {K : St → Prop} {fr : List V} {σ σ1 : Store} {as : List V} {v : V} (h : PC P f as σ (fun r σ' => r = v ∧ σ' = σ1)) (ha : args.map (ev fr) = as) (hK : K ⟨setd fr d v,σ1⟩) :
  gI P ⟨d,[],.call f args⟩ K ⟨fr,σ⟩ := by
 subst ha
 exact h.mono fun r σ' ⟨e1,e2⟩ => by subst e1; subst e2; exact hK
theorem call_ex {P : Program} {d : Option Nat} {f : Nat} {args : List O} {K : St → Prop} {fr : List V} {σ : Store} {as : List V} {Q : V → Store → Prop} (h : PC P f as σ Q) (ha : args.map (ev fr) = as) (hK : ∀ r σ',Q r σ' → K ⟨setd fr d r,σ'⟩) :
  gI P ⟨d,[],.call f args⟩ K ⟨fr,σ⟩ := by
 subst ha
 exact h.mono hK
theorem callg_eq {P : Program} {d : Option Nat} {q : Nat × Bool} {qs : List (Nat × Bool)} {f : Nat} {args : List O} {K : St → Prop} {fr : List V} {σ : Store} {as : List V} {v : V} {c : Bool} (hc : chainB fr (q :: qs) = some c) (h : c = true → PC P f as σ (fun r σ' => r = v ∧ σ' = σ)) (ha : args.map (ev fr) = as) (hK : K ⟨setd fr d v,σ⟩) :
  gI P ⟨d,q :: qs,.call f args⟩ K ⟨fr,σ⟩ := by
 subst ha
 simp only [gI,hc,gstep]
 exact ⟨fun hc => (h hc).mono fun r' σ' ⟨e1,e2⟩ => by subst e1; subst e2; exact hK,fun _ => ⟨v,hK⟩⟩
theorem callg_ex {P : Program} {d : Option Nat} {q : Nat × Bool} {qs : List (Nat × Bool)} {f : Nat} {args : List O} {K : St → Prop} {fr : List V} {σ : Store} {as : List V} {Q : V → Store → Prop} {c : Bool} (hc : chainB fr (q :: qs) = some c) (h : c = true → PC P f as σ Q) (ha : args.map (ev fr) = as)
  (hK : c = true → ∀ r σ',Q r σ' → K ⟨setd fr d r,σ'⟩) (hN : c = false → ∃ v,K ⟨setd fr d v,σ⟩) : gI P ⟨d,q :: qs,.call f args⟩ K ⟨fr,σ⟩ := by
 subst ha
 simp only [gI,hc,gstep]
 exact ⟨fun hc => (h hc).mono (hK hc),hN⟩
def chkK (P : Program) (chk : List Pi) (ds : List (List Pi × Pi × List Pi)) (last : List Pi) (K : St → Prop) (st : St) : Prop := (∀ p ∈ chk,chkF p st) ∧ runD P ds last K st
theorem runD_nil {P : Program} {last : List Pi} {K : St → Prop} {st : St} : runD P [] last K st = runC P [] last K st := rfl
theorem runD_cons {P : Program} {sil : List Pi} {L : Pi} {chk : List Pi} {ds : List (List Pi × Pi × List Pi)} {last : List Pi} {K : St → Prop} {st : St} :
  runD P ((sil,L,chk) :: ds) last K st = runC P [] sil (gI P L (chkK P chk ds last K)) st := rfl
theorem runC_nil {P : Program} {gs : List Nat} {K : St → Prop} {fr : List V} {σ : Store} : runC P gs [] K ⟨fr,σ⟩ = K ⟨clr gs fr,σ⟩ := rfl
theorem runC_cons {P : Program} {gs : List Nat} {p : Pi} {ps : List Pi} {K : St → Prop} {fr : List V} {σ : Store} : runC P gs (p :: ps) K ⟨fr,σ⟩ = gI P p (runC P gs ps K) ⟨fr,σ⟩ := rfl
theorem base_get0 {σ l : Store} : (σ ++ l)[σ.length]? = l[0]? := by rw [List.getElem?_append_right (Nat.le_refl _),Nat.sub_self]
theorem base_get {σ l : Store} {k : Nat} : (σ ++ l)[σ.length + k]? = l[k]? := by rw [List.getElem?_append_right (Nat.le_add_right _ _),Nat.add_sub_cancel_left]
theorem base_set0 {σ l : Store} {x : Ob} : (σ ++ l).set σ.length x = σ ++ l.set 0 x := by rw [List.set_append_right _ _ (Nat.le_refl _),Nat.sub_self]
theorem base_set {σ l : Store} {k : Nat} {x : Ob} : (σ ++ l).set (σ.length + k) x = σ ++ l.set k x := by
 rw [List.set_append_right _ _ (Nat.le_add_right _ _),Nat.add_sub_cancel_left]
theorem base_len {σ l : Store} : (σ ++ l).length = σ.length + l.length := List.length_append
def fz1 (id g sz : Nat) (rows : List (List V)) : V → V
 | .own id' g' => if id' = id ∧ g' = g then .sl sz rows else .own id' g'
 | .sub id' g' lo hi => if id' = id ∧ g' = g then .sl sz ((rows.drop lo).take (hi - lo)) else .sub id' g' lo hi
 | x => x
def fz (id g sz : Nat) (rows : List (List V)) : V → V
 | .agg xs => .agg (xs.map (fz1 id g sz rows))
 | x => fz1 id g sz rows x
theorem fz1_ok {P : Program} {B : Nat} {w0 w : World} {σ : Store} {μ : Mem} (hS : Sim P B w0 w σ μ) {id E sz by' g : Nat} {rows : List (List V)} (ho : σ[id]? = some (.row E sz by' g true rows)) {x : V} {v : Value} (h : VR w σ μ x v) :
  VR w σ μ (fz1 id g sz rows x) v := by
 unfold fz1
 split
 ·split
  ·rename_i e
   obtain ⟨rfl,rfl⟩ := e
   rw [h.inv_own ho]
   have := VR.ofShared hS ho 0 rows.length (by omega) (Nat.le_refl _)
   rw [subv_all hS ho] at this
   simpa using this
  ·exact h
 ·split
  ·rename_i e
   obtain ⟨rfl,rfl⟩ := e
   obtain ⟨h1,h2,h3⟩ := h.inv_sub ho
   rw [h3]
   exact VR.ofShared hS ho _ _ h1 h2
  ·exact h
 ·exact h
theorem fz_ok {P : Program} {B : Nat} {w0 w : World} {σ : Store} {μ : Mem} (hS : Sim P B w0 w σ μ) {id E sz by' g : Nat} {rows : List (List V)} (ho : σ[id]? = some (.row E sz by' g true rows)) {x : V} {v : Value} (h : VR w σ μ x v) :
  VR w σ μ (fz id g sz rows x) v := by
 unfold fz
 split
 ·rename_i xs
  obtain ⟨vs,rfl,h1,h2⟩ := h.inv_agg
  refine .agg _ _ (by simpa using h1) fun i y hy => ?_
  rw [List.getElem?_map,Option.map_eq_some_iff] at hy
  obtain ⟨z,hz,rfl⟩ := hy
  exact fz1_ok hS ho (h2 i z hz)
 ·exact fz1_ok hS ho h
theorem Wk.fz {P : Program} {n : Nat} {xs : List V} {σ : Store} (id : Nat) {E sz by' g : Nat} {sh : Bool} {rows : List (List V)} (ho : σ[id]? = some (.row E sz by' g sh rows)) :
  Wk P n xs σ (xs.map (Pm.fz id g sz rows)) (σ.set id (.row E sz by' g true rows)) := by
 refine Wk.trans (Wk.share ho) ?_
 have hlt : id < σ.length := (List.getElem?_eq_some_iff.1 ho).1
 intro B w0 w μ vs hS hC
 refine ⟨μ,hS,⟨by simp [hC.1],fun i y hy => ?_⟩,KeepN.refl _ _ _ _⟩
 rw [List.getElem?_map,Option.map_eq_some_iff] at hy
 obtain ⟨z,hz,rfl⟩ := hy
 exact fz_ok hS (by rw [List.getElem?_set_self hlt]) (hC.2 i z hz)
theorem Wk.one {P : Program} {n : Nat} {xs xs' : List V} {σ σ' : Store} (h : Wk P n xs σ xs' σ') (hl : xs'.length = xs.length) : Wk P n [Pm.one xs] σ [Pm.one xs'] σ' := by
 intro B w0 w μ vs hS hC
 have h0 := hC.2 0 _ rfl
 have fin : ∀ {w' : World} {ys : List V} {us : Array Value} {μ' : Mem},CR w' σ' μ' ys us → ys.length ≠ 1 → VR w' σ' μ' (Pm.one ys) (.tuple us) := by
  intro w' ys us μ' h1 h2
  match ys,h1,h2 with
  | [],h1,_ => exact .tup _ _ h1.1 h1.2
  | x :: y :: ys,h1,_ => exact .tup _ _ h1.1 h1.2
  | [x],_,h2 => exact absurd rfl h2
 by_cases h1 : xs.length = 1
 ·match xs,h1,h,hl,h0 with
  | [x],_,h,hl,h0 =>
   match xs',hl,h with
   | [x'],_,h =>
    exact h B w0 w μ vs hS ⟨hC.1,fun i y hy => hC.2 i y hy⟩
 ·have hx : Pm.one xs = .tup xs := by
   match xs,h1 with
   | [],_ => rfl
   | x :: y :: xs,_ => rfl
   | [x],h1 => exact absurd rfl h1
  rw [hx] at h0
  obtain ⟨us,hv,h2,h3⟩ := h0.inv_tup
  obtain ⟨μ',h4,h5,h6⟩ := h B w0 w μ us hS ⟨h2,h3⟩
  refine ⟨μ',h4,⟨hC.1,fun i y hy => ?_⟩,h6⟩
  cases i with
  | zero =>
   simp only [List.getElem?_cons_zero,Option.some.injEq] at hy
   subst hy
   rw [hv]
   exact fin h5 (by rw [hl]; exact h1)
  | succ i => simp at hy
theorem ret_wk {P : Program} {n : Nat} {rs : List Rs} {Q : V → Store → Prop} {e : Exit} {st : St} {xs xs' : List V} {σ' : Store} (he : e = .normal ∨ e = .ret) (hx : resVs st rs = some xs) (hw : Wk P n xs st.σ xs' σ') (hl : xs'.length = xs.length) (hQ : Q (one xs') σ') :
  retK P n rs Q e st := ⟨he,xs,hx,_,_,hw.one hl,hQ⟩
def AllLt (m : Nat) : List V → Prop
 | [] => True
 | x :: xs => x.Lt m ∧ AllLt m xs
theorem allLt_iff {m : Nat} : ∀ {xs : List V},AllLt m xs ↔ ∀ (i : Nat) (x : V),xs[i]? = some x → x.Lt m
 | [] => by simp [AllLt]
 | y :: xs => by
  rw [AllLt,allLt_iff]
  constructor
  ·rintro ⟨h1,h2⟩ i x hx
   cases i with
   | zero => simp only [List.getElem?_cons_zero,Option.some.injEq] at hx; subst hx; exact h1
   | succ i => exact h2 i x (by simpa using hx)
  ·intro h
   exact ⟨h 0 y rfl,fun i x hx => h (i + 1) x (by simpa using hx)⟩
section
variable {m : Nat}
theorem lt_u : V.u.Lt m ↔ True := ⟨fun _ => trivial,fun _ => .u⟩
theorem lt_b {x} : (V.b x).Lt m ↔ True := ⟨fun _ => trivial,fun _ => .b _⟩
theorem lt_i {k a} : (V.i k a).Lt m ↔ True := ⟨fun _ => trivial,fun _ => .i _ _⟩
theorem lt_s {l} : (V.s l).Lt m ↔ True := ⟨fun _ => trivial,fun _ => .s _⟩
theorem lt_nil : V.nil.Lt m ↔ True := ⟨fun _ => trivial,fun _ => .nil⟩
theorem lt_lit {sz xs} : (V.lit sz xs).Lt m ↔ True := ⟨fun _ => trivial,fun _ => .lit _ _⟩
theorem lt_sl {sz xs} : (V.sl sz xs).Lt m ↔ True := ⟨fun _ => trivial,fun _ => .sl _ _⟩
theorem lt_ep {sz xs i o} : (V.ep sz xs i o).Lt m ↔ True := ⟨fun _ => trivial,fun _ => .ep _ _ _ _⟩
theorem lt_nilmap : V.nilmap.Lt m ↔ True := ⟨fun _ => trivial,fun _ => .nilmap⟩
theorem lt_nilptr : V.nilptr.Lt m ↔ True := ⟨fun _ => trivial,fun _ => .nilptr⟩
theorem lt_own {id g} : (V.own id g).Lt m ↔ id < m := ⟨fun h => by cases h; assumption,fun h => .own _ _ h⟩
theorem lt_sub {id g lo hi} : (V.sub id g lo hi).Lt m ↔ id < m := ⟨fun h => by cases h; assumption,fun h => .sub _ _ _ _ h⟩
theorem lt_ptr {id o} : (V.ptr id o).Lt m ↔ id < m := ⟨fun h => by cases h; assumption,fun h => .ptr _ _ h⟩
theorem lt_rp {id g i o} : (V.rp id g i o).Lt m ↔ id < m := ⟨fun h => by cases h; assumption,fun h => .rp _ _ _ _ h⟩
theorem lt_mp {id} : (V.mp id).Lt m ↔ id < m := ⟨fun h => by cases h; assumption,fun h => .mp _ h⟩
theorem lt_agg {xs} : (V.agg xs).Lt m ↔ AllLt m xs := by
 rw [allLt_iff]; exact ⟨fun h => by cases h; assumption,fun h => .agg _ h⟩
theorem lt_tup {xs} : (V.tup xs).Lt m ↔ AllLt m xs := by
 rw [allLt_iff]; exact ⟨fun h => by cases h; assumption,fun h => .tup _ h⟩
end
theorem Wk.end0 {P : Program} {xs : List V} {σ loc : Store} (hcl : Closed σ) (hx : AllLt σ.length xs) : Wk P σ.length xs (σ ++ loc) xs σ := Wk.drop0 (Nat.le_refl _) hcl (allLt_iff.1 hx)
theorem ret_end {P : Program} {rs : List Rs} {Q : V → Store → Prop} {e : Exit} {fr : List V} {σ loc : Store} {xs : List V} (hcl : Closed σ) (he : e = .normal ∨ e = .ret) (hx : resVs ⟨fr,σ ++ loc⟩ rs = some xs) (hl : AllLt σ.length xs) (hQ : Q (one xs) σ) :
  retK P σ.length rs Q e ⟨fr,σ ++ loc⟩ := ret_wk he hx (Wk.end0 hcl hl) rfl hQ
theorem ret_cvs {P : Program} {rs : List Rs} {Q : V → Store → Prop} {e : Exit} {fr : List V} {σ loc : Store} {xs ys : List V} (hcl : Closed σ) (he : e = .normal ∨ e = .ret) (hx : resVs ⟨fr,σ ++ loc⟩ rs = some xs) (hc : Cvs xs ys) (hl : AllLt σ.length ys) (hQ : Q (one ys) σ) :
  retK P σ.length rs Q e ⟨fr,σ ++ loc⟩ := ret_wk he hx ((Wk.cvs hc).trans (Wk.end0 hcl hl)) hc.at.1 hQ
end Go.Pm

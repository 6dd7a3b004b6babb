/- A part of the proof of the statement of the last text of this claim: for every two lists of integers ReplicaCommutes returns true and leaves the memory as it was. -/
import Derived.Laws.CopyRow
import Derived.Shelf.Spec.SlicesInsertGrow
import Derived.Test.YtbfoheefppnnpaaGreatDoorV19
set_option linter.all false

namespace Go.Pm
open Go Go.RowKit
theorem run_copyK {P:Program} (w:World) (dT sT ty elem:TypeId) (g o dLen dCap:Nat) (a:Addr) (sLen sCap:Nat) (cur:Array Value) (t:TypeId) (cs:List Value) (k:Nat)
  (hu:P.underlying dT=some (.slice elem)) (hs:(P.info? elem).map (·.size)=some k)
  (hg:w.heap[g]?=some (.cells cur t (0,0))) (hn:cs.length=Nat.min sLen dLen*k)
  (hsrc:∀ j v,cs[j]?=some v→w.cell? (a.add j)=some v) (hfit:o+cs.length≤cur.size) (h1:∀ v∈cs,v.oneCell'=true) :
  (Builtin.copy_ #[dT,sT] ty #[.slice (some ⟨g,o,none⟩) dLen dCap,.slice (some a) sLen sCap]).run P w =
   .ok (goInt (Nat.min sLen dLen:Nat)) (w.setRow g (cur.toList.take o++cs++cur.toList.drop (o+cs.length)).toArray):=by
 have hl:=run_loadCells_list (P:=P) w a cs hsrc
 have hst:=run_storeCells_at P g o t cs 0 cur w hg (by simpa using hfit) h1
 cases hq:P.info? elem with
 | none=>simp [hq] at hs
 | some i =>
  have hi:i.size=k:=by simpa [hq] using hs
  simp [Builtin.copy_,run_underlying hu,Builtin.lenOf,Builtin.firstCells,sizeOf,typeInfo,hq,hi,← hn,hl,hst]
theorem PC.ofUpd {P:Program} {f:Nat} {args:List V} {σ:Store} {id E sz by' g:Nat} {xs xs':List (List V)} (hb:σ[id]?=some (.row E sz by' g false xs))
  (h:∀ (B:Nat) (w0 w:World) (μ:Mem) (vs:Array Value),Sim P B w0 w σ μ→VRs w σ μ args vs→Calls P f vs w fun e w'=>∃ v' vals',e=.returned v'∧w.grownBy w' (blk (μ id))∧(∀ b,blk v'=some b→blk (μ id)=some b∨w.heap.size≤b)∧w'.ownsRow B E sz v' xs'.length vals'∧RowR w σ μ xs' sz vals') :
  PC P f args σ (fun r σ'=>r=.own id (g+1)∧σ'=σ.set id (.row E sz by' (g+1) false xs')):=by
 intro B w0 w μ vs hS hv
 refine (h B w0 w μ vs hS hv).mono ?_
 rintro e w' ⟨v',vals',rfl,hg,hnew,hown,hrow⟩
 have hlt:id<σ.length:=(List.getElem?_eq_some_iff.1 hb).1
 have hn:=hS.grow hb (sh':=false) (xs':=xs') (v':=v') (vals:=[]) (vals':=vals') hg hnew (fun b _ j u h=>by simp at h) (.inr rfl) (fun h=>by simp at h) (fun h=>by simp at h) hown (fun σ' μ' k=>hrow.keep k)
 have:=VR.ownNow (w:=w') (σ:=σ.set id (.row E sz by' (g+1) false xs')) (μ:=upd μ id v') (id:=id) (E:=E) (sz:=sz) (by':=by') (g:=g+1) (sh:=false) (xs:=xs') (List.getElem?_set_self hlt)
 rw [upd_same] at this
 exact ⟨_,v',_,_,rfl,⟨rfl,rfl⟩,hn.1,this,hn.2.keep⟩
theorem RowR.one {P:Program} {B:Nat} {w0 w:World} {σ:Store} {μ:Mem} (hS:Sim P B w0 w σ μ) {xs:List (List V)} {sz:Nat} {vals:List Value} (h:RowR w σ μ xs sz vals) (hl:vals.length=xs.length*sz):∀ v∈vals,v.oneCell'=true:=by
 intro v hv
 obtain ⟨k,hk⟩:=List.mem_iff_getElem?.1 hv
 have hkl:k<xs.length*sz:=by rw [← hl];exact (List.getElem?_eq_some_iff.1 hk).1
 have hs:0<sz:=Nat.pos_of_mul_pos_left (Nat.lt_of_le_of_lt (Nat.zero_le _) hkl)
 have h1:k / sz<xs.length:=Nat.div_lt_of_lt_mul (by rw [Nat.mul_comm];exact hkl)
 obtain ⟨x,hx⟩:=rows_flat h.1 h1 (Nat.mod_lt k hs)
 obtain ⟨h2,u,h3,h4⟩:=h.2 _ _ _ hx
 have e:k / sz*sz+k % sz=k:=by have:=Nat.div_add_mod k sz;rw [Nat.mul_comm] at this;exact this
 rw [e,hk] at h3
 simp only [Option.some.injEq] at h3
 subst h3
 exact (cellOK_one hS h4 (pure_cellOK h2)).1
end Go.Pm

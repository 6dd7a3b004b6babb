/- A part of the proof of the statement of the last text of this claim: for every two lists of integers ReplicaCommutes returns true and leaves the memory as it was. -/
import Derived.Test.YtbfoheefppnnpaaGreatDoorV29
import Derived.Test.YtbfoheefppnnpaaGreatDoorV30
set_option linter.all false

namespace Go.Proofs.Tryz
open Go Go.Pm Go.Bt Go.RowKit Go.Maps Go.Sort Go.Shelf
theorem infoStr:(Tryz.prog.info? 9).map (fun i=>(i.zero.map (fun z=>z.cells.size),i.size,i.bytes))=some (some 1,1,16):=by kernel_rfl
theorem mapsKeys_pc (id:Nat) (σ:Store):PC Tryz.prog 101 [.mp id] σ (fun r σ'=>r=.fn 143 [.ptr σ.length 0]∧σ'=σ++[.box 135 [.mp id]]):=by
 intro B w0 w μ vs hS hv
 have h0:=hv.2 0 _ rfl
 have e:vs=#[vs.getD 0 undef]:=vs1 hv.1
 obtain ⟨r,hm,hv0⟩:∃ r,μ id=.map (some r)∧vs.getD 0 undef=.map (some r):=by
  generalize vs.getD 0 undef=v at h0
  cases h0 with
  | mp _ r h hm=>exact ⟨r,hm,rfl⟩
 rw [hv0] at h0
 rw [e,hv0]
 refine ((callsIn_wide (n:=5)).1 (AnyZ.keys_in Tryz.keys46 Fence.wide 5 trivial rfl (some r) w)).mono ?_
 rintro e w' ⟨rfl,rfl⟩
 have hn:=hS.newOb (w':=w.alloc (.cells #[.map (some r)] 135)) (.box 135 [.mp id]) (.pointer (some ⟨w.heap.size,0,none⟩)) (grownBy_of_below ((Below.refl _ w).alloc (Nat.le_refl _) _))
  (fun b hb=>by simp only [blk,Option.some.injEq] at hb;omega)
  (fun hp=>⟨w.heap.size,#[.map (some r)],rfl,hS.base,(show (w.heap.push (Obj.cells #[.map (some r)] 135))[w.heap.size]?=_ by simp),rfl,fun j x hx=>by
   cases j with
   | zero=>simp only [List.getElem?_cons_zero,Option.some.injEq] at hx;subst hx;exact ⟨_,rfl,h0.mono hp⟩
   | succ j=>simp at hx⟩)
 refine ⟨_,_,_,_,rfl,⟨rfl,rfl⟩,hn.1,?_,hn.2.keep⟩
 refine .fn _ _ _ rfl fun i x hx=>?_
 cases i with
 | zero =>
  simp only [List.getElem?_cons_zero,Option.some.injEq] at hx
  subst hx
  exact .ptr _ _ w.heap.size ⟨135,[.mp id],by simp⟩ (by rw [upd_same])
 | succ i=>simp at hx
set_option maxHeartbeats 1000000 in
theorem sortedKeys_own {β:Type} {ve:β→V} {id k E:Nat} {l:List (List UInt8×β)} {σ:Store} (hk:σ[k]?=some (.box 135 [.mp id])) (hid:σ[id]?=some (.map 9 E (emap keS ve l)))
  (hd:(l.map (·.1)).Nodup) (hl:l.length<2^40) :
  PC Tryz.prog 100 [.fn 143 [.ptr k 0]] σ (fun r σ'=>r=.own σ.length 0∧σ'=σ++[.row 9 1 16 0 false (((l.map (·.1)).mergeSort Bt.leB).map sRow)]):=by
 obtain ⟨i,z,hi,hz,h1,h2,h3⟩:=info_of infoStr
 refine PC.ofRow ⟨by decide,i,z,hi,hz,h1,h2,h3⟩ fun B w0 w μ vs hS hv=>?_
 have hstr:Tryz.prog.underlying 9=some .string:=by kernel_rfl
 obtain ⟨b,D,hm,hown,hsz,hperm⟩:=map_owns hS hid hstr hd (by simp only [maxLen];omega)
 have h0:=hv.2 0 _ rfl
 have e:vs=#[vs.getD 0 undef]:=vs1 hv.1
 obtain ⟨bk,hbk,hv0⟩:∃ bk,μ k=.pointer (some ⟨bk,0,none⟩)∧vs.getD 0 undef=.func (.func 143) #[] #[.pointer (some ⟨bk,0,none⟩)]:=by
  generalize vs.getD 0 undef=v at h0
  cases h0 with
  | fn _ _ us hl hu =>
   have h4:=hu 0 _ rfl
   have e2:us=#[us.getD 0 undef]:=vs1 (by simpa using hl.symm)
   generalize hg:us.getD 0 undef=u at h4 e2
   cases h4 with
   | ptr _ _ bk h hm=>exact ⟨bk,hm,by rw [e2]⟩
 rw [e,hv0]
 obtain ⟨b',cs,hm',hB,hh,hcs,hcv⟩:=hS.boxAt hk
 rw [hbk] at hm'
 simp only [Value.pointer.injEq,Option.some.injEq,Addr.mk.injEq,and_true] at hm'
 subst hm'
 have hcell:w.cell? ⟨bk,0,none⟩=some (.map (some b)):=by
  obtain ⟨u,hu1,hu2⟩:=hcv 0 _ rfl
  have:u=.map (some b):=by
   cases hu2 with
   | mp _ r h hm2=>rw [hm] at hm2;exact hm2.symm
  rw [this] at hu1
  exact hu1
 have hbl:bk<w.heap.size:=(Array.getElem?_eq_some_iff.1 hh).1
 have hseq:SeqGives Fence.wide 2 Tryz.prog 143 #[.pointer (some ⟨bk,0,none⟩)] encStr (fun ss=>ss.Perm (strKeys D)) (Maps.size D) w :=
  AnyZ.keys_gives (ρ:=Tryz.keys46_ren) { Tryz.keys46 with } Fence.wide _ trivial rfl (by omega) bk b _ D w hbl hcell hown
 have hS2:=AnyZ.sorted_in Tryz.sorted45 Fence.wide 5 trivial trivial trivial trivial rfl (by omega) (Tryz.sorts45 _) (enters_of Tryz.func142 (by kernel_rfl) rfl) 143 #[.pointer (some ⟨bk,0,none⟩)] trivial (enters_of Tryz.func143 (by kernel_rfl) rfl) _ _
  (by rw [hsz];simp only [maxLen];omega) (by rw [hsz];omega) w hseq
 refine ((callsIn_wide (n:=5)).1 hS2).mono ?_
 rintro e w' ⟨v,ss,rfl,hp,hrow,_,hb⟩
 have hkeys:ss.Perm (l.map (·.1)):=hp.trans hperm
 have hms:(ss.mergeSort fun x y=>decide (x≤y))=(l.map (·.1)).mergeSort Bt.leB:=mergeSort_of_perm hkeys
 rw [hms] at hrow
 have hlen:(((l.map (·.1)).mergeSort Bt.leB).map sRow).length=ss.length:=by
  rw [List.length_map,List.length_mergeSort,hkeys.length_eq]
 refine ⟨v,_,rfl,by rw [hlen];exact hrow,hb,?_,?_⟩
 ·intro r hr
  rw [List.mem_map] at hr
  obtain ⟨s,_,rfl⟩:=hr
  rfl
 ·intro i j x hx
  simp only [at2,List.getElem?_map] at hx
  cases hg:((l.map (·.1)).mergeSort Bt.leB)[i]? with
  | none=>rw [hg] at hx;simp at hx
  | some s =>
   rw [hg] at hx
   simp only [Option.map_some,Option.bind_some,sRow] at hx
   cases j with
   | zero =>
    simp only [List.getElem?_cons_zero,Option.some.injEq] at hx
    subst hx
    refine ⟨rfl,encStr s,by rw [Nat.mul_one,Nat.add_zero,List.getElem?_map,hg];rfl,.s s _ (by simp) ?_⟩
    have hmem:s∈l.map (·.1):=(List.mergeSort_perm _ _).mem_iff.1 (List.mem_of_getElem? hg)
    exact strKeys_le hown hstr s (hperm.mem_iff.2 hmem)
   | succ j=>simp at hx
end Go.Proofs.Tryz

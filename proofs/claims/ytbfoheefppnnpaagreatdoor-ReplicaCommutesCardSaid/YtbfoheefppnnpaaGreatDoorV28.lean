/- A part of the proof of the statement of the last text of this claim: for every two lists of integers ReplicaCommutes returns true and leaves the memory as it was. -/
import Derived.ChangeSlices
import Derived.Test.YtbfoheefppnnpaaGreatDoorV26
set_option linter.all false

namespace Go.Proofs.Tryz
open Go Go.Pm Go.ChangeShapes Go.WideShapes Go.ChangeAt Go.RowKit
theorem slice_cells {a:Option Addr} {len cap:Nat}:(Value.slice a len cap).cells.toList=[Value.slice a len cap]:=by
 simp [Value.cells]
theorem slice_spot {P:Program} {W:World} {r:Reach} {base:Nat} {t e:TypeId} {a:Addr} {len cap:Nat} (ht:P.underlying t=some (.slice e)) (h:Value.okWide P W r base t (.slice (some a) len cap)):a.spot=none:=by
 simp only [Value.okWide,ht,Cell.okWide,Cell.ok] at h
 exact h.2.2.2.1
theorem no_wr {μ:Mem} {b off:Nat}:¬ wr [] μ b off:=by
 rintro ⟨id,o,h,_⟩
 simp at h
theorem arg_ints {H:Type} {enc:TypeId×Value→H} {P:Program} {W:World} {r:Reach} {base:Nat} {t e:TypeId} {v:Value} {d:DataW H} {p:List MemPlace} {k:IntKind} (μ:Mem) (ht:P.underlying t=some (.slice e)) (he:P.underlying e=some (.int k)) (hc:P.cellsOf e=1)
  (hval:Value.okWide P W r base t v) (hd:DataW.Trod enc P W 0 (fun _=>true) true t v d p):∃ l:List Int,VR W [] μ (.sl 1 (l.map fun n=>[.i k n])) v∧∀ n∈l,(Lit.int k n).wf=true:=by
 obtain ⟨a0,len,cap,rfl⟩:=okWide_slice ht hval
 obtain ⟨fuel,hf⟩:=hd
 rw [slice_cells] at hf
 rcases open_ints ht he hc hf with ⟨h0,_⟩ | ⟨a,len',cap',zs,h0,_,hl,hm,hz,_,hcell,hwf⟩
 ·simp only [List.cons.injEq,and_true,Value.slice.injEq] at h0
  obtain ⟨rfl,rfl,rfl⟩:=h0
  exact ⟨[],.sl0 _,by simp⟩
 ·simp only [List.cons.injEq,and_true,Value.slice.injEq] at h0
  obtain ⟨rfl,rfl,rfl⟩:=h0
  have hsp:=slice_spot ht hval
  obtain ⟨b,o,s⟩:=a
  simp only at hsp
  subst hsp
  simp only [if_true] at hz
  refine ⟨zs.take len,?_,fun n hn=>hwf n (List.mem_of_mem_take hn)⟩
  have hat:∀ i j x,at2 ((zs.take len).map fun n=>[V.i k n]) i j=some x→j=0∧i<len∧x=.i k (zs.getD i 0):=by
   intro i j x hx
   simp only [at2,Option.bind_eq_some_iff,List.getElem?_map,Option.map_eq_some_iff] at hx
   obtain ⟨row,⟨n,hn,rfl⟩,hj⟩:=hx
   have hil:i<len:=by
    have:=(List.getElem?_eq_some_iff.1 hn).1
    simp at this;omega
   rcases j with _ | j
   ·simp only [List.getElem?_cons_zero,Option.some.injEq] at hj
    refine ⟨rfl,hil,?_⟩
    rw [List.getElem?_take_of_lt hil] at hn
    rw [← hj,List.getD_eq_getElem?_getD,hn];rfl
   ·simp at hj
  have hlen:((zs.take len).map fun n=>[V.i k n]).length=len:=by simp;omega
  have:=VR.sl (w:=W) (σ:=[]) (μ:=μ) 1 ((zs.take len).map fun n=>[V.i k n]) b o cap (fun i _=>.int k (zs.getD i 0)) (by omega) hm (fun r hr=>by obtain ⟨n,_,rfl⟩:=List.mem_map.1 hr;rfl) (fun i j x hx=>by
   obtain ⟨rfl,hi,rfl⟩:=hat i j x hx
   refine ⟨?_,no_wr,rfl⟩
   have:=hcell i (by omega)
   have e:(Addr.mk b o none).add i=⟨b,o+i*1+0,none⟩:=by
    simp only [Addr.add];split
    ·rename_i h;subst h;simp
    ·simp
   rwa [e] at this) (fun i j x hx=>by
   obtain ⟨rfl,hi,rfl⟩:=hat i j x hx
   exact .i _ _)
  rwa [hlen] at this
end Go.Proofs.Tryz

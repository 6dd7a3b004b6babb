/- A part of the proof of the statement of the last text of this claim; its conditions stand there. -/
import Derived.Test.YtkkjfegefckehaaGreatDoorB32
import Derived.Test.YtkkjfegefckehaaGreatDoorB33
set_option linter.all false

namespace Go.Proofs.Tryz
open Go Go.Pm Go.Bt Go.RowKit Go.Maps Go.Sort Go.Shelf
theorem Wj:(prog.info? 9).map (fun i=>(i.zero.map (fun z=>z.cells.size),i.size,i.bytes))=some (some 1,1,16):=by kernel_rfl
theorem Kk(id:Nat)(σ:ag):PC prog 186 [.mp id] σ (fun r σ'=>r=.fn 223 [.ptr σ.length 0]∧σ'=σ++[.box 190 [.mp id]]):=by
 intro B w0 w μ vs hS hv;have h0:=hv.2 0 _ rfl;have e:vs=#[vs.getD 0 undef]:=Ro hv.1
 obtain⟨r,hm,zM⟩:∃ r,μ id=.map (some r)∧vs.getD 0 undef=.map (some r):=by
  generalize vs.getD 0 undef=v at h0;cases h0 with
  | mp _ r h hm=>exact⟨r,hm,rfl⟩
 rw[zM]at h0;rw[e,zM];refine((callsIn_wide (n:=5)).1 (AnyZ.keys_in Tryz.SL Fence.wide 5 trivial rfl (some r) w)).mono ?_;rintro e w' ⟨rfl,rfl⟩
 have hn:=hS.uE (w':=w.alloc (.cells #[.map (some r)] 190)) (.box 190 [.mp id]) (.pointer (some ⟨w.heap.size,0,none⟩)) (kI ((Below.refl _ w).alloc (aB _) _))
  (fun b hb=>by simp only[lf,aa]at hb;omega)
  (fun hp=>⟨w.heap.size,#[.map (some r)],rfl,hS.base,(show(w.heap.push (Obj.cells #[.map (some r)] 190))[w.heap.size]?=_ by simp),rfl,fun j x hx=>by
   cases j with
   | zero=>simp only[ao,aa]at hx;subst hx;exact⟨_,rfl,h0.mono hp⟩
   | succ j=>simp at hx⟩)
 refine⟨_,_,_,_,rfl,⟨rfl,rfl⟩,hn.1,?_,hn.2.bY⟩;refine .fn _ _ _ rfl fun i x hx=>?_;cases i with
 | zero =>
  simp only[ao,aa]at hx;subst hx;exact .ptr _ _ w.heap.size ⟨190,[.mp id],by simp⟩ (by rw[fo])
 | succ i=>simp at hx
set_option maxHeartbeats 1000000 in
theorem Cu{β:Type}{ve:β→V}{id k E:Nat}{l:List (List UInt8×β)}{σ:ag}(hk:σ[k]?=some (.box 190 [.mp id]))(hid:σ[id]?=some (.map 9 E (emap XV ve l)))
  (hd:(l.map (·.1)).Nodup) (hl:l.length<2^40) :
  PC prog 185 [.fn 223 [.ptr k 0]] σ (fun r σ'=>r=.own σ.length 0∧σ'=σ++[.row 9 1 16 0 false (((l.map (·.1)).mergeSort Bt.leB).map nD)]):=by
 obtain⟨i,z,hi,hz,h1,h2,h3⟩:=sO Wj;refine PC.ofRow ⟨by decide,i,z,hi,hz,h1,h2,h3⟩ fun B w0 w μ vs hS hv=>?_;have aeu:prog.underlying 9=some .string:=by kernel_rfl
 obtain⟨b,D,hm,gD,gO,KG⟩:=Ss hS hid aeu hd (by simp only[maxLen];omega);have h0:=hv.2 0 _ rfl;have e:vs=#[vs.getD 0 undef]:=Ro hv.1
 obtain⟨bk,hbk,zM⟩:∃ bk,μ k=.pointer (some ⟨bk,0,none⟩)∧vs.getD 0 undef=.func (.func 223) #[] #[.pointer (some ⟨bk,0,none⟩)]:=by
  generalize vs.getD 0 undef=v at h0;cases h0 with
  | fn _ _ us hl hu =>
   have h4:=hu 0 _ rfl;have e2:us=#[us.getD 0 undef]:=Ro (by simpa using hl.symm);generalize hg:us.getD 0 undef=u at h4 e2;cases h4 with
   | ptr _ _ bk h hm=>exact⟨bk,hm,by rw[e2]⟩
 rw[e,zM];obtain⟨b',cs,hm',hB,hh,qV,UH⟩:=hS.Li hk;rw[hbk]at hm';simp only[Value.pointer.injEq,aa,Addr.mk.injEq,and_true]at hm';subst hm'
 have jy:w.cell? ⟨bk,0,none⟩=some (.map (some b)):=by
  obtain⟨u,hu1,hu2⟩:=UH 0 _ rfl
  have:u=.map (some b):=by
   cases hu2 with
   | mp _ r h hm2=>rw[hm]at hm2;exact hm2.symm
  rw[this]at hu1;exact hu1
 have Z5:bk<w.heap.size:=(cg.1 hh).1
 have aih:SeqGives Fence.wide 2 prog 223 #[.pointer (some ⟨bk,0,none⟩)] encStr (fun ss=>ss.Perm (strKeys D)) (Maps.size D) w :=
  AnyZ.keys_gives (ρ:=Tryz.Dp) { Tryz.SL with } Fence.wide _ trivial rfl (by omega) bk b _ D w Z5 jy gD
 have hS2:=AnyZ.sorted_in Tryz.RC Fence.wide 5 trivial trivial trivial trivial rfl (by omega) (Tryz.UY _) (enters_of func222 (by kernel_rfl) rfl) 223 #[.pointer (some ⟨bk,0,none⟩)] trivial (enters_of func223 (by kernel_rfl) rfl) _ _
  (by rw[gO];simp only[maxLen];omega) (by rw[gO];omega) w aih
 refine((callsIn_wide (n:=5)).1 hS2).mono ?_;rintro e w' ⟨v,ss,rfl,hp,cP,_,hb⟩;have X5:ss.Perm (l.map (·.1)):=hp.trans KG;have hms:(ss.mergeSort fun x y=>decide (x≤y))=(l.map (·.1)).mergeSort Bt.leB:=mergeSort_of_perm X5;rw[hms]at cP
 have hlen:(((l.map (·.1)).mergeSort Bt.leB).map nD).length=ss.length:=by
  rw[List.length_map,List.length_mergeSort,X5.length_eq]
 refine⟨v,_,rfl,by rw[hlen];exact cP,hb,?_,?_⟩
 ·intro r hr;rw[bK]at hr;obtain⟨s,_,rfl⟩:=hr;rfl
 ·intro i j x hx;simp only[fe,aZ]at hx;cases hg:((l.map (·.1)).mergeSort Bt.leB)[i]? with
  | none=>rw[hg]at hx;simp at hx
  | some s =>
   rw[hg]at hx;simp only[cU,jG,nD]at hx;cases j with
   | zero =>
    simp only[ao,aa]at hx;subst hx;refine⟨rfl,encStr s,by rw[qC,bC,aZ,hg];rfl,.s s _ (by simp) ?_⟩;have Ay:s∈l.map (·.1):=(List.mergeSort_perm _ _).mem_iff.1 (bh hg);exact strKeys_le gD aeu s (KG.mem_iff.2 Ay)
   | succ j=>simp at hx
end Go.Proofs.Tryz

/- A part of the proof that for every input the law NetworkLimits returns true and leaves its argument as it was. -/
import Derived.Test.YtgihcpilgfbggaaGreatDoorL33
import Derived.Test.YtgihcpilgfbggaaGreatDoorL34
set_option linter.all false

namespace Go.Proofs.Tryz
open Go Go.Pm Go.Bt Go.RowKit Go.Maps Go.Sort Go.Shelf
theorem Pn:(prog.info? 9).map (fun i=>(i.zero.map (fun z=>z.cells.size),i.size,i.bytes))=some (some 1,1,16):=by kernel_rfl
theorem Ed(id:Nat)(σ:ah):PC prog 145 [.mp id] σ (fun r σ'=>r=.fn 176 [.ptr σ.length 0]∧σ'=σ++[.box 188 [.mp id]]):=by
 intro B w0 w μ vs hS hv;have h0:=hv.2 0 _ rfl;have e:vs=#[vs.getD 0 undef]:=TZ hv.1
 obtain⟨r,hm,H5⟩:∃ r,μ id=.map (some r)∧vs.getD 0 undef=.map (some r):=by
  generalize vs.getD 0 undef=v at h0;cases h0 with
  | mp _ r h hm=>exact⟨r,hm,rfl⟩
 rw[H5]at h0;rw[e,H5];refine((callsIn_wide (n:=5)).1 (AnyZ.keys_in Tryz.L6 Fence.wide 5 trivial rfl (some r) w)).mono ?_;rintro e w' ⟨rfl,rfl⟩
 have hn:=hS.pY (w':=w.alloc (.cells #[.map (some r)] 188)) (.box 188 [.mp id]) (.pointer (some ⟨w.heap.size,0,none⟩)) (lf ((Below.refl _ w).alloc (aw _) _))
  (fun b hb=>by simp only[iT,aa]at hb;omega)
  (fun hp=>⟨w.heap.size,#[.map (some r)],rfl,hS.base,(show(w.heap.push (Obj.cells #[.map (some r)] 188))[w.heap.size]?=_ by simp),rfl,fun j x hx=>by
   cases j with
   | zero=>simp only[ax,aa]at hx;subst hx;exact⟨_,rfl,h0.mono hp⟩
   | succ j=>simp at hx⟩)
 refine⟨_,_,_,_,rfl,⟨rfl,rfl⟩,hn.1,?_,hn.2.eO⟩;refine .fn _ _ _ rfl fun i x hx=>?_;cases i with
 | zero =>
  simp only[ax,aa]at hx;subst hx;exact .ptr _ _ w.heap.size ⟨188,[.mp id],by simp⟩ (by rw[dL])
 | succ i=>simp at hx
set_option maxHeartbeats 1000000 in
theorem wO{β:Type}{ve:β→V}{id k E:Nat}{l:List (List UInt8×β)}{σ:ah}(hk:σ[k]?=some (.box 188 [.mp id]))(hid:σ[id]?=some (.map 9 E (emap QR ve l)))
  (hd:(l.map (·.1)).Nodup) (hl:l.length<2^40) :
  PC prog 144 [.fn 176 [.ptr k 0]] σ (fun r σ'=>r=.own σ.length 0∧σ'=σ++[.row 9 1 16 0 false (((l.map (·.1)).mergeSort Bt.leB).map vM)]):=by
 obtain⟨i,z,hi,hz,h1,h2,h3⟩:=mb Pn;refine PC.ofRow ⟨by decide,i,z,hi,hz,h1,h2,h3⟩ fun B w0 w μ vs hS hv=>?_;have WC:prog.underlying 9=some .string:=by kernel_rfl
 obtain⟨b,D,hm,gf,fq,ED⟩:=LC hS hid WC hd (by simp only[maxLen];omega);have h0:=hv.2 0 _ rfl;have e:vs=#[vs.getD 0 undef]:=TZ hv.1
 obtain⟨bk,Zp,H5⟩:∃ bk,μ k=.pointer (some ⟨bk,0,none⟩)∧vs.getD 0 undef=.func (.func 176) #[] #[.pointer (some ⟨bk,0,none⟩)]:=by
  generalize vs.getD 0 undef=v at h0;cases h0 with
  | fn _ _ us hl hu =>
   have h4:=hu 0 _ rfl;have e2:us=#[us.getD 0 undef]:=TZ (by simpa using hl.symm);generalize hg:us.getD 0 undef=u at h4 e2;cases h4 with
   | ptr _ _ bk h hm=>exact⟨bk,hm,by rw[e2]⟩
 rw[e,H5];obtain⟨b',cs,hm',hB,hh,mq,Ya⟩:=hS.E6 hk;rw[Zp]at hm';simp only[Value.pointer.injEq,aa,Addr.mk.injEq,and_true]at hm';subst hm'
 have pq:w.cell? ⟨bk,0,none⟩=some (.map (some b)):=by
  obtain⟨u,hu1,hu2⟩:=Ya 0 _ rfl
  have:u=.map (some b):=by
   cases hu2 with
   | mp _ r h T9=>rw[hm]at T9;exact T9.symm
  rw[this]at hu1;exact hu1
 have hbl:bk<w.heap.size:=(bS.1 hh).1
 have YN:SeqGives Fence.wide 2 prog 176 #[.pointer (some ⟨bk,0,none⟩)] encStr (fun ss=>ss.Perm (strKeys D)) (Maps.size D) w :=
  AnyZ.keys_gives (ρ:=Tryz.xJ) { Tryz.L6 with } Fence.wide _ trivial rfl (by omega) bk b _ D w hbl pq gf
 have Ue:=AnyZ.sorted_in Tryz.KP Fence.wide 5 trivial trivial trivial trivial rfl (by omega) (Tryz.N6 _) (enters_of func175 (by kernel_rfl) rfl) 176 #[.pointer (some ⟨bk,0,none⟩)] trivial (enters_of func176 (by kernel_rfl) rfl) _ _
  (by rw[fq];simp only[maxLen];omega) (by rw[fq];omega) w YN
 refine((callsIn_wide (n:=5)).1 Ue).mono ?_;rintro e w' ⟨v,ss,rfl,hp,cm,_,hb⟩;have QY:ss.Perm (l.map (·.1)):=hp.trans ED;have hms:(ss.mergeSort fun x y=>decide (x≤y))=(l.map (·.1)).mergeSort Bt.leB:=mergeSort_of_perm QY;rw[hms]at cm
 have hlen:(((l.map (·.1)).mergeSort Bt.leB).map vM).length=ss.length:=by
  rw[ae,List.length_mergeSort,QY.length_eq]
 refine⟨v,_,rfl,by rw[hlen];exact cm,hb,?_,?_⟩
 ·intro r hr;rw[dI]at hr;obtain⟨s,_,rfl⟩:=hr;rfl
 ·intro i j x hx;simp only[ft,bg]at hx;cases hg:((l.map (·.1)).mergeSort Bt.leB)[i]? with
  | none=>rw[hg]at hx;simp at hx
  | some s =>
   rw[hg]at hx;simp only[cg,fY,vM]at hx;cases j with
   | zero =>
    simp only[ax,aa]at hx;subst hx;refine⟨rfl,encStr s,by rw[C4,cn,bg,hg];rfl,.s s _ (by simp) ?_⟩;have Mw:s∈l.map (·.1):=(lQ _ _).mem_iff.1 (aN hg);exact strKeys_le gf WC s (ED.mem_iff.2 Mw)
   | succ j=>simp at hx
end Go.Proofs.Tryz

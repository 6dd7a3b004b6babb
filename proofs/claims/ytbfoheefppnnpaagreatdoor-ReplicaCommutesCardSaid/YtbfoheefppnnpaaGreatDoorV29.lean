/- A part of the proof of the statement of the last text of this claim: for every two lists of integers ReplicaCommutes returns true and leaves the memory as it was. -/
import Derived.ChangeKeysEq
import Derived.Test.YtbfoheefppnnpaaGreatDoorV4
import Derived.Test.YtbfoheefppnnpaaGreatDoorV14
import Derived.Test.YtbfoheefppnnpaaGreatDoorV17
import Derived.Test.YtbfoheefppnnpaaGreatDoorV19
set_option linter.all false

namespace Go.Proofs.Tryz
open Go Go.Pm Go.Bt Go.RowKit
theorem infoItem:(Tryz.prog.info? 79).map (fun i=>(i.zero.map (fun z=>z.cells.size),i.size,i.bytes))=some (some 3,3,32):=by kernel_rfl
theorem infoInt:(Tryz.prog.info? 3).map (fun i=>(i.zero.map (fun z=>z.cells.size),i.size,i.bytes))=some (some 1,1,8):=by kernel_rfl
theorem pure_one {w:World} {σ:Store} {μ:Mem} {x:V} {v:Value} (h:VR w σ μ x v) (hp:x.pure=true):v.oneCell'=true:=by
 cases h<;>first | rfl | simp [V.pure] at hp
theorem sl_vals {w:World} {σ:Store} {μ:Mem} {sz:Nat} {rows:List (List V)} {v:Value} (hsz:0<sz) (h:VR w σ μ (.sl sz rows) v) :
  ((∃ a,v=.slice a 0 0)∧rows=[])∨∃ b o cap vals,v=.slice (some ⟨b,o,none⟩) rows.length cap∧rows.length≤maxLen∧vals.length=rows.length*sz∧(∀ j u,vals[j]?=some u→w.cell? ⟨b,o+j,none⟩=some u)∧(∀ u∈vals,u.oneCell'=true)∧RowR w σ μ rows sz vals:=by
 generalize hx:V.sl sz rows=x at h
 cases h with
 | sl0 sz' =>
  simp only [V.sl.injEq] at hx
  exact .inl ⟨⟨_,rfl⟩,hx.2⟩
 | sle sz' a =>
  simp only [V.sl.injEq] at hx
  exact .inl ⟨⟨_,rfl⟩,hx.2⟩
 | sl sz' xs b o cap f hlen hcap hrow hc hv =>
  simp only [V.sl.injEq] at hx
  obtain ⟨rfl,rfl⟩:=hx
  refine .inr ⟨b,o,cap,(List.range (rows.length*sz)).map fun k=>f (k / sz) (k % sz),rfl,Nat.le_trans hlen hcap,by simp,fun j u hj=>?_,fun u hu=>?_,hrow,fun i j x hx=>?_⟩
  ·rw [List.getElem?_map,Option.map_eq_some_iff] at hj
   obtain ⟨k,hk,rfl⟩:=hj
   have hk2:=List.getElem?_eq_some_iff.1 hk
   simp only [List.length_range,List.getElem_range] at hk2
   obtain ⟨hjl,rfl⟩:=hk2
   have hi:j / sz<rows.length:=Nat.div_lt_of_lt_mul (by rw [Nat.mul_comm];exact hjl)
   have hm:j % sz<sz:=Nat.mod_lt _ hsz
   have hr:=hrow rows[j / sz] (List.getElem_mem hi)
   have hat:at2 rows (j / sz) (j % sz)=some (rows[j / sz][j % sz]'(by rw [hr];exact hm)):=by simp [at2,hi,hr,hm]
   have:=(hc _ _ _ hat).1
   rwa [Nat.add_assoc,Nat.div_add_mod'] at this
  ·rw [List.mem_map] at hu
   obtain ⟨j,hj,rfl⟩:=hu
   rw [List.mem_range] at hj
   have hi:j / sz<rows.length:=Nat.div_lt_of_lt_mul (by rw [Nat.mul_comm];exact hj)
   have hm:j % sz<sz:=Nat.mod_lt _ hsz
   have hr:=hrow rows[j / sz] (List.getElem_mem hi)
   have hat:at2 rows (j / sz) (j % sz)=some (rows[j / sz][j % sz]'(by rw [hr];exact hm)):=by simp [at2,hi,hr,hm]
   exact pure_one (hv _ _ _ hat) (hc _ _ _ hat).2.2
  ·have hp:=hc i j x hx
   have hi:i<rows.length∧j<sz:=by
    simp only [at2] at hx
    cases hr:rows[i]? with
    | none=>rw [hr] at hx;simp at hx
    | some r =>
     rw [hr] at hx
     have hil:=(List.getElem?_eq_some_iff.1 hr).1
     have hjl:=(List.getElem?_eq_some_iff.1 (show r[j]?=some x from hx)).1
     rw [hrow r (List.mem_of_getElem? hr)] at hjl
     exact ⟨hil,hjl⟩
   refine ⟨hp.2.2,f i j,?_,hv i j x hx⟩
   have hlt:i*sz+j<rows.length*sz:=by
    have:(i+1)*sz≤rows.length*sz:=Nat.mul_le_mul_right _ hi.1
    rw [Nat.add_mul,Nat.one_mul] at this
    omega
   rw [List.getElem?_map,List.getElem?_eq_getElem (by simpa using hlt)]
   simp only [List.getElem_range,Option.map_some,Option.some.injEq]
   have e1:(i*sz+j) / sz=i:=by rw [Nat.mul_comm,Nat.mul_add_div hsz,Nat.div_eq_of_lt hi.2];rfl
   have e2:(i*sz+j) % sz=j:=by rw [Nat.mul_comm,Nat.mul_add_mod,Nat.mod_eq_of_lt hi.2]
   rw [e1,e2]
 | _=>simp at hx
theorem info_of {T n by':Nat} (h:(Tryz.prog.info? T).map (fun i=>(i.zero.map (fun z=>z.cells.size),i.size,i.bytes))=some (some n,n,by')):∃ i z,Tryz.prog.info? T=some i∧i.zero=some z∧i.size=n∧i.bytes=by'∧z.cells.size=n:=by
 cases hi:Tryz.prog.info? T with
 | none=>rw [hi] at h;simp at h
 | some i =>
  rw [hi] at h
  simp only [Option.map_some,Option.some.injEq,Prod.mk.injEq] at h
  obtain ⟨h1,h2,h3⟩:=h
  cases hz:i.zero with
  | none=>rw [hz] at h1;simp at h1
  | some z =>
   rw [hz] at h1
   simp only [Option.map_some,Option.some.injEq] at h1
   exact ⟨i,z,rfl,hz,h2,h3,h1⟩
set_option maxHeartbeats 2000000 in
set_option maxRecDepth 100000 in
theorem clone_empty {P:Program} {ρ:Shelf.Ren} (L:SlLaysE0.n41 P ρ) (i0:TypeInfo) (z:Value) (size bytes:Nat) (hi:P.info? (ρ.t 23)=some i0) (hz0:i0.zero=some z) (hz1:i0.size=size) (hz2:i0.bytes=bytes) (hzs:z.cells.size=size) (hsz:0<size)
  (z23:∀ w,(Go.sizeOf (ρ.t 23)).run P w=.ok size w) (a:Addr) (w:World) :
  Calls P (ρ.f 41) #[.slice (some a) 0 0] w fun e w'=>∃ v',e=.returned v'∧w'.ownsRow w.heap.size (ρ.t 23) size v' 0 []∧Below w.heap.size w w':=by
 have mixed:=L.mixed;have t4:=L.t4;have a4:=L.a4;have z4:=L.z4;have v4:=L.v4;have t22:=L.t22;have a22:=L.a22;have z22:=L.z22;have v22:=L.v22
 have q22:∀ (w:World) (a:Option Addr) (n c n' c':Nat),(binOp .eql (ρ.t 22) (.slice a n c) (.slice none n' c')).run P w=.ok (.bool a.isNone) w:=fun w a n c n' c'=>Lib.run_eql_slice_nil w _ _ a n c n' c' L.t22
 have u22:∀ w,Sem.run P (underlying (ρ.t 22)) w=.ok (TypeDesc.slice (ρ.t 23)) w:=run_underlying t22
 obtain ⟨_,_,FG⟩:=L.f41
 go_enter FG,SlBodyN.n41_ntmps ρ
 go_wp2_with (at_builtin;refine wpList_append_own _ rfl _ _ (ρ.t 22) rfl w.heap.size (ρ.t 23) i0 z size bytes t22 hi hz0 hz1 hz2 hzs hsz _ _ _ rfl (World.ownsRow_made w #[] 0 (Nat.le_refl _) (Nat.zero_le _) (by simp)) a 0 0 [] rfl (by simp) (by simp) (by simp) (by simp) (by simp) (by simp) ?_)
 intro v' w1 hown hgrow _
 go_wp2
 go_ret
 exact ⟨v',rfl,by simpa using hown,((Below.refl _ w).alloc (Nat.le_refl _) _).grown hgrow (by simp) (by intro k hk;simp [Value.ownBlock] at hk;omega)⟩
theorem clone_of {f E sz by':Nat} {rows:List (List V)} (hsz:0<sz) (hinfo:(Tryz.prog.info? E).map (fun i=>(i.zero.map (fun z=>z.cells.size),i.size,i.bytes))=some (some sz,sz,by'))
  (hlen:rows.length*by'≤140737488355328)
  (hnil:∀ w,Calls Tryz.prog f #[.slice none 0 0] w fun e w'=>e=.returned (.slice none 0 0)∧w'=w)
  (hemp:∀ (a:Addr) (w:World),Calls Tryz.prog f #[.slice (some a) 0 0] w fun e w'=>∃ v',e=.returned v'∧w'.ownsRow w.heap.size E sz v' 0 []∧Below w.heap.size w w')
  (hsome:∀ (i0:TypeInfo) (z:Value),Tryz.prog.info? E=some i0→i0.zero=some z→i0.size=sz→i0.bytes=by'→z.cells.size=sz→(∀ w,(Go.sizeOf E).run Tryz.prog w=.ok sz w)→∀ (b off n c:Nat) (news:List Value) (w:World),news.length=n*sz→n≤maxLen→n*by'≤140737488355328 →
   (∀ j u,news[j]?=some u→w.cell? ⟨b,off+j,none⟩=some u)→(∀ u∈news,u.oneCell'=true) →
   Calls Tryz.prog f #[.slice (some ⟨b,off,none⟩) n c] w fun e w'=>∃ v',e=.returned v'∧w'.ownsRow w.heap.size E sz v' n news∧v'≠.slice none 0 0∧Below w.heap.size w w')
  (σ:Store):PC Tryz.prog f [.sl sz rows] σ (fun r σ'=>r=.sl sz rows∧σ'=σ):=by
 obtain ⟨i,z,hi,hz,h1,h2,h3⟩:=info_of hinfo
 refine PC.ofRowS (E:=E) (by':=by') ⟨hsz,i,z,hi,hz,h1,h2,h3⟩ fun B w0 w μ vs hS hv=>?_
 have h0:=hv.2 0 _ rfl
 have e:vs=#[vs.getD 0 undef]:=vs1 hv.1
 rw [e]
 rcases sl_vals hsz h0 with ⟨⟨a,hv0⟩,hr⟩ | ⟨b,o,cap,vals,hv0,hm,hl,hc,h1',hR⟩
 ·rw [hv0]
  subst hr
  cases a with
  | none =>
   refine (hnil w).mono ?_
   rintro e w' ⟨rfl,rfl⟩
   exact ⟨_,[],rfl,World.ownsRow_nil w' _ _ _,Below.refl _ _,by simp,by simp [at2]⟩
  | some a =>
   refine (hemp a w).mono ?_
   rintro e w' ⟨v',rfl,h1,h2⟩
   exact ⟨_,[],rfl,h1,h2,by simp,by simp [at2]⟩
 ·rw [hv0]
  refine (hsome i z hi hz h1 h2 h3 (fun w=>by simp [sizeOf,run_typeInfo w hi,h1]) b o _ cap vals w hl hm hlen hc h1').mono ?_
  rintro e w' ⟨v',rfl,hrow,_,hb⟩
  exact ⟨_,vals,rfl,hrow,hb,hR⟩
theorem cloneItems_pc (xs:List It) (hlen:xs.length<2^40) (σ:Store):PC Tryz.prog 138 [.sl 3 (xs.map It.cells)] σ (fun r σ'=>r=.sl 3 (xs.map It.cells)∧σ'=σ) :=
 clone_of (by decide) infoItem (by rw [List.length_map];omega) (fun w=>AnyE.slices_Clone_nil Tryz.clone120 0 0 w)
  (fun a w=>by
   obtain ⟨i,z,hi,hz,h1,h2,h3⟩:=info_of infoItem
   exact clone_empty Tryz.clone120 i z 3 32 hi hz h1 h2 h3 (by decide) (show ∀ w,(Go.sizeOf 79).run Tryz.prog w=.ok 3 w from fun w=>by simp [sizeOf,run_typeInfo w hi,h1]) a w)
  (fun i z hi hz h1 h2 h3 hs b o n c news w hl hn hb hc h=>AnyE.slices_Clone Tryz.clone120 i z 3 32 hi hz h1 h2 h3 (by decide) hs b o n c news w hl hn hb hc h) σ
theorem cloneInts_pc (xs:List Int) (hlen:xs.length<2^40) (σ:Store):PC Tryz.prog 98 [.sl 1 (xs.map iRow)] σ (fun r σ'=>r=.sl 1 (xs.map iRow)∧σ'=σ) :=
 clone_of (by decide) infoInt (by rw [List.length_map];omega) (fun w=>AnyE.slices_Clone_nil Tryz.clone95 0 0 w)
  (fun a w=>by
   obtain ⟨i,z,hi,hz,h1,h2,h3⟩:=info_of infoInt
   exact clone_empty Tryz.clone95 i z 1 8 hi hz h1 h2 h3 (by decide) (show ∀ w,(Go.sizeOf 3).run Tryz.prog w=.ok 1 w from fun w=>by simp [sizeOf,run_typeInfo w hi,h1]) a w)
  (fun i z hi hz h1 h2 h3 hs b o n c news w hl hn hb hc h=>AnyE.slices_Clone Tryz.clone95 i z 1 8 hi hz h1 h2 h3 (by decide) hs b o n c news w hl hn hb hc h) σ
theorem viewEntry_pc (e:En) (hs:e.small) (σ:Store):PC Tryz.prog 97 [.agg e.cells] σ (fun r σ'=>r=.agg e.cells∧σ'=σ):=by
 refine PC.intro Tryz.func97 c97 fun hcl hwf=>wpc_sound ?_
 simp only [p97,SS,seval]
 simp only [En.cells,VV,seval]
 refine call_eq (cloneItems_pc e.source (by have:=hs.source;omega) _) rfl ?_
 simp only [VV,seval]
 refine call_eq (cloneItems_pc e.target (by have:=hs.target;omega) _) rfl ?_
 simp only [VV,seval]
 exact ret_end hcl (.inr rfl) (by simp only [RS,seval];rfl) (by simp only [LW]) ⟨rfl,rfl⟩
theorem viewOp_pc (o:Opr) (hs:o.small) (σ:Store):PC Tryz.prog 63 [.agg o.cells] σ (fun r σ'=>r=.agg o.cells∧σ'=σ):=by
 refine PC.intro Tryz.func63 c63 fun hcl hwf=>wpc_sound ?_
 simp only [p63,SS,seval]
 simp only [Opr.cells,Stamp.cells,En.cells,VV,seval]
 refine call_eq (viewEntry_pc o.entry hs.entry _) rfl ?_
 simp only [En.cells,VV,seval]
 refine call_eq (cloneInts_pc o.seen (by have:=hs.seen;omega) _) rfl ?_
 simp only [VV,seval]
 exact ret_end hcl (.inr rfl) (by simp only [RS,seval];rfl) (by simp only [LW]) ⟨rfl,rfl⟩
end Go.Proofs.Tryz

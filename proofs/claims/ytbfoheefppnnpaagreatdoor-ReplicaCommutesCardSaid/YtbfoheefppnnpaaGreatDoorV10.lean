/- A part of the proof of the statement of the last text of this claim: for every two lists of integers ReplicaCommutes returns true and leaves the memory as it was. -/
import Derived.Test.YtbfoheefppnnpaaGreatDoorV9
set_option linter.all false

namespace Go.Pm
open Go Go.RowKit
def Le (σ σ':Store):Prop:=∀ (id:Nat) (o:Ob),σ[id]?=some o→o=Ob.dead∨σ'[id]?=some o
section
variable {σ σ':Store} (h:Le σ σ')
include h
theorem Le.box {id T:Nat} {cs:List V} (e:σ[id]?=some (.box T cs)):σ'[id]?=some (.box T cs):=(h id _ e).resolve_left (by simp)
theorem Le.row {id E sz by' g:Nat} {sh:Bool} {xs:List (List V)} (e:σ[id]?=some (.row E sz by' g sh xs)):σ'[id]?=some (.row E sz by' g sh xs):=(h id _ e).resolve_left (by simp)
theorem Le.map {id K E:Nat} {es:List (V×V)} (e:σ[id]?=some (.map K E es)):σ'[id]?=some (.map K E es):=(h id _ e).resolve_left (by simp)
theorem cellOK_le {x:V} (hx:cellOK σ x=true):cellOK σ' x=true:=by
 unfold cellOK at hx ⊢
 repeat' split at hx
 all_goals first | (simp at hx;done) | skip
 all_goals first | (rename_i e;simp only [h.row e];exact hx) | rfl
theorem okCells_le {x:V} (hx:okCells σ x=true):okCells σ' x=true:=by
 unfold okCells at hx ⊢
 split at hx
 ·rw [List.all_eq_true] at hx ⊢
  exact fun y hy=>cellOK_le h (hx y hy)
 ·exact cellOK_le h hx
theorem rowsOf_le {sz:Nat} {x:V} {r:List (List V)} (hx:rowsOf σ sz x=some r):rowsOf σ' sz x=some r:=by
 unfold rowsOf at hx ⊢
 split at hx<;>(try exact hx)<;>split at hx<;>(try (simp at hx;done))
 all_goals (rename_i e;simp only [h.row e];exact hx)
theorem mapFind_le {kd:Nat} {m k:V} {r:Option (Nat×V)} (hx:mapFind σ kd m k=some r):mapFind σ' kd m k=some r:=by
 unfold mapFind at hx ⊢
 split at hx<;>(try exact hx)
 split at hx<;>(try (simp at hx;done))
 rename_i e
 simp only [h.map e];exact hx
theorem pexec_le {fr:List V} {i:I} {ob:Prop} {r:V} (he:pexec fr σ i=some (ob,r)) (hob:ob):∃ ob',pexec fr σ' i=some (ob',r)∧ob':=by
 cases i
 case build zs parts =>
  simp only [pexec] at he ⊢
  split at he<;>simp only [Option.some.injEq,Prod.mk.injEq,reduceCtorEq] at he
  obtain ⟨rfl,rfl⟩:=he
  rename_i e
  exact ⟨_,by simp only,fun p hp=>okCells_le h (hob p hp)⟩
 case bslice sz szs xs =>
  simp only [pexec,Option.some.injEq,Prod.mk.injEq] at he ⊢
  obtain ⟨rfl,rfl⟩:=he
  exact ⟨_,⟨rfl,rfl⟩,fun x hx=>okCells_le h (hob.1 x hx),hob.2⟩
 case load k a =>
  simp only [pexec] at he ⊢
  split at he
  ·split at he<;>(try (simp at he;done))
   rename_i e
   simp only [h.box e];exact ⟨ob,he,hob⟩
  ·exact ⟨ob,he,hob⟩
  ·split at he<;>(try (simp at he;done))
   rename_i e
   simp only [h.row e];exact ⟨ob,he,hob⟩
  ·simp at he
 case nilck x =>
  simp only [pexec] at he ⊢
  split at he<;>(try exact ⟨ob,he,hob⟩)
  split at he<;>(try (simp at he;done))
  rename_i e
  simp only [h.row e];exact ⟨ob,he,hob⟩
 case fld off x =>
  simp only [pexec] at he ⊢
  split at he<;>(try exact ⟨ob,he,hob⟩)
  split at he<;>(try (simp at he;done))
  rename_i e
  simp only [h.row e];exact ⟨ob,he,hob⟩
 case b2s x =>
  simp only [pexec] at he ⊢
  split at he<;>(try (simp at he;done))
  rename_i e
  simp only [rowsOf_le h e];exact ⟨ob,he,hob⟩
 case look kd z ok m k =>
  simp only [pexec] at he ⊢
  split at he<;>(try (simp at he;done))
  all_goals (rename_i e;simp only [mapFind_le h e];exact ⟨ob,he,hob⟩)
 case mlen x =>
  simp only [pexec] at he ⊢
  split at he<;>(try exact ⟨ob,he,hob⟩)
  split at he<;>(try (simp at he;done))
  rename_i e
  simp only [h.map e];exact ⟨ob,he,hob⟩
 case len str x =>
  cases str
  ·simp only [pexec] at he ⊢
   split at he<;>(try exact ⟨ob,he,hob⟩)
   all_goals
    split at he<;>(try (simp at he;done))
    rename_i e
    simp only [h.row e];exact ⟨ob,he,hob⟩
  ·exact ⟨ob,he,hob⟩
 case idx sz x i =>
  simp only [pexec] at he ⊢
  split at he<;>(try (simp at he;done))
  split at he<;>(try exact ⟨ob,he,hob⟩)
  split at he<;>(try (simp at he;done))
  rename_i e
  simp only [h.row e];exact ⟨ob,he,hob⟩
 case slice sz x lo hi =>
  by_cases hx:∃ id g,ev fr x=.own id g
  ·obtain ⟨id,g,hx⟩:=hx
   simp only [pexec,hx] at he ⊢
   cases hs:σ[id]? with
   | none=>simp [hs] at he
   | some o =>
    rcases h id o hs with rfl | h2
    ·simp [hs] at he
    ·rw [hs] at he
     rw [h2];exact ⟨ob,he,hob⟩
  ·have e:pexec fr σ' (.slice sz x lo hi)=pexec fr σ (.slice sz x lo hi):=by
    simp only [pexec]
    cases hv:ev fr x<;>first | rfl | (exact absurd ⟨_,_,hv⟩ hx)
   rw [e];exact ⟨ob,he,hob⟩
 all_goals exact ⟨ob,he,hob⟩
end
theorem Fact.le {σ σ':Store} {p:Pi} {fr:List V} (hf:Fact p fr σ) (h:Le σ σ'):Fact p fr σ':=by
 obtain ⟨c,h1,r,h2,h3⟩:=hf
 exact ⟨c,h1,r,h2,fun hc=>by obtain ⟨ob,h4,h5⟩:=h3 hc;exact pexec_le h h4 h5⟩
theorem dead_box {P:Program} {B:Nat} {w0 w:World} {σ:Store} {μ:Mem} (hS:Sim P B w0 w σ μ) {id:Nat} (hid:σ[id]?=some .dead) (T:Nat) (cs:List V) (vs:Array Value) (h:CR w σ μ cs vs) :
  ∃ μ',Sim P B w0 (w.alloc (.cells vs T)) (σ.set id (.box T cs)) μ'∧VR (w.alloc (.cells vs T)) (σ.set id (.box T cs)) μ' (.ptr id 0) (.pointer (some ⟨w.heap.size,0,none⟩))∧Pres w σ μ (w.alloc (.cells vs T)) (σ.set id (.box T cs)) μ':=by
 have hl:id<σ.length:=(List.getElem?_eq_some_iff.1 hid).1
 have hset:(σ.set id (.box T cs))[id]?=some (.box T cs):=List.getElem?_set_self hl
 have hn:=hS.update (w':=w.alloc (.cells vs T)) (σ':=σ.set id (.box T cs)) (μ':=upd μ id (.pointer (some ⟨w.heap.size,0,none⟩))) id none (World.grownBy_alloc w _ none) (by simp) (by simp)
  (fun j hj=>List.getElem?_set_ne (Ne.symm hj)) (fun j hj=>upd_other μ _ _ j hj) (fun b hb=>by rw [upd_same] at hb;simp only [blk,Option.some.injEq] at hb;exact .inr (by omega))
  (fun b off v o ho hne=>by rw [hid] at ho;simp only [Option.some.injEq] at ho;exact absurd ho.symm hne)
  (fun T' cs' ho=>by rw [hid] at ho;simp at ho) (fun K E es ho=>by rw [hid] at ho;simp at ho)
  (fun E sz by' g' sh xs _ ho=>by rw [hset] at ho;simp at ho)
  (fun hp o ho=>by
   rw [hset] at ho
   simp only [Option.some.injEq] at ho
   subst ho
   rw [upd_same]
   refine ⟨w.heap.size,vs,rfl,hS.base,heap_alloc_new w _,h.1.symm,fun j x hx=>?_⟩
   have hj:j<vs.size:=by rw [← h.1];exact (List.getElem?_eq_some_iff.1 hx).1
   exact ⟨vs[j],Array.getElem?_eq_getElem hj,by have:=(h.2 j x hx).mono hp;simpa [hj] using this⟩)
 exact ⟨_,hn.1,.ptr _ 0 _ ⟨T,cs,hset⟩ (upd_same _ _ _),hn.2⟩
theorem alloc_dead {P:Program} {ops:Array Oper} {o:Oper} {p:Pi} {d T:Nat} {zs:List V} (hc:cPi P ops o=some p) (hp:p=⟨some d,[],.alloc T zs⟩) {inf:Nat→Option (List (Nat×Bool))} {B:Nat} {w0 w:World} {fr:List V} {σ:Store} {μ:Mem} {a:Act}
  (hS:Sim P B w0 w σ μ) (hF:FRi w σ μ fr inf a) (hok:OkOp inf p) {id:Nat} (hid:σ[id]?=some .dead) {R:Act→World→Prop} {Q:Exit→Act→World→Prop}
  (hR:∀ μ' a' w',Sim P B w0 w' (σ.set id (.box T zs)) μ'→FRi w' (σ.set id (.box T zs)) μ' (setd fr (some d) (.ptr id 0)) (updI inf p) a'→Keep w σ μ w' (σ.set id (.box T zs)) μ'→R a' w') :
  if Region.wanted o (yielded ops a.tmps) then o.wp P a w R Q∨(o.asks P a w∧LetsOut Q) else R (a.put o.dst undef) w:=by
 unfold cPi at hc
 split at hc<;>simp only [Option.some.injEq,reduceCtorEq] at hc
 rename_i g hg
 rw [hp] at hc
 simp only [Pi.mk.injEq] at hc
 obtain ⟨hd,rfl,hi⟩:=hc
 have hw:Region.wanted o (yielded ops a.tmps)=true:=by
  cases hgd:o.guard with
  | none=>simp [Region.wanted,hgd]
  | some jb =>
   obtain ⟨j,b⟩:=jb
   rw [hgd] at hg
   simp only [chainOf] at hg
   split at hg<;>(try simp only [reduceCtorEq] at hg)
   split at hg<;>simp at hg
 rw [if_pos hw]
 refine .inl ?_
 have hcomp:compile P o=some (.alloc T zs):=by
  cases hcp:compile P o with
  | none=>rw [hcp] at hi;simp at hi
  | some j=>rw [hcp] at hi;simp only [Option.getD_some] at hi;rw [hi]
 have hop:∃ t z,o.op=.alloc T∧P.info? T=some t∧t.zero=some z∧constVs z.cells.toList=some zs:=by
  cases ho:o.op
  case alloc T' =>
   simp only [compile,ho] at hcomp
   split at hcomp<;>(try simp only [reduceCtorEq] at hcomp)
   rename_i t ht
   split at hcomp<;>(try simp only [reduceCtorEq] at hcomp)
   rename_i z hz
   simp only [Option.map_eq_some_iff,I.alloc.injEq] at hcomp
   obtain ⟨zs',hzs,rfl,rfl⟩:=hcomp
   exact ⟨t,z,rfl,ht,hz,hzs⟩
  case call c =>
   exfalso
   simp only [compile,ho,compileCall] at hcomp
   revert hcomp;(repeat' split)<;>simp
  case makeFunc fn first caps =>
   exfalso
   cases fn<;>simp only [compile,ho,reduceCtorEq] at hcomp
   revert hcomp;split<;>simp
  case makeMap T' n =>
   exfalso
   cases n<;>simp only [compile,ho,reduceCtorEq] at hcomp
   revert hcomp;split<;>simp
  case slice T' x lo hi mx =>
   exfalso
   cases mx<;>simp only [compile,ho,reduceCtorEq] at hcomp
   revert hcomp;(repeat' split)<;>simp
  all_goals
   exfalso;simp only [compile,ho] at hcomp;revert hcomp
   (try (repeat' split))<;>simp
   all_goals (intro x _;split<;>simp)
 obtain ⟨t,z,ho,ht,hz,hzs⟩:=hop
 have hrun:(execOp a.eval o).run P w=.ok (.value (.pointer (some ⟨w.heap.size,0,none⟩))) (w.alloc (.cells z.cells T)):=by
  simp [execOp,ho,Instr.alloc,zeroValue,typeInfo,ht,hz,newVar,newRow]
 obtain ⟨μ',h1,h2,h3⟩:=dead_box hS hid T _ _ (constVs_CR (w:=w) (σ:=σ) (μ:=μ) hzs)
 unfold Oper.wp
 rw [hrun]
 simp only [Oper.upon]
 rw [hp] at hok
 have hd':o.dst=some d:=hd
 rw [hd']
 have:=hF.upd (v:=.pointer (some ⟨w.heap.size,0,none⟩)) (r:=.ptr id 0) hok h3.keep (fun _ _ _ _=>h2) (fun h=>by simp [chainB] at h)
 rw [hp] at hR
 exact hR μ' _ _ h1 this h3.keep
def allX:List Ob→(List Ob→Prop)→Prop
 | [],p=>p []
 | _::b,p=>∀ X,allX b fun Xs=>p (X::Xs)
def deads (b:List Ob):List Ob:=b.map fun _=>.dead
theorem allX_ok:∀ {b:List Ob} {p:List Ob→Prop},allX b p→∀ Xs,Xs.length=b.length→p Xs
 | [],p,h,Xs,hl=>by simp only [List.length_nil,List.length_eq_zero_iff] at hl;subst hl;exact h
 | _::b,p,h,Xs,hl=>by
  cases Xs with
  | nil=>simp at hl
  | cons X Xs=>exact allX_ok (h X) Xs (by simpa using hl)
def runF (P:Program) (bx:List Ob):List (List Pi×Pi×List Pi)→List (List Pi×Pi×List Pi)→List Pi→(St→Prop)→List V→Store→Prop
 | [],[],last,K,fr,τ=>runC P [] last (fun st=>K ⟨st.fr,τ++bx⟩) ⟨fr,τ++deads bx⟩
 | [],(sil,L,chk)::ds,last,K,fr,τ=>runC P [] sil (fun st1=>gI P L (fun st2=>(∀ p∈chk,chkF p st2)∧runD P ds last K st2) ⟨st1.fr,τ++bx⟩) ⟨fr,τ++deads bx⟩
 | (sil,L,chk)::ds1,ds2,last,K,fr,τ=>runC P [] sil (fun st1=>allX bx fun Xs=>gI P L (fun st2=>(∀ p∈chk,chkF p st2)∧st2.σ=τ++Xs∧runF P bx ds1 ds2 last K st2.fr τ) ⟨st1.fr,τ++Xs⟩) ⟨fr,τ++deads bx⟩
def boxOf (p:Pi):Ob:=match p.i with
 | .alloc T zs=>.box T zs
 | _=>.dead
def bxs (pis:List Pi) (fl:List Nat):List Ob:=fl.map fun f=>boxOf (pin pis f)
def obF (pis:List Pi) (fl:List Nat) (listed:Array Bool):List Ob:=fl.map fun f=>bif listed.getD f false then boxOf (pin pis f) else .dead
structure XOF (pis:List Pi) (bs:List Nat) (m:Nat) (ls fl:List Nat) (k1:Nat):Prop where
 flo:∀ f∈fl,f<m∧f ∉ ls∧∃ d T zs,pin pis f=⟨some d,[],.alloc T zs⟩
 nd:fl.Nodup
 kl:k1≤ls.length
 late:∀ (k L f:Nat),k1≤k→ls[k]?=some L→f∈fl→tb bs L f=true
section
variable {P:Program} {ops:Array Oper} {pis:List Pi} {bs:List Nat} {m:Nat} {ls fl:List Nat} {k1:Nat}
theorem obF_all {listed:Array Bool} (h:∀ f∈fl,Lst listed f):obF pis fl listed=bxs pis fl:=by
 refine List.map_congr_left fun f hf=>?_
 have:listed.getD f false=true:=h f hf
 rw [this];rfl
theorem le_deads (τ:Store) (listed:Array Bool):Le (τ++deads (bxs pis fl)) (τ++obF pis fl listed):=by
 intro id o ho
 by_cases hid:id<τ.length
 ·rw [List.getElem?_append_left hid] at ho ⊢;exact .inr ho
 ·rw [List.getElem?_append_right (by omega)] at ho
  simp only [deads,bxs,List.map_map,List.getElem?_map,Option.map_eq_some_iff] at ho
  obtain ⟨_,_,rfl⟩:=ho
  exact .inl rfl
theorem obF_set (hF:XOF pis bs m ls fl k1) {listed:Array Bool} {i:Nat} (hi:i<listed.size) (hfi:i ∉ fl):obF pis fl (listed.setIfInBounds i true)=obF pis fl listed:=by
 refine List.map_congr_left fun f hf=>?_
 have h2:=lst_set (listed:=listed) (j:=f) hi
 have hne:f≠i:=fun e=>hfi (e▸hf)
 simp only [hne,false_or,Lst] at h2
 have:(listed.setIfInBounds i true).getD f false=listed.getD f false:=by cases h3:listed.getD f false<;>simp_all
 rw [this]
theorem obF_new (hF:XOF pis bs m ls fl k1) {listed:Array Bool} {j f:Nat} (hi:f<listed.size) (hj:fl[j]?=some f):obF pis fl (listed.setIfInBounds f true)=(obF pis fl listed).set j (boxOf (pin pis f)):=by
 refine List.ext_getElem? fun x=>?_
 have hjl:j<fl.length:=(List.getElem?_eq_some_iff.1 hj).1
 by_cases hx:j=x
 ·subst hx
  rw [List.getElem?_set_self (by simpa [obF] using hjl)]
  have:(listed.setIfInBounds f true).getD f false=true:=(lst_set hi).2 (.inl rfl)
  simp only [obF,List.getElem?_map,hj,Option.map_some,this,cond_true]
 ·rw [List.getElem?_set_ne hx]
  simp only [obF,List.getElem?_map]
  cases hy:fl[x]? with
  | none=>rfl
  | some y =>
   have hne:y≠f:=by
    rintro rfl
    exact hx ((List.getElem?_inj hjl hF.nd).1 (hj.trans hy.symm))
   have h2:=lst_set (listed:=listed) (j:=y) hi
   simp only [hne,false_or,Lst] at h2
   have:(listed.setIfInBounds f true).getD y false=listed.getD y false:=by cases h3:listed.getD y false<;>simp_all
   simp only [Option.map_some,this]
def RestF (P:Program) (pis:List Pi) (bs:List Nat) (m:Nat) (ls fl:List Nat) (k1:Nat) (Kt:St→Prop) (k:Nat) (fr:List V) (τ:Store):Prop :=
 match (ls.take k1)[k]? with
 | some L=>allX (bxs pis fl) fun Xs=>gI P (pin pis L) (fun st2=>(∀ p∈(chkX pis bs m ls k L).map (pin pis),chkF p st2)∧st2.σ=τ++Xs ∧
   runF P (bxs pis fl) (stX pis bs m ls (k+1) ((ls.take k1).drop (k+1))) (stX pis bs m ls k1 (ls.drop k1)) ((silX pis bs m ls ls.length).map (pin pis)) Kt st2.fr τ) ⟨fr,τ++Xs⟩
 | none=>RestD P pis bs m ls Kt k fr (τ++bxs pis fl)
theorem XOK.openF (hX:XOK ops pis bs m ls fl) (hF:XOF pis bs m ls fl k1) {Kt:St→Prop} {k:Nat} (hk:k≤k1) {fr:List V} {τ:Store}
  (h:runF P (bxs pis fl) (stX pis bs m ls k ((ls.take k1).drop k)) (stX pis bs m ls k1 (ls.drop k1)) ((silX pis bs m ls ls.length).map (pin pis)) Kt fr τ) :
  ∃ fr',RestF P pis bs m ls fl k1 Kt k fr' τ∧(∀ i∈silX pis bs m ls k,Fact (pin pis i) fr' (τ++deads (bxs pis fl)))∧(∀ t,(∀ i∈silX pis bs m ls k,(pin pis i).d≠some t)→fr'[t]?=fr[t]?)∧fr'.length=fr.length:=by
 have hpw:(silX pis bs m ls k).Pairwise (fun i j=>∀ t,(pin pis j).d=some t→t ∉ looks (pin pis i)∧(pin pis i).d≠some t):=by
  refine List.Pairwise.imp_of_mem ?_ (List.Pairwise.filter _ List.pairwise_lt_range)
  intro i j hi hj hlt t hd
  replace hi:=(mem_silX (k:=k)).1 hi
  replace hj:=(mem_silX (k:=k)).1 hj
  refine ⟨fun ht=>?_,fun hd'=>?_⟩
  ·have:=hX.lt hi.1 hj.1 (hX.looks_tb hi.1 hj.1 hd ht);omega
  ·have:=hX.dst i j t hi.1 hj.1 hd' hd;omega
 have hself:∀ i∈silX pis bs m ls k,∀ t,(pin pis i).d=some t→t ∉ looks (pin pis i):=fun i hi t hd ht=>by
  rw [mem_silX] at hi
  have:=hX.lt hi.1 hi.1 (hX.looks_tb hi.1 hi.1 hd ht);omega
 have hsil:∀ i∈silX pis bs m ls k,(pin pis i).i.silent=true:=fun i hi=>(mem_silX.1 hi).2.1
 have hkl:=hF.kl
 have hlen:(ls.take k1).length=k1:=by rw [List.length_take];omega
 by_cases hk1:k<k1
 ·have e:(ls.take k1).drop k=(ls.take k1)[k]::(ls.take k1).drop (k+1):=List.drop_eq_getElem_cons (by omega)
  rw [e] at h
  simp only [stX,runF] at h
  obtain ⟨fr',h1,h2,h3,h4⟩:=silRun _ _ h hsil hpw hself
  refine ⟨fr',?_,h2,h3,h4⟩
  simp only [RestF,List.getElem?_eq_getElem (show k<(ls.take k1).length by omega)]
  exact h1
 ·have hk':k=k1:=by omega
  subst hk'
  rw [List.drop_of_length_le (by omega)] at h
  have en:(ls.take k)[k]?=none:=List.getElem?_eq_none (by omega)
  by_cases hl:k<ls.length
  ·have e:ls.drop k=ls[k]::ls.drop (k+1):=List.drop_eq_getElem_cons hl
   rw [e] at h
   simp only [stX,runF] at h
   obtain ⟨fr',h1,h2,h3,h4⟩:=silRun _ _ h hsil hpw hself
   refine ⟨fr',?_,h2,h3,h4⟩
   simp only [RestF,en,RestD,List.getElem?_eq_getElem hl]
   exact h1
  ·have hk2:k=ls.length:=by omega
   subst hk2
   rw [List.drop_length] at h
   simp only [stX,runF] at h
   obtain ⟨fr',h1,h2,h3,h4⟩:=silRun _ _ h hsil hpw hself
   refine ⟨fr',?_,h2,h3,h4⟩
   have e:ls[ls.length]?=none:=List.getElem?_eq_none (Nat.le_refl _)
   simp only [RestF,en,RestD,e]
   exact h1
theorem prefix_soundF (hX:XOK ops pis bs m ls fl) (hXF:XOF pis bs m ls fl k1) (hp:cPis P ops ops.toList=some pis) {n B n0:Nat} {gs:List Nat} {w0 ws:World} {σs:Store} {μs:Mem} {K:St→Prop} {Q:Exit→Act→World→Prop}
  (hQ:∀ st w μ a,K st→Sim P B w0 w st.σ μ→FR w st.σ μ st.fr a→KeepN n ws σs μs w st.σ μ→Q .normal a w) (ht:okL (D0 pis m) (pis.drop m) gs=true) :
  ∀ (fuel k:Nat) (listed:Array Bool) (fr:List V) (τ:Store) (w:World) (μ:Mem) (a:Act),listed.size=ops.size →
   (∀ i j,i<pis.length→j<pis.length→Lst listed i→tb bs i j=true→Lst listed j)→(∀ i,m≤i→i<pis.length→¬ Lst listed i)→k≤k1 →
   (∀ j L,ls[j]?=some L→(Lst listed L↔j<k))→(∀ i,i<m→(pin pis i).i.silent=true→sgx bs ls i≤k→¬ Lst listed i→Fact (pin pis i) fr (τ++obF pis fl listed)) →
   τ.length=n0→(∀ j f d,fl[j]?=some f→(pin pis f).d=some d→setd fr (some d) (.ptr (n0+j) 0)=fr) →
   RestF P pis bs m ls fl k1 (runC P gs (pis.drop m) K) k fr τ→unl pis.length listed≤fuel →
   Sim P B w0 w (τ++obF pis fl listed) μ→FRi w (τ++obF pis fl listed) μ fr (winf pis m listed) a→KeepN n ws σs μs w (τ++obF pis fl listed) μ→wpAny P .any ops Q fuel listed a w:=by
 have hn:pis.length=ops.size:=by rw [(cPis_at hp).1,Array.length_toList]
 have hm:=hX.mn
 have hkl:=hXF.kl
 have hlen:(ls.take k1).length=k1:=by rw [List.length_take];omega
 have done:∀ (fuel k:Nat) (listed:Array Bool) (fr:List V) (τ:Store) (w:World) (μ:Mem) (a:Act),listed.size=ops.size →
   (∀ i j,i<pis.length→j<pis.length→Lst listed i→tb bs i j=true→Lst listed j)→(∀ i,m≤i→i<pis.length→¬ Lst listed i)→k=k1→(∀ f∈fl,Lst listed f) →
   (∀ j L,ls[j]?=some L→(Lst listed L↔j<k))→(∀ i,i<m→(pin pis i).i.silent=true→sgx bs ls i≤k→¬ Lst listed i→Fact (pin pis i) fr (τ++obF pis fl listed)) →
   RestF P pis bs m ls fl k1 (runC P gs (pis.drop m) K) k fr τ→unl pis.length listed≤fuel →
   Sim P B w0 w (τ++obF pis fl listed) μ→FRi w (τ++obF pis fl listed) μ fr (winf pis m listed) a→KeepN n ws σs μs w (τ++obF pis fl listed) μ→wpAny P .any ops Q fuel listed a w:=by
  intro fuel k listed fr τ w μ a hsz hc htl hk hfl hlo hfa hre hu hS hF hkn
  subst hk
  have en:(ls.take k)[k]?=none:=List.getElem?_eq_none (by omega)
  simp only [RestF,en] at hre
  rw [obF_all hfl] at hfa hS hF hkn
  exact prefix_sound hX hp hQ ht fuel k listed fr _ w μ a hsz hfl hc htl hkl hlo hfa hre hu hS hF hkn
 intro fuel
 induction fuel with
 | zero =>
  intro k listed fr τ w μ a hsz hc htl hk hlo hfa hn0 hdst hre hu hS hF hkn
  have hnone:∀ i,i<pis.length→Lst listed i:=fun i hi=>Classical.byContradiction fun h=>by have:=unl_pos hi h;omega
  have hall:∀ i,i<m→Lst listed i:=fun i hi=>hnone i (by omega)
  have hkl:k=k1:=by
   refine Classical.byContradiction fun hne=>?_
   have hlt:k<ls.length:=by omega
   have:=(hlo k ls[k] (List.getElem?_eq_getElem hlt)).1 (hall _ (hX.lsm _ (List.getElem_mem hlt)).1)
   omega
  exact done 0 k listed fr τ w μ a hsz hc htl hkl (fun f hf=>hall f (hXF.flo f hf).1) hlo hfa hre hu hS hF hkn
 | succ fuel ih =>
  intro k listed fr τ w μ a hsz hc htl hk hlo hfa hn0 hdst hre hu hS hF hkn
  by_cases hdone:k=k1∧∀ f∈fl,Lst listed f
  ·exact done _ k listed fr τ w μ a hsz hc htl hdone.1 hdone.2 hlo hfa hre hu hS hF hkn
  have hnall:¬ ∀ i,i<m→Lst listed i:=by
   intro hall
   refine hdone ⟨?_,fun f hf=>hall f (hXF.flo f hf).1⟩
   refine Classical.byContradiction fun hne=>?_
   have hlt:k<ls.length:=by omega
   have:=(hlo k ls[k] (List.getElem?_eq_getElem hlt)).1 (hall _ (hX.lsm _ (List.getElem_mem hlt)).1)
   omega
  refine ⟨fun h=>absurd (fun i hi=>hX.first hsz h i (by omega)) hnall,fun i hi=>?_⟩
  obtain ⟨hio,hun,o,ho,_⟩:=ready_un hsz hi
  have hin:i<pis.length:=by omega
  have hal:∀ j,j<pis.length→tb bs i j=true→Lst listed j:=fun j hj ht=>hX.ready hn hsz hc hi hj ht
  have him:i<m:=by
   refine Classical.byContradiction fun h=>hnall fun j hj=>?_
   exact hal j (by omega) (hX.tail i j (by omega) hin (by omega))
  obtain ⟨p,hpi,hcp⟩:=(cPis_at hp).2 i o (by simpa using ho)
  have hpin:pin pis i=p:=by simp [pin,List.getD_eq_getElem?_getD,hpi]
  have hok:OkOp (winf pis m listed) p:=hpin▸hX.okop hc him hun hal
  have hclos':∀ x j,x<pis.length→j<pis.length→Lst (listed.setIfInBounds i true) x→tb bs x j=true→Lst (listed.setIfInBounds i true) j:=by
   intro x j hx hj hl ht
   rw [lst_set (by omega)] at hl ⊢
   rcases hl with rfl | hl
   ·exact .inr (hal j hj ht)
   ·exact .inr (hc x j hx hj hl ht)
  have htl':∀ x,m≤x→x<pis.length→¬ Lst (listed.setIfInBounds i true) x:=by
   intro x hx hxn hl
   rw [lst_set (by omega)] at hl
   rcases hl with rfl | hl
   ·omega
   ·exact htl x hx hxn hl
  have hu':unl pis.length (listed.setIfInBounds i true)≤fuel:=by
   have:=unl_set hin (by omega:i<listed.size) hun;omega
  have hsg:∀ x,x<m→(pin pis x).i.silent=true→(∀ j,j<pis.length→tb bs x j=true→Lst listed j)→sgx bs ls x≤k:=by
   intro x hx hs hal'
   refine Classical.byContradiction fun hlt=>?_
   have h1:sgx bs ls x≤ls.length:=List.length_filter_le _ _
   have h2:k<ls.length:=by omega
   have h3:=(hX.sil x k ls[k] hx hs (List.getElem?_eq_getElem h2)).2 (by omega)
   have h4:=hal' ls[k] (by have:=(hX.lsm _ (List.getElem_mem h2)).1;omega) h3
   have:=(hlo k ls[k] (List.getElem?_eq_getElem h2)).1 h4
   omega
  have e:updI (winf pis m listed) p=winf pis m (listed.setIfInBounds i true):=by rw [← hpin];exact hX.updI him (by omega)
  simp only [wpOp,ho]
  by_cases hs:p.i.silent=true
  ·
   have hsi:(pin pis i).i.silent=true:=by rw [hpin];exact hs
   have hfi:i ∉ fl:=fun h=>by
    obtain ⟨d,T,zs,h2⟩:=(hXF.flo i h).2.2
    rw [h2] at hsi;simp [I.silent] at hsi
   have hf:=hfa i him hsi (hsg i him hsi hal) hun
   rw [hpin] at hf
   refine opG0 hcp hS hF hok (fact_GI hf) ?_
   intro r σ' μ' a' w' k1 k2 k3 k4
   simp only [St.mk.injEq] at k1
   obtain ⟨k1,rfl⟩:=k1
   rw [k1,e] at k3
   have eo:=obF_set (pis:=pis) hXF (listed:=listed) (i:=i) (by omega) hfi
   refine ih k _ fr τ w' μ' a' (by simpa using hsz) hclos' htl' hk (fun j L hL=>?_) (fun x hx hxs hxk hxl=>?_) hn0 hdst hre hu' (by rw [eo];exact k2) (by rw [eo];exact k3) (by rw [eo];exact hkn.trans k4.toN)
   ·rw [lst_set (by omega),hlo j L hL]
    have:L≠i:=fun e=>by
     have:=(hX.lsm L (List.mem_of_getElem? hL)).2
     rw [e,hsi] at this;simp at this
    simp [this]
   ·rw [eo];exact hfa x hx hxs hxk fun h=>hxl ((lst_set (by omega)).2 (.inr h))
  ·have hsi:(pin pis i).i.silent=false:=by rw [hpin];simpa using hs
   rcases hX.loud i him hsi with hil | hil
   ·
    obtain ⟨j,hj⟩:=List.mem_iff_getElem?.1 hil
    have hfi:i ∉ fl:=fun h=>(hXF.flo i h).2.1 hil
    have hjl:j<ls.length:=(List.getElem?_eq_some_iff.1 hj).1
    have hj1:¬ j<k:=fun h=>hun ((hlo j i hj).2 h)
    have hjk:j=k:=by
     refine Classical.byContradiction fun hne=>?_
     have hkl:k<ls.length:=by omega
     have h2:=hX.lord k j i ls[k] (by omega) (List.getElem?_eq_getElem hkl) hj
     have h3:=hal ls[k] (by have:=(hX.lsm _ (List.getElem_mem hkl)).1;omega) h2
     have:=(hlo k ls[k] (List.getElem?_eq_getElem hkl)).1 h3
     omega
    subst hjk
    have hjk1:j<k1:=by
     refine Classical.byContradiction fun h=>hdone ⟨by omega,fun f hf=>?_⟩
     exact hal f (by have:=(hXF.flo f hf).1;omega) (hXF.late j i f (by omega) hj hf)
    have hjt:(ls.take k1)[j]?=some i:=by rw [List.getElem?_take,if_pos hjk1];exact hj
    simp only [RestF,hjt,hpin] at hre
    have hre2:=allX_ok hre (obF pis fl listed) (by simp [obF,bxs])
    refine opG hcp hS hF hok hre2 ?_
    intro r σ' μ' a' w' k1 k2 k3 k4
    obtain ⟨hchk,hst,hrun⟩:=k1
    simp only at hst
    subst hst
    obtain ⟨fr',h1,h2,h3,h4⟩:=hX.openF hXF (k:=j+1) (by omega) hrun
    rw [e] at k3
    have eo:=obF_set (pis:=pis) hXF (listed:=listed) (i:=i) (by omega) hfi
    have hnew:∀ x∈silX pis bs m ls (j+1),¬ Lst (listed.setIfInBounds i true) x:=by
     intro x hx hl
     rw [mem_silX] at hx
     rw [lst_set (by omega)] at hl
     rcases hl with rfl | hl
     ·rw [hsi] at hx;simp at hx
     ·have:=hsg x hx.1 hx.2.1 fun y hy ht=>hc x y (by omega) hy hl ht
      omega
    have hagree:∀ t y,y<m→(pin pis y).d=some t→Lst (listed.setIfInBounds i true) y→fr'[t]?=(setd fr p.d r)[t]?:=by
     intro t y hy hd hl
     refine h3 t fun x hx hxd=>hnew x hx ?_
     rw [hX.dst x y t (mem_silX.1 hx).1 hy hxd hd];exact hl
    have hF':FRi w' (τ++obF pis fl listed) μ' fr' (winf pis m (listed.setIfInBounds i true)) a':=by
     refine ⟨k3.1,by rw [h4];exact k3.2.1,fun t x hx ch hch=>?_⟩
     have hxt:fr'[t]?=(setd fr p.d r)[t]?:=by
      rcases winf_cases hch with ⟨_,hno⟩ | ⟨y,hy,hd,hl,_⟩
      ·exact h3 t fun x hx=>hno x (mem_silX.1 hx).1
      ·exact hagree t y hy hd hl
     have hcc:chainB fr' ch=chainB (setd fr p.d r) ch:=by
      refine chainB_agree fun q hq=>?_
      rcases winf_cases hch with ⟨rfl,_⟩ | ⟨y,hy,hd,hl,rfl⟩
      ·simp at hq
      ·obtain ⟨z,hz,hzd,hzt⟩:=hX.chain y q hy hq
       exact hagree q.1 z hz hzd (hclos' y z (by omega) (by omega) hl hzt)
     rw [hcc]
     rw [hxt] at hx
     exact k3.2.2 t x hx ch hch
    refine ih (j+1) _ fr' τ w' μ' a' (by simpa using hsz) hclos' htl' (by omega) (fun y L hL=>?_) (fun x hx hxs hxk hxl=>?_) hn0 (fun y f d hy hd=>?_) h1 hu' (by rw [eo];exact k2) (by rw [eo];exact hF') (by rw [eo];exact hkn.trans k4.toN)
    ·rw [lst_set (by omega),hlo y L hL]
     constructor
     ·rintro (rfl | h)
      ·refine Classical.byContradiction fun hne=>?_
       have h5:=hX.lord j y L L (by omega) hj hL
       have:=hX.lt him him h5
       omega
      ·omega
     ·intro h
      rcases Nat.lt_or_ge y j with h5 | h5
      ·exact .inr h5
      ·have:y=j:=by omega
       subst this
       rw [hL] at hj
       simp only [Option.some.injEq] at hj
       exact .inl hj
    ·rw [eo]
     by_cases hxj:sgx bs ls x=j+1
     ·exact (h2 x (mem_silX.2 ⟨hx,hxs,hxj⟩)).le (le_deads τ listed)
     ·have hxj':sgx bs ls x≤j:=by omega
      have hxun:¬ Lst listed x:=fun h=>hxl ((lst_set (by omega)).2 (.inr h))
      have hnot:¬ tb bs i x=true:=fun h=>hxun (hal x (by omega) h)
      have hf2:Fact (pin pis x) (setd fr p.d r) (τ++obF pis fl listed):=by
       by_cases hr:(pin pis x).i.reads=true
       ·exact (hchk (pin pis x) (List.mem_map.2 ⟨x,by simp [chkX,hx,hxs,hr,hxj',hnot],rfl⟩)).fact
       ·have hr':(pin pis x).i.reads=false:=by simpa using hr
        refine Fact.still (Fact.agree (hfa x hx hxs hxj' hxun) (fun t ht=>?_) (fun t ht=>?_) setd_len) hr'
        ·refine setd_other fun hd=>?_
         have h5:=hX.looks_tb hx him (hpin▸hd) ht
         have:=(hX.sil x j i hx hxs hj).1 h5
         omega
        ·refine setd_other fun hd=>?_
         have:=hX.dst x i t hx him ht (hpin▸hd)
         subst this
         rw [hxs] at hsi;simp at hsi
      refine Fact.agree hf2 (fun t ht=>?_) (fun t ht=>?_) h4
      ·refine h3 t fun y hy hyd=>?_
       rw [mem_silX] at hy
       have:=hX.mono x y t hx hxs hy.1 hy.2.1 hyd ht
       omega
      ·refine h3 t fun y hy hyd=>?_
       rw [mem_silX] at hy
       have:=hX.dst x y t hx hy.1 ht hyd
       subst this
       omega
    ·have h5:=hdst y f d hy hd
     have hfm:=(hXF.flo f (List.mem_of_getElem? hy)).1
     have h6:fr'[d]?=fr[d]?:=by
      rw [h3 d fun x hx hxd=>?_]
      ·refine setd_other fun hpd=>?_
       have:=hX.dst f i d hfm him hd (hpin▸hpd)
       exact hfi (this▸List.mem_of_getElem? hy)
      ·have:=hX.dst f x d hfm (mem_silX.1 hx).1 hd hxd
       have h7:=(mem_silX.1 hx).2.1
       obtain ⟨d',T,zs,h8⟩:=(hXF.flo f (List.mem_of_getElem? hy)).2.2
       rw [← this,h8] at h7;simp [I.silent] at h7
     rw [setd_same] at h5 ⊢
     intro t ht' hl
     have h7:=h5 t ht' (by rw [h4,setd_len] at hl;exact hl)
     simp only [Option.some.injEq] at ht'
     subst ht'
     rw [h6];exact h7
   ·
    obtain ⟨j,hj⟩:=List.mem_iff_getElem?.1 hil
    obtain ⟨_,hnl,d,T,zs,hfp⟩:=hXF.flo i hil
    rw [hpin] at hfp
    have hjl:j<fl.length:=(List.getElem?_eq_some_iff.1 hj).1
    have hlf:listed.getD i false=false:=by
     cases h:listed.getD i false with
     | false=>rfl
     | true=>exact absurd h hun
    have hid:(τ++obF pis fl listed)[n0+j]?=some .dead:=by
     rw [List.getElem?_append_right (by omega),hn0,Nat.add_sub_cancel_left]
     simp only [obF,List.getElem?_map,hj,Option.map_some,hlf,cond_false]
    have eb:boxOf (pin pis i)=.box T zs:=by rw [hpin,hfp];rfl
    have eo:τ++obF pis fl (listed.setIfInBounds i true)=(τ++obF pis fl listed).set (n0+j) (.box T zs):=by
     rw [obF_new hXF (by omega) hj,eb,List.set_append_right _ _ (by omega),hn0,Nat.add_sub_cancel_left]
    have hdd:p.d=some d:=by rw [hfp]
    have hset:=hdst j i d hj (by rw [hpin];exact hdd)
    have hle:Le (τ++obF pis fl listed) ((τ++obF pis fl listed).set (n0+j) (.box T zs)):=by
     intro id o ho
     by_cases he:n0+j=id
     ·subst he
      rw [hid] at ho
      simp only [Option.some.injEq] at ho
      exact .inl ho.symm
     ·rw [List.getElem?_set_ne he];exact .inr ho
    refine alloc_dead hcp hfp hS hF hok hid ?_
    intro μ' a' w' k2 k3 k4
    rw [hset,e] at k3
    refine ih k _ fr τ w' μ' a' (by simpa using hsz) hclos' htl' hk (fun y L hL=>?_) (fun x hx hxs hxk hxl=>?_) hn0 hdst hre hu' (by rw [eo];exact k2) (by rw [eo];exact k3) (by rw [eo];exact hkn.trans k4.toN)
    ·rw [lst_set (by omega),hlo y L hL]
     have:L≠i:=fun e=>hnl (e▸List.mem_of_getElem? hL)
     simp [this]
    ·rw [eo]
     exact (hfa x hx hxs hxk fun h=>hxl ((lst_set (by omega)).2 (.inr h))).le hle
def flsX (pis:List Pi) (fl:List Nat):List (Nat×Nat×List V):=fl.map fun f=>match pin pis f with
 | ⟨some d,_,.alloc T zs⟩=>(d,T,zs)
 | _=>(0,0,[])
def bxOf (fls:List (Nat×Nat×List V)):List Ob:=fls.map fun x=>.box x.2.1 x.2.2
def setF:Nat→List (Nat×Nat×List V)→List V→List V
 | _,[],fr=>fr
 | n,x::r,fr=>setF (n+1) r (fr.set x.1 (.ptr n 0))
theorem setF_other {t:Nat}:∀ {l:List (Nat×Nat×List V)} {n:Nat} {fr:List V},(∀ x∈l,x.1≠t)→(setF n l fr)[t]?=fr[t]?
 | [],_,_,_=>rfl
 | x::l,n,fr,h=>by
  rw [setF,setF_other fun y hy=>h y (by simp [hy]),List.getElem?_set_ne (h x (by simp))]
theorem setF_len:∀ {l:List (Nat×Nat×List V)} {n:Nat} {fr:List V},(setF n l fr).length=fr.length
 | [],_,_=>rfl
 | x::l,n,fr=>by rw [setF,setF_len];simp
theorem setF_at:∀ {l:List (Nat×Nat×List V)} {n j:Nat} {fr:List V} {x:Nat×Nat×List V},l.Pairwise (fun a b=>a.1≠b.1)→l[j]?=some x→x.1<fr.length→(setF n l fr)[x.1]?=some (.ptr (n+j) 0)
 | [],_,_,_,_,_,h,_=>by simp at h
 | y::l,n,0,fr,x,hp,h,hl=>by
  simp only [List.getElem?_cons_zero,Option.some.injEq] at h
  subst h
  rw [List.pairwise_cons] at hp
  rw [setF,setF_other fun z hz=>Ne.symm (hp.1 z hz),List.getElem?_set_self hl,Nat.add_zero]
 | y::l,n,j+1,fr,x,hp,h,hl=>by
  rw [List.pairwise_cons] at hp
  rw [setF,setF_at (j:=j) hp.2 (by simpa using h) (by simpa using hl)]
  congr 2;omega
theorem Sim.deads {P:Program} {B:Nat} {w0 w:World}:∀ (b:List Ob) {σ:Store} {μ:Mem},Sim P B w0 w σ μ→∃ μ',Sim P B w0 w (σ++Go.Pm.deads b) μ'∧Pres w σ μ w (σ++Go.Pm.deads b) μ'
 | [],σ,μ,h=>⟨μ,by simpa [Go.Pm.deads] using h,by simpa [Go.Pm.deads] using Pres.refl w σ μ⟩
 | _::b,σ,μ,h=>by
  obtain ⟨h1,h2⟩:=h.newOb (w':=w) .dead undef ⟨rfl,rfl,rfl,Nat.le_refl _,fun _ _ _=>rfl⟩ (by simp [blk,undef]) fun _=>trivial
  obtain ⟨μ',h3,h4⟩:=Sim.deads b h1
  have e:σ++[Ob.dead]++Go.Pm.deads b=σ++Go.Pm.deads (.dead::b):=by simp [Go.Pm.deads]
  rw [e] at h3 h4
  exact ⟨μ',h3,h2.trans h4⟩
def okF (pis:List Pi) (bs:List Nat) (m:Nat) (ls fl:List Nat) (k1:Nat):Bool :=
 (fl.all fun f=>decide (f<m)&&(!ls.contains f&&match pin pis f with
  | ⟨some _,[],.alloc _ _⟩=>true
  | _=>false))&&(decide fl.Nodup&&(decide (k1≤ls.length)&&(ls.drop k1).all fun L=>fl.all fun f=>tb bs L f))
theorem okF_ok (h:okF pis bs m ls fl k1=true):XOF pis bs m ls fl k1:=by
 simp only [okF,Bool.and_eq_true,List.all_eq_true,decide_eq_true_eq,Bool.not_eq_true'] at h
 obtain ⟨h1,h2,h3,h4⟩:=h
 refine ⟨fun f hf=>?_,h2,h3,fun k L f hk hL hf=>h4 L ?_ f hf⟩
 ·obtain ⟨h5,h6,h7⟩:=h1 f hf
  refine ⟨h5,by simpa using h6,?_⟩
  split at h7
  ·rename_i d T zs e;exact ⟨d,T,zs,e⟩
  ·simp at h7
 ·refine List.mem_of_getElem? (i:=k - k1) ?_
  rw [List.getElem?_drop,← hL];congr 1;omega
theorem region_drawFA {n B:Nat} {gs:List Nat} {K:St→Prop} {Q:Exit→Act→World→Prop} (hp:cPis P ops ops.toList=some pis) (hok:okX ops pis bs m ls fl=true) (hokF:okF pis bs m ls fl k1=true)
  (ht:okL (D0 pis m) (pis.drop m) gs=true) {fr:List V} {σ:Store} {w0 w:World} {μ:Mem} {a:Act}
  (h:runF P (bxOf (flsX pis fl)) (stX pis bs m ls 0 (ls.take k1)) (stX pis bs m ls k1 (ls.drop k1)) ((silX pis bs m ls ls.length).map (pin pis)) (runC P gs (pis.drop m) K) (setF σ.length (flsX pis fl) fr) σ)
  (hS:Sim P B w0 w σ μ) (hF:FR w σ μ fr a)
  (hQ:∀ st' w' μ' a',K st'→Sim P B w0 w' st'.σ μ'→FR w' st'.σ μ' st'.fr a'→KeepN n w σ μ w' st'.σ μ'→Q .normal a' w'):wpAny P .any ops Q ops.size (Array.replicate ops.size false) a { w with drawn:=w.drawn+1 }:=by
 have hn:pis.length=ops.size:=by rw [(cPis_at hp).1,Array.length_toList]
 have hX:=okX_ok hok hn
 have hXF:=okF_ok hokF
 have hbx:bxOf (flsX pis fl)=bxs pis fl:=by
  simp only [bxOf,flsX,bxs,List.map_map]
  refine List.map_congr_left fun f hf=>?_
  obtain ⟨d,T,zs,e⟩:=(hXF.flo f hf).2.2
  simp [e,boxOf]
 rw [hbx] at h
 have hfa:∀ (j f d:Nat),fl[j]?=some f→(pin pis f).d=some d→∃ x,(flsX pis fl)[j]?=some x∧x.1=d:=by
  intro j f d hj hd
  obtain ⟨d',T,zs,e⟩:=(hXF.flo f (List.mem_of_getElem? hj)).2.2
  rw [e] at hd
  simp only [Option.some.injEq] at hd
  exact ⟨(d',T,zs),by simp [flsX,hj,e],hd⟩
 have hof:∀ x∈flsX pis fl,∃ f,f∈fl∧(pin pis f).d=some x.1:=by
  intro x hx
  simp only [flsX,List.mem_map] at hx
  obtain ⟨f,hf,rfl⟩:=hx
  obtain ⟨d,T,zs,e⟩:=(hXF.flo f hf).2.2
  exact ⟨f,hf,by simp [e]⟩
 have hpw:(flsX pis fl).Pairwise (fun a b=>a.1≠b.1):=by
  rw [flsX,List.pairwise_map]
  refine hXF.nd.imp_of_mem ?_
  intro f g hf hg hne he
  obtain ⟨d,T,zs,e⟩:=(hXF.flo f hf).2.2
  obtain ⟨d',T',zs',e'⟩:=(hXF.flo g hg).2.2
  simp only [e,e'] at he
  subst he
  exact hne (hX.dst f g d (hXF.flo f hf).1 (hXF.flo g hg).1 (by rw [e]) (by rw [e']))
 obtain ⟨hS',hpr⟩:=hS.grown (w':={ w with drawn:=w.drawn+1 }) ⟨rfl,rfl,rfl,Nat.le_refl _,fun _ _ _=>rfl⟩
 obtain ⟨μ1,hS1,hpr1⟩:=hS'.deads (bxs pis fl)
 have hk:=hpr.keep.trans hpr1.keep
 have hF':=hF.keep hk
 obtain ⟨fr',h1,h2,h3,h4⟩:=hX.openF hXF (k:=0) (Nat.zero_le _) (by simpa using h)
 have hnl:∀ i,¬ Lst (Array.replicate ops.size false) i:=by
  intro i
  simp only [Lst,Array.getD_eq_getD_getElem?,Array.getElem?_replicate]
  split<;>simp
 have eo:obF pis fl (Array.replicate ops.size false)=deads (bxs pis fl):=by
  simp only [obF,deads,bxs,List.map_map]
  refine List.map_congr_left fun f _=>?_
  have:(Array.replicate ops.size false).getD f false=false:=by
   cases hh:(Array.replicate ops.size false).getD f false with
   | false=>rfl
   | true=>exact absurd hh (hnl f)
  simp [this]
 refine prefix_soundF (n:=n) hX hXF hp (fun st' w' μ' a' k1 k2 k3 k4=>hQ st' w' μ' a' k1 k2 k3 (KeepN.trans hk.toN k4)) ht ops.size 0 _ fr' σ _ μ1 a (by simp) (fun i j _ _ hl=>absurd hl (hnl i)) (fun i _ _=>hnl i) (Nat.zero_le _)
  (fun j L hL=>⟨fun hl=>absurd hl (hnl L),fun h=>by omega⟩) (fun i hi hs hsg _=>by rw [eo];exact h2 i (mem_silX.2 ⟨hi,hs,by omega⟩)) rfl (fun j f d hj hd=>?_) h1 (by rw [hn];unfold unl;exact Nat.le_trans (List.length_filter_le _ _) (by simp)) (by rw [eo];exact hS1) ?_ (by rw [eo];exact KeepN.refl _ _ _ _)
 ·have hfm:=(hXF.flo f (List.mem_of_getElem? hj)).1
  obtain ⟨x,hx,rfl⟩:=hfa j f d hj hd
  rw [setd_same]
  intro t ht' hl
  simp only [Option.some.injEq] at ht'
  subst ht'
  rw [h3 x.1 fun y hy hyd=>?_]
  ·exact setF_at hpw hx (by rwa [h4,setF_len] at hl)
  ·have:=hX.dst f y x.1 hfm (mem_silX.1 hy).1 hd hyd
   have h7:=(mem_silX.1 hy).2.1
   obtain ⟨d',T,zs,h8⟩:=(hXF.flo f (List.mem_of_getElem? hj)).2.2
   rw [← this,h8] at h7;simp [I.silent] at h7
 ·rw [eo]
  refine ⟨hF'.1,by rw [h4,setF_len];exact hF'.2.1,fun t x hx ch hch=>?_⟩
  rcases winf_cases hch with ⟨rfl,hno⟩ | ⟨y,hy,hd,hl,_⟩
  ·rw [h3 t fun i hi=>hno i (mem_silX.1 hi).1,setF_other fun y hy e=>?_] at hx
   ·exact ⟨fun _=>hF'.2.2 t x hx,fun h=>by simp [chainB] at h⟩
   ·obtain ⟨f,hf,hfd⟩:=hof y hy
    exact hno f (hXF.flo f hf).1 (e▸hfd)
  ·exact absurd hl (hnl y)
end
inductive PCode where
 | skip
 | reg (gs:List Nat) (is:List Pi)
 | dreg (ds:List (List Pi×Pi×List Pi)) (last:List Pi) (gs:List Nat) (tail:List Pi)
 | seq (a b:PCode)
 | ite (c:O) (a b:PCode)
 | block (id:Nat) (c:PCode)
 | loop (c:PCode)
 | exit (id:Nat)
 | ret
 | both (a b:PCode)
 | dfl (fls:List (Nat×Nat×List V)) (ds1 ds2:List (List Pi×Pi×List Pi)) (last:List Pi) (gs:List Nat) (tail:List Pi)
def gsOf (pis:List Pi):List Nat:=pis.filterMap fun p=>if p.g.isEmpty then none else p.d
def cReg (P:Program) (ops:Array Oper):Option PCode :=
 match cPis P ops ops.toList with
 | some pis=>if okL [] pis (gsOf pis) then some (.reg (gsOf pis) pis) else none
 | none=>none
def cDreg (P:Program) (ops:Array Oper) (bs:List Nat):Option PCode :=
 if P.follows .mixedOrders then match cPis P ops ops.toList with
  | some pis =>
   let m:=mX bs pis.length
   let ls:=(List.range m).filter fun i=>!(pin pis i).i.silent
   if okX ops pis bs m ls []&&okL (D0 pis m) (pis.drop m) (gsOf pis) then
    some (.dreg (stX pis bs m ls 0 ls) ((silX pis bs m ls ls.length).map (pin pis)) (gsOf pis) (pis.drop m)) else none
  | none=>none
 else none
def isAlloc:Op→Bool
 | .alloc _ | .box _ _=>true
 | _=>false
def allocAt (ops:Array Oper):List Nat:=(List.range ops.size).filter fun i=>match ops[i]? with
 | some o=>isAlloc o.op
 | none=>false
def cBoth (P:Program) (ops:Array Oper):Option PCode :=
 match allocAt ops with
 | [i,j]=>if i≠j∧i<ops.size∧j<ops.size∧P.follows .mixedOrders=true∧((List.range ops.size).all fun x=>x==i||(x==j||match ops[x]? with | some o=>plainOp o.op | none=>true))=true then
   match cDreg P (waitsFor ops j i) (Region.before (waitsFor ops j i)).toList,cDreg P (swOps (waitsFor ops i j) i j) (Region.before (swOps (waitsFor ops i j) i j)).toList with
   | some a,some b=>some (.both a b)
   | _,_=>none
  else none
 | _=>none
def isFl (pis:List Pi) (bs:List Nat) (m i:Nat):Bool:=match pin pis i with
 | ⟨some _,[],.alloc _ _⟩=>(List.range m).any fun j=>!(pin pis j).i.silent&&(j != i&&(!tb bs i j&&!tb bs j i))
 | _=>false
def cFl (P:Program) (ops:Array Oper) (bs:List Nat):Option PCode :=
 if P.follows .mixedOrders then match cPis P ops ops.toList with
  | some pis =>
   let m:=mX bs pis.length
   let fl:=(List.range m).filter (isFl pis bs m)
   let ls:=(List.range m).filter fun i=>!(pin pis i).i.silent&&!fl.contains i
   let k1:=(ls.filter fun L=>!fl.all (tb bs L)).length
   if okX ops pis bs m ls fl&&(okF pis bs m ls fl k1&&okL (D0 pis m) (pis.drop m) (gsOf pis)) then
    some (.dfl (flsX pis fl) (stX pis bs m ls 0 (ls.take k1)) (stX pis bs m ls k1 (ls.drop k1)) ((silX pis bs m ls ls.length).map (pin pis)) (gsOf pis) (pis.drop m)) else none
  | none=>none
 else none
def cRegD (P:Program) (ops:Array Oper):Option PCode :=
 match cDreg P ops (Region.before ops).toList with
 | some c=>some c
 | none=>match cBoth P ops with
  | some c=>some c
  | none=>cFl P ops (Region.before ops).toList
def cCode (P:Program):Code→Option PCode
 | .skip=>some .skip
 | .region _ ops false=>cReg P ops
 | .region _ ops true=>cRegD P ops
 | .seq a b=>match cCode P a,cCode P b with
  | some a,some b=>some (.seq a b)
  | _,_=>none
 | .cond c a b=>match cO c,cCode P a,cCode P b with
  | some c,some a,some b=>some (.ite c a b)
  | _,_,_=>none
 | .block id c=>(cCode P c).map (.block id)
 | .loop c=>(cCode P c).map .loop
 | .exit id=>some (.exit id)
 | .ret=>some .ret
 | _=>none
theorem cReg_some {P:Program} {ops:Array Oper} {c:PCode} (h:cReg P ops=some c):∃ pis,cPis P ops ops.toList=some pis∧okL [] pis (gsOf pis)=true∧c=.reg (gsOf pis) pis:=by
 unfold cReg at h
 split at h
 ·rename_i pis hp
  split at h<;>simp only [Option.some.injEq,reduceCtorEq] at h
  rename_i hok
  exact ⟨pis,hp,hok,h.symm⟩
 ·simp at h
theorem cDreg_some {P:Program} {ops:Array Oper} {bs:List Nat} {c:PCode} (h:cDreg P ops bs=some c) :
  P.follows .mixedOrders=true∧∃ pis m ls,cPis P ops ops.toList=some pis∧okX ops pis bs m ls []=true∧okL (D0 pis m) (pis.drop m) (gsOf pis)=true ∧
   c=.dreg (stX pis bs m ls 0 ls) ((silX pis bs m ls ls.length).map (pin pis)) (gsOf pis) (pis.drop m):=by
 unfold cDreg at h
 split at h
 ·rename_i hm
  split at h
  ·rename_i pis hp
   dsimp only at h
   split at h<;>simp only [Option.some.injEq,reduceCtorEq] at h
   rename_i hok
   rw [Bool.and_eq_true] at hok
   exact ⟨hm,pis,_,_,hp,hok.1,hok.2,h.symm⟩
  ·simp at h
 ·simp at h
theorem cBoth_some {P:Program} {ops:Array Oper} {c:PCode} (h:cBoth P ops=some c):∃ i j a b,i≠j∧i<ops.size∧j<ops.size∧P.follows .mixedOrders=true ∧
  (∀ x o,x≠i→x≠j→ops[x]?=some o→plainOp o.op=true)∧cDreg P (waitsFor ops j i) (Region.before (waitsFor ops j i)).toList=some a ∧
  cDreg P (swOps (waitsFor ops i j) i j) (Region.before (swOps (waitsFor ops i j) i j)).toList=some b∧c=.both a b:=by
 unfold cBoth at h
 split at h
 ·rename_i i j hal
  split at h
  ·rename_i hc
   obtain ⟨h1,h2,h3,h4,h5⟩:=hc
   split at h<;>simp only [Option.some.injEq,reduceCtorEq] at h
   rename_i a b ha hb
   refine ⟨i,j,a,b,h1,h2,h3,h4,fun x o hx1 hx2 ho=>?_,ha,hb,h.symm⟩
   simp only [List.all_eq_true,List.mem_range,Bool.or_eq_true,beq_iff_eq] at h5
   have:=h5 x (Array.getElem?_eq_some_iff.1 ho).1
   rw [ho] at this
   rcases this with h | h | h
   ·exact absurd h hx1
   ·exact absurd h hx2
   ·exact h
  ·simp at h
 ·simp at h
theorem cFl_some {P:Program} {ops:Array Oper} {bs:List Nat} {c:PCode} (h:cFl P ops bs=some c) :
  P.follows .mixedOrders=true∧∃ pis m ls fl k1,cPis P ops ops.toList=some pis∧okX ops pis bs m ls fl=true∧okF pis bs m ls fl k1=true∧okL (D0 pis m) (pis.drop m) (gsOf pis)=true ∧
   c=.dfl (flsX pis fl) (stX pis bs m ls 0 (ls.take k1)) (stX pis bs m ls k1 (ls.drop k1)) ((silX pis bs m ls ls.length).map (pin pis)) (gsOf pis) (pis.drop m):=by
 unfold cFl at h
 split at h
 ·rename_i hm
  split at h
  ·rename_i pis hp
   dsimp only at h
   split at h<;>simp only [Option.some.injEq,reduceCtorEq] at h
   rename_i hok
   rw [Bool.and_eq_true,Bool.and_eq_true] at hok
   exact ⟨hm,pis,_,_,_,_,hp,hok.1,hok.2.1,hok.2.2,h.symm⟩
  ·simp at h
 ·simp at h
theorem cRegD_some {P:Program} {ops:Array Oper} {c:PCode} (h:cRegD P ops=some c) :
  (∃ ds last gs tail,c=.dreg ds last gs tail∧cDreg P ops (Region.before ops).toList=some c)∨(∃ a b,c=.both a b∧cBoth P ops=some c) ∨
   (∃ fls ds1 ds2 last gs tail,c=.dfl fls ds1 ds2 last gs tail∧cFl P ops (Region.before ops).toList=some c):=by
 unfold cRegD at h
 split at h
 ·rename_i c' hc
  simp only [Option.some.injEq] at h
  subst h
  obtain ⟨_,pis,m,ls,_,_,_,he⟩:=cDreg_some hc
  exact .inl ⟨_,_,_,_,he,hc⟩
 ·split at h
  ·rename_i c' hc
   simp only [Option.some.injEq] at h
   subst h
   obtain ⟨i,j,a,b,_,_,_,_,_,_,_,he⟩:=cBoth_some hc
   exact .inr (.inl ⟨a,b,he,hc⟩)
  ·obtain ⟨_,pis,m,ls,fl,k1,_,_,_,_,he⟩:=cFl_some h
   exact .inr (.inr ⟨_,_,_,_,_,_,he,h⟩)
def PWc (n:Nat) (P:Program) (c:PCode) (K:Exit→St→Prop) (st:St):Prop:=∀ code,cCode P code=some c→PW n P code K st
theorem PWc.mono {n:Nat} {P:Program} {c:PCode} {K K':Exit→St→Prop} {st:St} (h:PWc n P c K st) (hk:∀ e st',K e st'→K' e st'):PWc n P c K' st :=
 fun code hc=>(h code hc).mono hk
section rules
variable {n:Nat} {P:Program} {K:Exit→St→Prop} {st:St}
theorem PWc.skip (h:K .normal st):PWc n P .skip K st:=by
 intro code hc
 cases code
 case skip=>exact PW.skip h
 all_goals first | (exfalso;revert hc;simp only [cCode];try ((repeat' split)<;>simp);done) | (rename_i _ ops draw;exfalso;cases draw<;>simp only [cCode] at hc<;>first | (obtain ⟨_,_,_,h⟩:=cReg_some hc;simp at h;done) | (rcases cRegD_some hc with ⟨_,_,_,_,h,_⟩ | ⟨_,_,h,_⟩ | ⟨_,_,_,_,_,_,h,_⟩<;>simp at h;done))
theorem PWc.reg {gs:List Nat} {is:List Pi} (h:runC P gs is (K .normal) st):PWc n P (.reg gs is) K st:=by
 intro code hc
 cases code
 case region id ops draw =>
  cases draw
  ·simp only [cCode] at hc
   obtain ⟨ps,hps,hok,he⟩:=cReg_some hc
   simp only [PCode.reg.injEq] at he
   obtain ⟨rfl,rfl⟩:=he
   intro B w0 w μ a hS hF
   refine wp_region ?_
   have:=runC_sound (P:=P) (ops:=ops) (n:=n) (B:=B) (gs:=gsOf is) (w0:=w0) (ws:=w) (σs:=st.σ) (μs:=μ) (K:=K .normal) (Q:=Post P n B w0 w st.σ μ K)
    (fun st' w' μ' a' h1 h2 h3 h4=>⟨st',μ',h1,h2,h3,h4⟩) ops.toList 0 is [] st.fr st.σ w μ a (fun j=>by simp) hps hok h hS hF.toI (KeepN.refl _ _ _ _)
   simp only [Nat.zero_add,List.map_id',Array.length_toList] at this
   exact this
  ·simp only [cCode] at hc
   rcases cRegD_some hc with ⟨_,_,_,_,h,_⟩ | ⟨_,_,h,_⟩ | ⟨_,_,_,_,_,_,h,_⟩<;>simp at h
 all_goals first | (exfalso;revert hc;simp only [cCode];try ((repeat' split)<;>simp);done)
theorem PWc.dreg {ds:List (List Pi×Pi×List Pi)} {last:List Pi} {gs:List Nat} {tail:List Pi} (h:runD P ds last (runC P gs tail (K .normal)) st):PWc n P (.dreg ds last gs tail) K st:=by
 intro code hc
 cases code
 case region id ops draw =>
  cases draw
  ·simp only [cCode] at hc
   obtain ⟨_,_,_,h⟩:=cReg_some hc
   simp at h
  ·simp only [cCode] at hc
   rcases cRegD_some hc with ⟨_,_,_,_,_,hc⟩ | ⟨_,_,h,_⟩ | ⟨_,_,_,_,_,_,h,_⟩
   rotate_left
   ·simp at h
   ·simp at h
   obtain ⟨hm,pis,m,ls,hps,hok,htl,he⟩:=cDreg_some hc
   simp only [PCode.dreg.injEq] at he
   obtain ⟨rfl,rfl,rfl,rfl⟩:=he
   intro B w0 w μ a hS hF
   exact region_draw (n:=n) hm hps hok htl h hS hF fun st' w' μ' a' h1 h2 h3 h4=>⟨st',μ',h1,h2,h3,h4⟩
 all_goals first | (exfalso;revert hc;simp only [cCode];try ((repeat' split)<;>simp);done)
theorem cDreg_any {ops:Array Oper} {bs:List Nat} {c:PCode} (hc:cDreg P ops bs=some c) (h:∃ ds last gs tail,c=.dreg ds last gs tail∧runD P ds last (runC P gs tail (K .normal)) st)
  {B:Nat} {w0 w:World} {μ:Mem} {a:Act} (hS:Sim P B w0 w st.σ μ) (hF:FR w st.σ μ st.fr a) :
  wpAny P .any ops (fun e a' w'=>∃ st' μ',K e st'∧Sim P B w0 w' st'.σ μ'∧FR w' st'.σ μ' st'.fr a'∧KeepN n w st.σ μ w' st'.σ μ') ops.size (Array.replicate ops.size false) a { w with drawn:=w.drawn+1 }:=by
 obtain ⟨hm,pis,m,ls,hps,hok,htl,rfl⟩:=cDreg_some hc
 obtain ⟨ds,last,gs,tail,he,h⟩:=h
 simp only [PCode.dreg.injEq] at he
 obtain ⟨rfl,rfl,rfl,rfl⟩:=he
 exact region_drawA (n:=n) hps hok htl h hS hF fun st' w' μ' a' h1 h2 h3 h4=>⟨st',μ',h1,h2,h3,h4⟩
theorem PWc.both {x y:PCode} (h1:∃ ds last gs tail,x=.dreg ds last gs tail∧runD P ds last (runC P gs tail (K .normal)) st) (h2:∃ ds last gs tail,y=.dreg ds last gs tail∧runD P ds last (runC P gs tail (K .normal)) st) :
  PWc n P (.both x y) K st:=by
 intro code hc
 cases code
 case region id ops draw =>
  cases draw
  ·simp only [cCode] at hc
   obtain ⟨_,_,_,h⟩:=cReg_some hc
   simp at h
  ·simp only [cCode] at hc
   rcases cRegD_some hc with ⟨_,_,_,_,h,_⟩ | ⟨a,b,h,hc⟩ | ⟨_,_,_,_,_,_,h,_⟩
   ·simp at h
   rotate_left
   ·simp at h
   obtain ⟨i,j,a',b',hij,hi,hj,hm,hp,ha,hb,he⟩:=cBoth_some hc
   simp only [PCode.both.injEq] at he
   obtain ⟨rfl,rfl⟩:=he
   intro B w0 w μ a hS hF
   refine region_split hm hij hi hj hp ?_ ?_
   ·have:=cDreg_any (n:=n) ha h1 hS hF
    rwa [waitsFor_size] at this
   ·have:=cDreg_any (n:=n) hb h2 hS hF
    rwa [swOps_size,waitsFor_size] at this
 all_goals first | (exfalso;revert hc;simp only [cCode];try ((repeat' split)<;>simp);done)
theorem PWc.dfl {fls:List (Nat×Nat×List V)} {ds1 ds2:List (List Pi×Pi×List Pi)} {last:List Pi} {gs:List Nat} {tail:List Pi}
  (h:runF P (bxOf fls) ds1 ds2 last (runC P gs tail (K .normal)) (setF st.σ.length fls st.fr) st.σ):PWc n P (.dfl fls ds1 ds2 last gs tail) K st:=by
 intro code hc
 cases code
 case region id ops draw =>
  cases draw
  ·simp only [cCode] at hc
   obtain ⟨_,_,_,h⟩:=cReg_some hc
   simp at h
  ·simp only [cCode] at hc
   rcases cRegD_some hc with ⟨_,_,_,_,h,_⟩ | ⟨_,_,h,_⟩ | ⟨_,_,_,_,_,_,_,hc⟩
   ·simp at h
   ·simp at h
   obtain ⟨hm,pis,m,ls,fl,k1,hps,hok,hokF,htl,he⟩:=cFl_some hc
   simp only [PCode.dfl.injEq] at he
   obtain ⟨rfl,rfl,rfl,rfl,rfl,rfl⟩:=he
   intro B w0 w μ a hS hF
   exact wp_region_any hm (region_drawFA (n:=n) hps hok hokF htl h hS hF fun st' w' μ' a' h1 h2 h3 h4=>⟨st',μ',h1,h2,h3,h4⟩)
 all_goals first | (exfalso;revert hc;simp only [cCode];try ((repeat' split)<;>simp);done)
theorem PWc.ret (h:K .ret st):PWc n P .ret K st:=by
 intro code hc
 cases code
 case ret=>exact PW.ret h
 all_goals first | (exfalso;revert hc;simp only [cCode];try ((repeat' split)<;>simp);done) | (rename_i _ ops draw;exfalso;cases draw<;>simp only [cCode] at hc<;>first | (obtain ⟨_,_,_,h⟩:=cReg_some hc;simp at h;done) | (rcases cRegD_some hc with ⟨_,_,_,_,h,_⟩ | ⟨_,_,h,_⟩ | ⟨_,_,_,_,_,_,h,_⟩<;>simp at h;done))
theorem PWc.exit {id:Nat} (h:K (.exit id) st):PWc n P (.exit id) K st:=by
 intro code hc
 cases code
 case exit id'=>simp only [cCode,Option.some.injEq,PCode.exit.injEq] at hc;subst hc;exact PW.exit h
 all_goals first | (exfalso;revert hc;simp only [cCode];try ((repeat' split)<;>simp);done) | (rename_i _ ops draw;exfalso;cases draw<;>simp only [cCode] at hc<;>first | (obtain ⟨_,_,_,h⟩:=cReg_some hc;simp at h;done) | (rcases cRegD_some hc with ⟨_,_,_,_,h,_⟩ | ⟨_,_,h,_⟩ | ⟨_,_,_,_,_,_,h,_⟩<;>simp at h;done))
def thenC (n:Nat) (P:Program) (y:PCode) (K:Exit→St→Prop):Exit→St→Prop
 | .normal,st=>PWc n P y K st
 | e,st=>K e st
theorem PWc.seq {x y:PCode} (h:PWc n P x (thenC n P y K) st):PWc n P (.seq x y) K st:=by
 intro code hc
 cases code
 case seq p q =>
  simp only [cCode] at hc
  split at hc<;>simp only [Option.some.injEq,reduceCtorEq,PCode.seq.injEq] at hc
  rename_i p' q' hp hq
  obtain ⟨rfl,rfl⟩:=hc
  refine PW.seq ((h p hp).mono ?_)
  intro e st' hK
  cases e<;>first | exact hK q hq | exact hK
 all_goals first | (exfalso;revert hc;simp only [cCode];try ((repeat' split)<;>simp);done) | (rename_i _ ops draw;exfalso;cases draw<;>simp only [cCode] at hc<;>first | (obtain ⟨_,_,_,h⟩:=cReg_some hc;simp at h;done) | (rcases cRegD_some hc with ⟨_,_,_,_,h,_⟩ | ⟨_,_,h,_⟩ | ⟨_,_,_,_,_,_,h,_⟩<;>simp at h;done))
theorem PWc.block {id:Nat} {c:PCode} (h:PWc n P c (blockK id K) st):PWc n P (.block id c) K st:=by
 intro code hc
 cases code
 case block id' c' =>
  simp only [cCode,Option.map_eq_some_iff,PCode.block.injEq] at hc
  obtain ⟨c2,hc2,rfl,rfl⟩:=hc
  exact PW.block (h c' hc2)
 all_goals first | (exfalso;revert hc;simp only [cCode];try ((repeat' split)<;>simp);done) | (rename_i _ ops draw;exfalso;cases draw<;>simp only [cCode] at hc<;>first | (obtain ⟨_,_,_,h⟩:=cReg_some hc;simp at h;done) | (rcases cRegD_some hc with ⟨_,_,_,_,h,_⟩ | ⟨_,_,h,_⟩ | ⟨_,_,_,_,_,_,h,_⟩<;>simp at h;done))
theorem PWc.loop {c:PCode} (I:St→Prop) (m:St→Nat) (h0:I st) (h:∀ st,I st→PWc n P c (loopK I m (m st) K) st):PWc n P (.loop c) K st:=by
 intro code hc
 cases code
 case loop c' =>
  simp only [cCode,Option.map_eq_some_iff,PCode.loop.injEq] at hc
  obtain ⟨c2,hc2,rfl⟩:=hc
  exact PW.loop I m h0 fun st hI=>h st hI c' hc2
 all_goals first | (exfalso;revert hc;simp only [cCode];try ((repeat' split)<;>simp);done) | (rename_i _ ops draw;exfalso;cases draw<;>simp only [cCode] at hc<;>first | (obtain ⟨_,_,_,h⟩:=cReg_some hc;simp at h;done) | (rcases cRegD_some hc with ⟨_,_,_,_,h,_⟩ | ⟨_,_,h,_⟩ | ⟨_,_,_,_,_,_,h,_⟩<;>simp at h;done))
theorem PWc.ite {c:O} {x y:PCode} {b:Bool} (hb:ev st.fr c=.b b) (ht:b=true→PWc n P x K st) (hf:b=false→PWc n P y K st):PWc n P (.ite c x y) K st:=by
 intro code hc
 cases code
 case cond c' p q =>
  simp only [cCode] at hc
  split at hc<;>simp only [Option.some.injEq,reduceCtorEq,PCode.ite.injEq] at hc
  rename_i c2 p' q' hcc hp hq
  obtain ⟨rfl,rfl,rfl⟩:=hc
  intro B w0 w μ a hS hF
  have hv:=(hb▸cO_ok hF hcc).inv_b
  cases b
  ·exact wp_cond_false hv (hf rfl q hq B w0 w μ a hS hF)
  ·exact wp_cond_true hv (ht rfl p hp B w0 w μ a hS hF)
 all_goals first | (exfalso;revert hc;simp only [cCode];try ((repeat' split)<;>simp);done) | (rename_i _ ops draw;exfalso;cases draw<;>simp only [cCode] at hc<;>first | (obtain ⟨_,_,_,h⟩:=cReg_some hc;simp at h;done) | (rcases cRegD_some hc with ⟨_,_,_,_,h,_⟩ | ⟨_,_,h,_⟩ | ⟨_,_,_,_,_,_,h,_⟩<;>simp at h;done))
end rules
inductive V.Wf:V→Prop
 | s (l:List UInt8) (h:l.length≤maxLen):Wf (.s l)
 | sl (sz:Nat) (xs:List (List V)) (h:xs.length≤maxLen) (hr:∀ r∈xs,r.length=sz) (hx:∀ i j x,at2 xs i j=some x→Wf x):Wf (.sl sz xs)
 | agg (xs:List V) (h:∀ (i:Nat) (x:V),xs[i]?=some x→Wf x):Wf (.agg xs)
 | b (x):Wf (.b x)
 | i (k n):Wf (.i k n)
 | u:Wf .u
 | nil:Wf .nil
 | lit (sz xs):Wf (.lit sz xs)
 | own (id g):Wf (.own id g)
 | sub (id g lo hi):Wf (.sub id g lo hi)
 | ptr (id off):Wf (.ptr id off)
 | ep (sz xs i off):Wf (.ep sz xs i off)
 | rp (id g i off):Wf (.rp id g i off)
 | mp (id):Wf (.mp id)
 | nilmap:Wf .nilmap
 | nilptr:Wf .nilptr
 | fn (f caps):Wf (.fn f caps)
 | tup (xs):Wf (.tup xs)
theorem VR.wf {w:World} {σ:Store} {μ:Mem} {x:V} {v:Value} (h:VR w σ μ x v):x.Wf:=by
 induction h with
 | u v=>exact .u
 | b x=>exact .b x
 | i k n=>exact .i k n
 | s l x hl hm=>exact .s l hm
 | nil=>exact .nil
 | sl0 sz=>exact .sl sz [] (by simp) (by simp) (by simp [at2])
 | sle sz a=>exact .sl sz [] (by simp) (by simp) (by simp [at2])
 | sl sz xs b o cap f hlen hcap hrow hc hv ih=>exact .sl sz xs (Nat.le_trans hlen hcap) hrow ih
 | lit0 sz=>exact .lit sz _
 | lit sz xs b o f hcap hrow hc hv ih=>exact .lit sz xs
 | own id g v hid h=>exact .own id g
 | sub id g lo hi v hid h=>exact .sub id g lo hi
 | ptr id off b h hm=>exact .ptr id off
 | ep sz xs i off b o f hi hrow hc hv ih=>exact .ep sz xs i off
 | rp id g i off v hid h=>exact .rp id g i off
 | mp id r h hm=>exact .mp id
 | nilmap=>exact .nilmap
 | nilptr=>exact .nilptr
 | fn f caps vs hl hv ih=>exact .fn f caps
 | agg xs vs hl hv ih=>exact .agg xs ih
 | tup xs vs hl hv ih=>exact .tup xs
def Closed (σ:Store):Prop:=∀ (id T:Nat) (cs:List V),σ[id]?=some (.box T cs)→∀ (j:Nat) (x:V),cs[j]?=some x→x.Lt σ.length
theorem Sim.closed {P:Program} {B:Nat} {w0 w:World} {σ:Store} {μ:Mem} (hS:Sim P B w0 w σ μ):Closed σ:=by
 intro id T cs h j x hx
 obtain ⟨b,vs,_,_,_,_,hcs⟩:=hS.boxAt h
 obtain ⟨u,_,hv⟩:=hcs j x hx
 exact hv.lt
def Wk (P:Program) (n:Nat) (xs:List V) (σ:Store) (xs':List V) (σ':Store):Prop :=
 ∀ (B:Nat) (w0 w:World) (μ:Mem) (vs:Array Value),Sim P B w0 w σ μ→CR w σ μ xs vs→∃ μ',Sim P B w0 w σ' μ'∧CR w σ' μ' xs' vs∧KeepN n w σ μ w σ' μ'
theorem Wk.refl {P:Program} {n:Nat} (xs:List V) (σ:Store):Wk P n xs σ xs σ:=fun _ _ _ μ _ h1 h2=>⟨μ,h1,h2,KeepN.refl _ _ _ _⟩
theorem Wk.trans {P:Program} {n:Nat} {xs:List V} {σ:Store} {xs':List V} {σ':Store} {xs'':List V} {σ'':Store} (h:Wk P n xs σ xs' σ') (k:Wk P n xs' σ' xs'' σ''):Wk P n xs σ xs'' σ'':=by
 intro B w0 w μ vs h1 h2
 obtain ⟨μ1,h3,h4,h5⟩:=h B w0 w μ vs h1 h2
 obtain ⟨μ2,h6,h7,h8⟩:=k B w0 w μ1 vs h3 h4
 exact ⟨μ2,h6,h7,h5.trans h8⟩
theorem PWc.wk {P:Program} {n:Nat} {c:PCode} {K:Exit→St→Prop} {fr fr':List V} {σ σ':Store} (h:Wk P n fr σ fr' σ') (k:PWc n P c K ⟨fr',σ'⟩):PWc n P c K ⟨fr,σ⟩:=by
 intro code hc B w0 w μ a hS hF
 obtain ⟨μ',h1,h2,h3⟩:=h B w0 w μ a.tmps hS ⟨hF.2.1.symm,hF.2.2⟩
 exact wp_mono (k code hc B w0 w μ' a h1 ⟨hF.1,h2.1.symm,h2.2⟩) fun e a' w' ⟨st',μ2,h4,h5,h6,h7⟩=>⟨st',μ2,h4,h5,h6,h3.trans h7⟩
theorem PC.wk {P:Program} {f:Nat} {args args':List V} {σ σ':Store} {Q:V→Store→Prop} (h:Wk P σ.length args σ args' σ') (k:PC P f args' σ' Q):PC P f args σ Q:=by
 intro B w0 w μ vs hS hv
 obtain ⟨μ',h1,h2,h3⟩:=h B w0 w μ vs hS ⟨hv.1.symm,hv.2⟩
 refine (k B w0 w μ' vs h1 ⟨h2.1.symm,h2.2⟩).mono ?_
 rintro e w' ⟨r,v,σ2,μ2,rfl,h4,h5,h6,h7⟩
 exact ⟨r,v,σ2,μ2,rfl,h4,h5,h6,fun x u hx=>h7 x u (h3 x u hx hx.lt)⟩
inductive Cv:V→V→Prop
 | refl (x):Cv x x
 | forget (x):Cv x .u
 | nil (sz):Cv .nil (.sl sz [])
 | lit (sz xs):Cv (.lit sz xs) (.sl sz xs)
 | agg (xs ys:List V) (hl:ys.length=xs.length) (h:∀ (i:Nat) (x y:V),xs[i]?=some x→ys[i]?=some y→Cv x y):Cv (.agg xs) (.agg ys)
 | tup (xs ys:List V) (hl:ys.length=xs.length) (h:∀ (i:Nat) (x y:V),xs[i]?=some x→ys[i]?=some y→Cv x y):Cv (.tup xs) (.tup ys)
theorem Cv.ok {w:World} {σ:Store} {μ:Mem} {x y:V} (h:Cv x y):∀ {v:Value},VR w σ μ x v→VR w σ μ y v:=by
 induction h with
 | refl x=>exact fun h=>h
 | forget x=>exact fun _=>.u _
 | nil sz=>intro v h;rw [h.inv_nil];exact .sl0 _
 | lit sz xs =>
  intro v h
  rcases h.inv_lit with ⟨rfl,rfl⟩ | ⟨b,o,f,rfl,hm,hr⟩
  ·exact .sl0 _
  ·exact .sl _ _ b o _ f (Nat.le_refl _) hm hr.1 hr.2.1 hr.2.2
 | agg xs ys hl hc ih =>
  intro v h
  obtain ⟨vs,rfl,h1,h2⟩:=h.inv_agg
  refine .agg ys vs (by rw [hl,h1]) fun i y hy=>?_
  have hi:i<xs.length:=by rw [← hl];exact (List.getElem?_eq_some_iff.1 hy).1
  exact ih i xs[i] y (List.getElem?_eq_getElem hi) hy (h2 i _ (List.getElem?_eq_getElem hi))
 | tup xs ys hl hc ih =>
  intro v h
  obtain ⟨vs,rfl,h1,h2⟩:=h.inv_tup
  refine .tup ys vs (by rw [hl,h1]) fun i y hy=>?_
  have hi:i<xs.length:=by rw [← hl];exact (List.getElem?_eq_some_iff.1 hy).1
  exact ih i xs[i] y (List.getElem?_eq_getElem hi) hy (h2 i _ (List.getElem?_eq_getElem hi))
inductive Cvs:List V→List V→Prop
 | nil:Cvs [] []
 | cons {x y xs ys} (h:Cv x y) (t:Cvs xs ys):Cvs (x::xs) (y::ys)
theorem Cvs.at {xs ys:List V} (h:Cvs xs ys):ys.length=xs.length∧∀ (i:Nat) (x y:V),xs[i]?=some x→ys[i]?=some y→Cv x y:=by
 induction h with
 | nil=>simp
 | cons h t ih =>
  refine ⟨by simp [ih.1],fun i x y hx hy=>?_⟩
  cases i with
  | zero=>simp only [List.getElem?_cons_zero,Option.some.injEq] at hx hy;subst hx;subst hy;exact h
  | succ i=>exact ih.2 i x y (by simpa using hx) (by simpa using hy)
theorem Cvs.refl (xs:List V):Cvs xs xs:=by
 induction xs with
 | nil=>exact .nil
 | cons x xs ih=>exact .cons (.refl x) ih
theorem Cv.aggs {xs ys:List V} (h:Cvs xs ys):Cv (.agg xs) (.agg ys):=.agg xs ys h.at.1 h.at.2
theorem Wk.cvs {P:Program} {n:Nat} {xs ys:List V} {σ:Store} (h:Cvs xs ys):Wk P n xs σ ys σ:=by
 intro B w0 w μ vs hS hC
 obtain ⟨h1,h2⟩:=h.at
 refine ⟨μ,hS,⟨by rw [h1];exact hC.1,fun i y hy=>?_⟩,KeepN.refl _ _ _ _⟩
 have hi:i<xs.length:=by rw [← h1];exact (List.getElem?_eq_some_iff.1 hy).1
 exact (h2 i xs[i] y (List.getElem?_eq_getElem hi) hy).ok (hC.2 i _ (List.getElem?_eq_getElem hi))
theorem Wk.share {P:Program} {n:Nat} {xs:List V} {σ:Store} {id E sz by' g:Nat} {sh:Bool} {rows:List (List V)} (ho:σ[id]?=some (.row E sz by' g sh rows)):Wk P n xs σ xs (σ.set id (.row E sz by' g true rows)):=by
 intro B w0 w μ vs hS hC
 have hlt:id<σ.length:=(List.getElem?_eq_some_iff.1 ho).1
 have hup:=hS.update (w':=w) (σ':=σ.set id (.row E sz by' g true rows)) (μ':=μ) id none (grownBy_refl w none) (by simp) (by simp) (fun j hj=>List.getElem?_set_ne (fun e=>hj e.symm)) (fun _ _=>rfl)
  (fun b hb=>.inl ⟨_,ho,by simp,hb⟩)
  (fun b off u o h1 _ h2 h3 h4=>⟨h3,fun o' h5 h6=>by
   rw [ho] at h1;simp only [Option.some.injEq] at h1;subst h1
   simp only [List.getElem?_set_self hlt,Option.some.injEq] at h5;subst h5
   intro hw
   exact h4 ⟨id,_,ho,h2,fun _=>hw rfl⟩⟩)
  (fun T cs h=>by rw [ho] at h;simp at h) (fun K E es h=>by rw [ho] at h;simp at h)
  (fun E2 sz2 by2 g2 sh2 xs2 _ h=>by
   simp only [List.getElem?_set_self hlt,Option.some.injEq,Ob.row.injEq] at h
   obtain ⟨rfl,rfl,rfl,rfl,rfl,rfl⟩:=h
   exact ⟨g,sh,rows,ho,Nat.le_refl _,fun _=>⟨rfl,rfl⟩⟩)
  (fun hp o h=>by
   simp only [List.getElem?_set_self hlt,Option.some.injEq] at h;subst h
   exact (hS.obj id _ ho).keep hp.keep fun _ _=>rfl)
 exact ⟨μ,hup.1,⟨hC.1,fun i x hx=>(hC.2 i x hx).mono hup.2⟩,hup.2.keep.toN⟩
theorem VR.ofShared {P:Program} {B:Nat} {w0 w:World} {σ:Store} {μ:Mem} (hS:Sim P B w0 w σ μ) {id E sz by' g:Nat} {rows:List (List V)} (ho:σ[id]?=some (.row E sz by' g true rows)) (lo hi:Nat) (hlh:lo≤hi) (hh:hi≤rows.length) :
  VR w σ μ (.sl sz ((rows.drop lo).take (hi - lo))) (subv (μ id) lo hi sz):=by
 obtain ⟨_,hrow,hr⟩:=hS.rowAt ho
 have hl:((rows.drop lo).take (hi - lo)).length=hi - lo:=by simp;omega
 rcases hr with ⟨hm,hn⟩ | ⟨b,cap,cur,hm,_,hc,hcm,_,hr⟩
 ·subst hn
  simp only [List.length_nil] at hh
  have h3:lo=0:=by omega
  have h4:hi=0:=by omega
  subst h3;subst h4
  rw [hm]
  exact .sl0 sz
 ·rw [hm]
  let f:Nat→Nat→Value:=fun i j=>(w.cell? ⟨b,i*sz+j,none⟩).getD undef
  have hf:∀ i j x,at2 rows i j=some x→w.cell? ⟨b,i*sz+j,none⟩=some (f i j)∧x.pure=true∧VR w σ μ x (f i j):=by
   intro i j x hx
   obtain ⟨h1,u,h2,h3⟩:=hr i j x hx
   have:f i j=u:=by simp [f,h2]
   exact ⟨by rw [this];exact h2,h1,by rw [this];exact h3⟩
  have hnw:∀ i j x,at2 rows i j=some x→¬ wr σ μ b (i*sz+j):=by
   rintro i j x hx ⟨id2,o2,h1,h2,h3⟩
   have hd:o2≠.dead:=by rintro rfl;exact h3
   have:=hS.sep id id2 _ o2 b ho h1 (by simp) hd (by simp [hm,blk]) h2
   subst this
   rw [ho] at h1
   simp only [Option.some.injEq] at h1;subst h1
   have h4:=h3 rfl
   obtain ⟨r,hr1,hr2⟩:=at2_some hx
   have hi':i<rows.length:=(List.getElem?_eq_some_iff.1 hr1).1
   have hj:j<sz:=by rw [← hrow r (List.mem_of_getElem? hr1)];exact (List.getElem?_eq_some_iff.1 hr2).1
   have:(i+1)*sz≤rows.length*sz:=Nat.mul_le_mul_right _ hi'
   rw [Nat.add_mul,Nat.one_mul] at this;omega
  have hat:RowsAt w σ μ rows sz b 0 f:=⟨hrow,fun i j x hx=>⟨by rw [Nat.zero_add];exact (hf i j x hx).1,by rw [Nat.zero_add];exact hnw i j x hx,(hf i j x hx).2.1⟩,fun i j x hx=>(hf i j x hx).2.2⟩
  by_cases he:cap=lo
  ·have h3:hi - lo=0:=by omega
   simp only [subv,he,if_true,h3,List.take_zero,Nat.sub_self]
   exact .sl sz [] b 0 0 f (by simp) (by simp) (by simp) (by simp [at2]) (by simp [at2])
  ·simp only [subv,he,if_false,Option.map_some,Addr.add_lit]
   have h5:=hat.sub lo (hi - lo)
   have h6:=VR.sl (w:=w) (σ:=σ) (μ:=μ) sz _ b _ (cap - lo) _ (by rw [hl];omega) (by omega) h5.1 h5.2.1 h5.2.2
   rwa [hl] at h6
theorem subv_all {P:Program} {B:Nat} {w0 w:World} {σ:Store} {μ:Mem} (hS:Sim P B w0 w σ μ) {id E sz by' g:Nat} {sh:Bool} {rows:List (List V)} (ho:σ[id]?=some (.row E sz by' g sh rows)):subv (μ id) 0 rows.length sz=μ id:=by
 rcases (hS.rowAt ho).2.2 with ⟨hm,hn⟩ | ⟨b,cap,cur,hm,_⟩
 ·subst hn;rw [hm];rfl
 ·rw [hm];simp [subv,Addr.add_lit]
theorem Wk.own {P:Program} {n:Nat} {xs:List V} {σ:Store} {k id E sz by' g:Nat} {rows:List (List V)} (ho:σ[id]?=some (.row E sz by' g true rows)) (hk:xs[k]?=some (.own id g)):Wk P n xs σ (xs.set k (.sl sz rows)) σ:=by
 intro B w0 w μ vs hS hC
 have hlt:k<xs.length:=(List.getElem?_eq_some_iff.1 hk).1
 refine ⟨μ,hS,⟨by simp [hC.1],fun i y hy=>?_⟩,KeepN.refl _ _ _ _⟩
 by_cases hi:i=k
 ·subst hi
  rw [List.getElem?_set_self hlt] at hy
  simp only [Option.some.injEq] at hy;subst hy
  have h1:=hC.2 i _ hk
  have h2:=h1.inv_own ho
  rw [h2]
  have:=VR.ofShared hS ho 0 rows.length (by omega) (Nat.le_refl _)
  rw [subv_all hS ho] at this
  simpa using this
 ·rw [List.getElem?_set_ne (fun e=>hi e.symm)] at hy
  exact hC.2 i y hy
theorem Wk.sub {P:Program} {n:Nat} {xs:List V} {σ:Store} {k id E sz by' g lo hi:Nat} {rows:List (List V)} (ho:σ[id]?=some (.row E sz by' g true rows)) (hk:xs[k]?=some (.sub id g lo hi)):Wk P n xs σ (xs.set k (.sl sz ((rows.drop lo).take (hi - lo)))) σ:=by
 intro B w0 w μ vs hS hC
 have hlt:k<xs.length:=(List.getElem?_eq_some_iff.1 hk).1
 refine ⟨μ,hS,⟨by simp [hC.1],fun i y hy=>?_⟩,KeepN.refl _ _ _ _⟩
 by_cases hi:i=k
 ·subst hi
  rw [List.getElem?_set_self hlt] at hy
  simp only [Option.some.injEq] at hy;subst hy
  obtain ⟨h1,h2,h3⟩:=(hC.2 i _ hk).inv_sub ho
  rw [h3]
  exact VR.ofShared hS ho lo _ h1 h2
 ·rw [List.getElem?_set_ne (fun e=>hi e.symm)] at hy
  exact hC.2 i y hy
theorem Wk.promote {P:Program} {n:Nat} {xs:List V} {σ:Store} {k E sz by':Nat} (hT:Ti P E sz by') (hk:xs[k]?=some .nil):Wk P n xs σ (xs.set k (.own σ.length 0)) (σ++[.row E sz by' 0 false []]):=by
 intro B w0 w μ vs hS hC
 have hlt:k<xs.length:=(List.getElem?_eq_some_iff.1 hk).1
 have hn:=hS.newOb (w':=w) (.row E sz by' 0 false []) (.slice none 0 0) (grownBy_refl w none) (by simp [blk]) (fun _=>⟨hT,[],World.ownsRow_nil w B E sz,by simp,by simp [at2]⟩)
 refine ⟨_,hn.1,⟨by simp [hC.1],fun i y hy=>?_⟩,hn.2.keep.toN⟩
 by_cases hi:i=k
 ·subst hi
  rw [List.getElem?_set_self hlt] at hy
  simp only [Option.some.injEq] at hy;subst hy
  rw [(hC.2 i _ hk).inv_nil]
  have:=VR.ownNow (w:=w) (σ:=σ++[.row E sz by' 0 false []]) (μ:=upd μ σ.length (.slice none 0 0)) (id:=σ.length) (E:=E) (sz:=sz) (by':=by') (g:=0) (sh:=false) (xs:=[]) (by simp)
  rwa [upd_same] at this
 ·rw [List.getElem?_set_ne (fun e=>hi e.symm)] at hy
  exact (hC.2 i y hy).mono hn.2
theorem pure_lt {x:V} (h:x.pure=true) (m:Nat):x.Lt m:=by
 cases x<;>simp [V.pure] at h
 ·exact .b _
 ·exact .i _ _
 ·exact .s _
 ·exact .sl _ _
theorem VR.take {w:World} {σ:Store} {μ:Mem} {x:V} {v:Value} (h:VR w σ μ x v) {m:Nat} (hm:m≤σ.length) (hx:x.Lt m):VR w (σ.take m) μ x v:=by
 have hw:∀ b off,wr (σ.take m) μ b off→wr σ μ b off:=by
  rintro b off ⟨id,o,h1,h2,h3⟩
  refine ⟨id,o,?_,h2,h3⟩
  rw [List.getElem?_take] at h1
  split at h1
  ·exact h1
  ·simp at h1
 have hat:∀ {id:Nat} {o:Ob},id<m→((σ.take m)[id]?=some o↔σ[id]?=some o):=fun h=>by rw [List.getElem?_take_of_lt h]
 have hlen:(σ.take m).length=m:=by simp;omega
 induction h with
 | u v=>exact .u v
 | b x=>exact .b x
 | i k n=>exact .i k n
 | s l x hl hm=>exact .s l x hl hm
 | nil=>exact .nil
 | sl0 sz=>exact .sl0 sz
 | sle sz a=>exact .sle sz a
 | sl sz xs b o cap f hlen hcap hrow hc hv ih =>
  exact .sl sz xs b o cap f hlen hcap hrow (fun i j x hx=>⟨(hc i j x hx).1,fun h=>(hc i j x hx).2.1 (hw _ _ h),(hc i j x hx).2.2⟩) (fun i j x hx=>ih i j x hx (pure_lt (hc i j x hx).2.2 m))
 | lit0 sz=>exact .lit0 sz
 | lit sz xs b o f hcap hrow hc hv ih =>
  exact .lit sz xs b o f hcap hrow (fun i j x hx=>⟨(hc i j x hx).1,fun h=>(hc i j x hx).2.1 (hw _ _ h),(hc i j x hx).2.2⟩) (fun i j x hx=>ih i j x hx (pure_lt (hc i j x hx).2.2 m))
 | own id g v hid h =>
  cases hx with
  | own _ _ hl=>exact .own id g v (by rw [hlen];exact hl) fun E sz by' g' sh xs ho=>h E sz by' g' sh xs ((hat hl).1 ho)
 | sub id g lo hi v hid h =>
  cases hx with
  | sub _ _ _ _ hl=>exact .sub id g lo hi v (by rw [hlen];exact hl) fun E sz by' g' sh xs ho=>h E sz by' g' sh xs ((hat hl).1 ho)
 | ptr id off b h hm =>
  cases hx with
  | ptr _ _ hl =>
   obtain ⟨T,cs,h1⟩:=h
   exact .ptr id off b ⟨T,cs,(hat hl).2 h1⟩ hm
 | ep sz xs i off b o f hi hrow hc hv ih =>
  exact .ep sz xs i off b o f hi hrow (fun j x hx=>⟨(hc j x hx).1,fun h=>(hc j x hx).2.1 (hw _ _ h),(hc j x hx).2.2⟩) (fun j x hx=>ih j x hx (pure_lt (hc j x hx).2.2 m))
 | rp id g i off v hid h =>
  cases hx with
  | rp _ _ _ _ hl=>exact .rp id g i off v (by rw [hlen];exact hl) fun E sz by' g' sh xs ho=>h E sz by' g' sh xs ((hat hl).1 ho)
 | mp id r h hm =>
  cases hx with
  | mp _ hl =>
   obtain ⟨K,E,es,h1⟩:=h
   exact .mp id r ⟨K,E,es,(hat hl).2 h1⟩ hm
 | nilmap=>exact .nilmap
 | nilptr=>exact .nilptr
 | fn f caps vs hl hv ih =>
  cases hx with
  | fn _ _ h=>exact .fn f caps vs hl fun i x hx=>ih i x hx (h i x hx)
 | agg xs vs hl hv ih =>
  cases hx with
  | agg _ h=>exact .agg xs vs hl fun i x hx=>ih i x hx (h i x hx)
 | tup xs vs hl hv ih =>
  cases hx with
  | tup _ h=>exact .tup xs vs hl fun i x hx=>ih i x hx (h i x hx)
theorem mkey_lt {x:V} (h:x.mkey=true) (m:Nat):x.Lt m:=by
 cases x<;>simp [V.mkey] at h
 ·exact .b _
 ·exact .i _ _
 ·exact .s _
 ·rename_i xs
  refine .agg _ fun i x hx=>?_
  have:=h x (List.mem_of_getElem? hx)
  cases x<;>simp [V.scal] at this
  ·exact .b _
  ·exact .i _ _
  ·exact .s _
theorem mval_lt {x:V} (h:x.mval=true) (m:Nat):x.Lt m:=by
 by_cases ha:∃ xs,x=.agg xs
 ·obtain ⟨xs,rfl⟩:=ha
  simp only [V.mval,List.all_eq_true] at h
  exact .agg _ fun i x hx=>pure_lt (h x (List.mem_of_getElem? hx)) m
 ·refine pure_lt ?_ m
  cases x<;>first | exact h | exact absurd ⟨_,rfl⟩ ha
theorem Wk.drop {P:Program} {n m:Nat} {xs:List V} {σ:Store} (hnm:n≤m) (hm:m≤σ.length) (hx:∀ (i:Nat) (x:V),xs[i]?=some x→x.Lt m) (hcl:∀ (id T:Nat) (cs:List V),id<m→σ[id]?=some (.box T cs)→∀ (j:Nat) (x:V),cs[j]?=some x→x.Lt m):Wk P n xs σ xs (σ.take m):=by
 intro B w0 w μ vs hS hC
 have hat:∀ {id:Nat} {o:Ob},(σ.take m)[id]?=some o→id<m∧σ[id]?=some o:=by
  intro id o h
  rw [List.getElem?_take] at h
  split at h
  ·exact ⟨by assumption,h⟩
  ·simp at h
 refine ⟨μ,⟨hS.below,hS.base,fun id o ho=>?_,fun i j oi oj b hi hj h1 h2 h3 h4=>hS.sep i j oi oj b (hat hi).2 (hat hj).2 h1 h2 h3 h4⟩,⟨hC.1,fun i x hx'=>(hC.2 i x hx').take hm (hx i x hx')⟩,fun x v hv hl=>hv.take hm (hl.mono hnm)⟩
 obtain ⟨hid,ho'⟩:=hat ho
 have hob:=hS.obj id o ho'
 cases o with
 | dead=>trivial
 | box T cs =>
  obtain ⟨b,us,h1,h2,h3,h4,h5⟩:=hob
  exact ⟨b,us,h1,h2,h3,h4,fun j x hj=>let ⟨u,h6,h7⟩:=h5 j x hj;⟨u,h6,h7.take hm (hcl id T cs hid ho' j x hj)⟩⟩
 | row E sz by' g sh rows =>
  obtain ⟨h1,vals,h2,h3⟩:=hob
  exact ⟨h1,vals,h2,h3.1,fun i j x hj=>let ⟨h4,u,h5,h6⟩:=h3.2 i j x hj;⟨h4,u,h5,h6.take hm (pure_lt h4 m)⟩⟩
 | map K E es =>
  obtain ⟨r,ents,clock,h1,h2,h3,h4⟩:=hob
  exact ⟨r,ents,clock,h1,h2,h3,h4.1,fun i k x hi=>let ⟨h5,h6,e,h7,h8,h9⟩:=h4.2.1 i k x hi;⟨h5,h6,e,h7,h8.take hm (mkey_lt h5 m),h9.take hm (mval_lt h6 m)⟩,h4.2.2⟩
theorem Wk.drop0 {P:Program} {n:Nat} {xs:List V} {σ loc:Store} (hn:n≤σ.length) (hcl:Closed σ) (hx:∀ (i:Nat) (x:V),xs[i]?=some x→x.Lt σ.length):Wk P n xs (σ++loc) xs σ:=by
 have:=Wk.drop (P:=P) (n:=n) (m:=σ.length) (xs:=xs) (σ:=σ++loc) hn (by simp) hx (fun id T cs hid h j x hj=>hcl id T cs (by rwa [List.getElem?_append_left hid] at h) j x hj)
 simpa using this
inductive Rs where
 | t (n:Nat)
 | c (n:Nat) (k:Option Nat)
structure PFun where
 nt:Nat
 rs:List Rs
 c:PCode
def cRs (P:Program):List ResultVar→Option (List Rs)
 | []=>some []
 | .tmp t::r=>(cRs P r).map (.t t::·)
 | .cell t T::r=>match isAggT P T,P.info? T,cRs P r with
  | some true,some ti,some rs=>some (.c t (some ti.size)::rs)
  | some false,some _,some rs=>some (.c t none::rs)
  | _,_,_=>none
def cFun (P:Program) (fn:Func):Option PFun :=
 match fn.body with
 | some code=>match cCode P code,cRs P fn.results.toList with
  | some c,some rs=>some ⟨fn.ntmps,rs,c⟩
  | _,_=>none
 | none=>none
def resV (st:St):Rs→Option V
 | .t n=>some (st.fr.getD n .u)
 | .c n k=>match st.fr.getD n .u with
  | .ptr id off=>match st.σ[id]? with
   | some (.box _ cs)=>match k with
    | none=>cs[off]?
    | some m=>if off+m≤cs.length then some (.agg ((cs.drop off).take m)) else none
   | _=>none
  | _=>none
def resVs (st:St):List Rs→Option (List V)
 | []=>some []
 | r::rs=>match resV st r,resVs st rs with
  | some x,some xs=>some (x::xs)
  | _,_=>none
def one:List V→V
 | [x]=>x
 | xs=>.tup xs
def retK (P:Program) (n:Nat) (rs:List Rs) (Q:V→Store→Prop) (e:Exit) (st:St):Prop :=
 (e=.normal∨e=.ret)∧∃ xs,resVs st rs=some xs∧∃ r σ',Wk P n [one xs] st.σ [r] σ'∧Q r σ'
def resOne (tmps:Array Value):ResultVar→Sem Value
 | .tmp t=>pure (tmps.getD t undef)
 | .cell a t=>do loadVar t (← asAddr (tmps.getD a undef))
theorem results_eq (fn:Func) (tmps:Array Value):results fn tmps=(do let vs ← fn.results.mapM (resOne tmps);pure (if h:vs.size=1 then vs[0] else .tuple vs)):=rfl
theorem run_results {P:Program} {B:Nat} {w0 w:World} {st:St} {μ:Mem} {a:Act} (hS:Sim P B w0 w st.σ μ) (hF:FR w st.σ μ st.fr a):∀ (l:List ResultVar) (rs:List Rs) (xs:List V),cRs P l=some rs→resVs st rs=some xs →
  ∃ vs:List Value,(l.mapM (resOne a.tmps)).run P w=.ok vs w∧vs.length=xs.length∧∀ (i:Nat) (x:V),xs[i]?=some x→VR w st.σ μ x (vs.getD i undef)
 | [],rs,xs,hc,hx=>by
  simp only [cRs,Option.some.injEq] at hc;subst hc
  simp only [resVs,Option.some.injEq] at hx;subst hx
  exact ⟨[],by simp,rfl,by simp⟩
 | r::l,rs,xs,hc,hx=>by
  have key:∃ r' rs',rs=r'::rs'∧cRs P l=some rs'∧∀ x,resV st r'=some x→∃ v,(resOne a.tmps r).run P w=.ok v w∧VR w st.σ μ x v:=by
   cases r with
   | tmp t =>
    simp only [cRs,Option.map_eq_some_iff] at hc
    obtain ⟨rs',h1,rfl⟩:=hc
    refine ⟨.t t,rs',rfl,h1,fun x h=>⟨_,rfl,?_⟩⟩
    simp only [resV,Option.some.injEq] at h
    subst h
    exact hF.at t
   | cell t T =>
    simp only [cRs] at hc
    have inner:∀ (g:Bool) (ti:TypeInfo),isAggT P T=some g→P.info? T=some ti→∀ x,resV st (.c t (if g then some ti.size else none))=some x→∃ v,(do loadVar T (← asAddr (a.tmps.getD t undef)):Sem Value).run P w=.ok v w∧VR w st.σ μ x v:=by
     intro g ti hg hti x h
     simp only [resV] at h
     split at h
     ·rename_i id off hp
      have h1:=hp▸hF.at t
      obtain ⟨b,hm,hv,_⟩:=h1.inv_ptr
      split at h
      ·rename_i T' cs hb
       obtain ⟨b',vs,hm',hB,hh,hsz,hcs⟩:=hS.boxAt hb
       rw [hm] at hm'
       simp only [Value.pointer.injEq,Option.some.injEq,Addr.mk.injEq,and_true] at hm'
       subst hm'
       have hl:=load_raw (P:=P) (σ:=st.σ) (μ:=μ) (row:=cs) (k:=if g then some ti.size else none) (b:=b) (off:=off) hti (isAggT_load hg) off (fun j z hz=>hcs _ z hz)
       have he:(do loadVar T (← asAddr (a.tmps.getD t undef)):Sem Value).run P w=(Instr.loadAt T (.pointer (some ⟨b,off,none⟩))).run P w:=by
        rw [hv];rfl
       rw [he]
       cases g
       ·simp only [Bool.false_eq_true,if_false] at h hl
        exact hl.1 trivial x h
       ·simp only [if_true] at h hl
        split at h<;>simp only [Option.some.injEq,reduceCtorEq] at h
        rename_i hle
        subst h
        exact hl.2 _ rfl hle
      ·simp at h
     ·simp at h
    split at hc<;>simp only [Option.some.injEq,reduceCtorEq] at hc
    ·rename_i ti rs' hg hti h1
     exact ⟨_,rs',hc.symm,h1,fun x h=>inner true ti hg hti x h⟩
    ·rename_i ti rs' hg hti h1
     exact ⟨_,rs',hc.symm,h1,fun x h=>inner false ti hg hti x h⟩
  obtain ⟨r',rs',rfl,h1,h2⟩:=key
  simp only [resVs] at hx
  split at hx<;>simp only [Option.some.injEq,reduceCtorEq] at hx
  rename_i x ys hx1 hys
  subst hx
  obtain ⟨v,h3,h4⟩:=h2 x hx1
  obtain ⟨vs,h5,h6,h7⟩:=run_results hS hF l rs' ys h1 hys
  refine ⟨v::vs,?_,by simp [h6],fun i y hy=>?_⟩
  ·simp only [List.mapM_cons,Sem.run_bind,h3,Result.andThen_ok,h5,Sem.run_pure]
  ·cases i with
   | zero=>simp only [List.getElem?_cons_zero,Option.some.injEq] at hy;subst hy;simpa using h4
   | succ i=>simpa using h7 i y (by simpa using hy)
theorem PC.intro {P:Program} {f:Nat} {fn:Func} {pf:PFun} {args:List V} {σ:Store} {Q:V→Store→Prop} (hf:P.funcs[f]?=some fn) (hc:cFun P fn=some pf)
  (h:Closed σ→(∀ (i:Nat) (x:V),args[i]?=some x→x.Wf∧x.Lt σ.length)→PWc σ.length P pf.c (retK P σ.length pf.rs Q) ⟨args++List.replicate (pf.nt - args.length) .u,σ⟩):PC P f args σ Q:=by
 unfold cFun at hc
 split at hc
 ·rename_i code hb
  split at hc<;>simp only [Option.some.injEq,reduceCtorEq] at hc
  rename_i c rs hcc hrs
  subst hc
  intro B w0 w μ vs hS hv
  refine calls_of_wp hf hb ?_
  have hF:FR w σ μ (args++List.replicate (fn.ntmps - args.length) .u) { tmps:=vs++Array.replicate (fn.ntmps - vs.size) undef,defers:=[] }:=by
   refine ⟨rfl,by simp [hv.1],fun i x hx=>?_⟩
   by_cases hi:i<args.length
   ·rw [List.getElem?_append_left hi] at hx
    have h1:=hv.2 i x hx
    have hi2:i<vs.size:=by rw [hv.1];exact hi
    have e:(vs++Array.replicate (fn.ntmps - vs.size) undef).getD i undef=vs.getD i undef:=by
     simp only [Array.getD_eq_getD_getElem?,Array.getElem?_append_left hi2]
    simp only [e];exact h1
   ·rw [List.getElem?_append_right (by omega)] at hx
    have:x=.u:=by
     have:=(List.getElem?_eq_some_iff.1 hx).2
     simpa using this.symm
    subst this;exact .u _
  refine wp_mono (h hS.closed (fun i x hx=>⟨(hv.2 i x hx).wf,(hv.2 i x hx).lt⟩) code hcc B w0 w μ _ hS hF) ?_
  rintro e a' w' ⟨st',μ',hK,hS',hF',hk⟩
  obtain ⟨he,xs,hxs,r,σ',hw,hQ⟩:=hK
  obtain ⟨us,h1,h2,h3⟩:=run_results hS' hF' fn.results.toList rs xs hrs hxs
  have hres:∃ v,(results fn a'.tmps).run P w'=.ok v w'∧VR w' st'.σ μ' (one xs) v:=by
   have hr:(results fn a'.tmps).run P w'=.ok (if h:us.toArray.size=1 then us.toArray[0] else .tuple us.toArray) w':=by
    rw [results_eq,Array.mapM_eq_mapM_toList]
    simp only [Sem.run_bind,Sem.run_map,h1,Result.andThen_ok,Sem.run_pure]
   refine ⟨_,hr,?_⟩
   match xs,us,h2,h3 with
   | [x],[u],_,h3=>have:=h3 0 x rfl;exact this
   | [],[],_,_=>exact .tup [] #[] rfl (by simp)
   | x::y::xs,u::v::us,h2,h3 =>
    have hne:¬ ((u::v::us).toArray.size=1):=by simp
    rw [dif_neg hne]
    exact .tup _ _ (by simpa using h2.symm) fun i z hz=>by
     have:=h3 i z hz
     simpa [List.getD_eq_getElem?_getD] using this
  obtain ⟨v,hr,hv'⟩:=hres
  obtain ⟨μ2,h4,h5,h6⟩:=hw B w0 w' μ' #[v] hS' ⟨rfl,fun i x hx=>by
   cases i with
   | zero=>simp only [List.getElem?_cons_zero,Option.some.injEq] at hx;subst hx;simpa using hv'
   | succ i=>simp at hx⟩
  have hfin:∃ r v_1 σ' μ',Ending.returned v=.returned v_1∧Q r σ'∧Sim P B w0 w' σ' μ'∧VR w' σ' μ' r v_1∧Keep w σ μ w' σ' μ' :=
   ⟨r,v,σ',μ2,rfl,hQ,h4,by have:=h5.2 0 r rfl;simpa using this,fun x u hx=>h6 x u (hk x u hx hx.lt) hx.lt⟩
  rcases he with rfl | rfl
  ·exact ⟨hF'.1,v,hr,hfin⟩
  ·exact ⟨hF'.1,v,hr,hfin⟩
 ·simp at hc
end Go.Pm

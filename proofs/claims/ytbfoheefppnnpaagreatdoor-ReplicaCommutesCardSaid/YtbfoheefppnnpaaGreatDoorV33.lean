/- A part of the proof of the statement of the last text of this claim: for every two lists of integers ReplicaCommutes returns true and leaves the memory as it was. -/
import Derived.Test.YtbfoheefppnnpaaGreatDoorV4
import Derived.Test.YtbfoheefppnnpaaGreatDoorV12
import Derived.Test.YtbfoheefppnnpaaGreatDoorV14
import Derived.Test.YtbfoheefppnnpaaGreatDoorV15
import Derived.Test.YtbfoheefppnnpaaGreatDoorV17
import Derived.Test.YtbfoheefppnnpaaGreatDoorV18
import Derived.Test.YtbfoheefppnnpaaGreatDoorV20
import Derived.Test.YtbfoheefppnnpaaGreatDoorV22
import Derived.Test.YtbfoheefppnnpaaGreatDoorV27
import Derived.Test.YtbfoheefppnnpaaGreatDoorV31
import Derived.Test.YtbfoheefppnnpaaGreatDoorV32
set_option linter.all false

namespace Go.Proofs.Tryz
open Go Go.Pm Go.Bt
def opV (o:Opr):V:=.agg o.cells
def mapOp (l:List (List UInt8×Opr)):List (V×V):=emap keS opV l
theorem mapOp_cases (l:List (List UInt8×Opr)) (a:List UInt8) :
  (getA a l=none∧findV 1 (.s a) (mapOp l) 0=some none∧∀ b:Opr,mapOp l++[(V.s a,opV b)]=mapOp (updA l a b)) ∨
  (∃ i b0,getA a l=some b0∧findV 1 (.s a) (mapOp l) 0=some (some (i,opV b0))∧∀ b:Opr,(mapOp l).set i (V.s a,opV b)=mapOp (updA l a b)):=emap_cases keS_eq l a
theorem getA_mem {α β:Type} [DecidableEq α] {a:α} {b:β}:∀ {l:List (α×β)},getA a l=some b→(a,b)∈l:=by
 intro l
 induction l with
 | nil=>intro h;simp [getA_nil] at h
 | cons p l ih =>
  intro h
  rw [getA_cons] at h
  split at h
  ·rename_i e
   simp only [Option.some.injEq] at h
   subst e;subst h
   exact List.mem_cons_self ..
  ·exact List.mem_cons_of_mem _ (ih h)
theorem updA_mem {α β:Type} [DecidableEq α] {a:α} {b:β} {p:α×β}:∀ {l:List (α×β)},p∈updA l a b→p=(a,b)∨p∈l:=by
 intro l
 induction l with
 | nil=>intro h;simp [updA] at h;exact .inl h
 | cons q l ih =>
  intro h
  simp only [updA] at h
  split at h
  ·rcases List.mem_cons.1 h with h | h
   ·exact .inl h
   ·exact .inr (List.mem_cons_of_mem _ h)
  ·rcases List.mem_cons.1 h with h | h
   ·exact .inr (h▸List.mem_cons_self ..)
   ·rcases ih h with h | h
    ·exact .inl h
    ·exact .inr (List.mem_cons_of_mem _ h)
theorem winStep_mem {m:List (List UInt8×Opr)} {o:Opr} {p:List UInt8×Opr} (h:p∈winStep m o):p=(opKey o,o)∨p∈m:=by
 simp only [winStep] at h
 split at h
 ·exact .inr h
 ·split at h
  ·exact updA_mem h
  ·split at h
   ·exact updA_mem h
   ·exact .inr h
theorem loop99 {σ:Store} {K:Exit→St→Prop} (l:List Opr) (hcl:Closed σ) (hlen:l.length<2^63) (hsm:∀ o∈l,o.small):∀ (rest pre:List Opr) (m:List (List UInt8×Opr)),l=pre++rest→(∀ p∈m,p.2.small) →
  (∀ j0 j1 j2 j4 j5 j6 j7 j8 j9 j10 j11 j12 j13 j14 j15 j16 j17 j18 j19 j20 j21 j22 j23 j24 j25 j26 j27 j28 j29 j30 j31 j32 j33 j34 j35 j36 j37 j38 j39 j40 j41,K (.exit 0) ⟨[j0,j1,j2,.mp σ.length,j4,j5,j6,j7,j8,j9,j10,j11,j12,j13,j14,j15,j16,j17,j18,j19,j20,j21,j22,j23,j24,j25,j26,j27,j28,j29,j30,j31,j32,j33,j34,j35,j36,j37,j38,j39,j40,j41],σ++[.map 9 35 (mapOp (rest.foldl winStep m))]⟩) →
  Rnd σ.length Tryz.prog p99_0 K (rest.length+1) ⟨[.u,.u,.u,.mp σ.length,.u,.u,.u,.u,.u,.u,.u,.u,.u,.u,.sl 13 (l.map Opr.cells),.i .i64 l.length,.i .i64 pre.length,.u,.u,.u,.u,.u,.u,.u,.u,.u,.u,.u,.u,.u,.u,.u,.u,.u,.u,.u,.u,.u,.u,.u,.u,.u],σ++[.map 9 35 (mapOp m)]⟩:=by
 intro rest
 induction rest with
 | nil =>
  intro pre m he hm h1
  have he:l=pre:=by simpa using he
  subst he
  refine rnd_step fun R hR=>?_
  simp only [p99_0,VV,seval]
  exact ⟨fun h=>by simp at h,fun _=>h1 ..⟩
 | cons x rest ih =>
  intro pre m he hm h1
  subst he
  have hx:=hsm x (by simp)
  have next:∀ (m':List (List UInt8×Opr)) {loc:Store},winStep m x=m'→∀ {R:St→Prop} {fr:List V},(∀ st',Rnd σ.length Tryz.prog p99_0 K (rest.length+1) st'→R st') →
    Cvs fr [.u,.u,.u,.mp σ.length,.u,.u,.u,.u,.u,.u,.u,.u,.u,.u,.sl 13 ((pre++x::rest).map Opr.cells),.i .i64 (pre++x::rest).length,.i .i64 (IntKind.i64.wrap ((pre.length:Int)+1)),.u,.u,.u,.u,.u,.u,.u,.u,.u,.u,.u,.u,.u,.u,.u,.u,.u,.u,.u,.u,.u,.u,.u,.u,.u]→R ⟨fr,σ++(.map 9 35 (mapOp m')::loc)⟩:=by
   intro m' loc hw R fr hR hc
   have e1:IntKind.i64.wrap ((pre.length:Int)+1)=(((pre++[x]).length:Nat):Int):=by
    rw [wrap_succ (by simp at hlen;omega)];simp
   rw [e1] at hc
   refine hR _ (rnd_drop [_] loc (closed_add hcl (by simp)) hc ?_ (ih (pre++[x]) m' (by simp) ?_ ?_))
   ·simp only [LW,List.length_cons,List.length_nil,Nat.zero_add]
    omega
   ·intro p hp
    rw [← hw] at hp
    rcases winStep_mem hp with rfl | hp
    ·exact hx
    ·exact hm p hp
   ·rw [← hw];exact h1
  refine rnd_step fun R hR=>?_
  simp only [p99_0,Opr.cells,Stamp.cells,En.cells,VV,seval]
  refine ⟨fun _=>⟨by simp;omega,?_⟩,fun h=>by simp at h<;>omega⟩
  refine call_eq (opKey_pc x hx _) rfl ?_
  simp only [VV,seval]
  refine ⟨fun h=>?_,fun h=>?_⟩
  ·have h:opKey x=[]:=by simpa using h
   refine next m (by simp only [winStep,h,if_true]) hR ?_
   simp only
   repeat first | exact .nil | refine .cons (.refl _) ?_ | refine .cons (.forget _) ?_
  have h:¬ opKey x=[]:=by simpa using h
  have hf:∀ t,mapFind (σ++(.map 9 35 (mapOp m))::t) 1 (.mp σ.length) (.s (opKey x))=findV 1 (.s (opKey x)) (mapOp m) 0:=fun t=>by simp only [mapFind,base_get0,List.getElem?_cons_zero]
  rcases mapOp_cases m (opKey x) with ⟨h2,h3,h4⟩ | ⟨k,was,h2,h3,h4⟩
  ·simp only [hf,h3,V.mkey,VV,seval]
   refine callg_eq (c:=false) (v:=.b false) (by simp only [VV,seval]<;>rfl) (fun h=>by simp at h) rfl ?_
   have h4':=h4 x
   simp only [opV,Opr.cells,Stamp.cells,En.cells,List.cons_append,List.nil_append] at h4'
   simp only [h3,h4',purifyV,V.mkey,V.mval,VV,seval]
   refine next (updA m (opKey x) x) (by simp only [winStep,if_neg h,h2]) hR ?_
   simp only
   repeat first | exact .nil | refine .cons (.refl _) ?_ | refine .cons (.forget _) ?_
  ·simp only [hf,h3,V.mkey,opV,Opr.cells,Stamp.cells,En.cells,VV,seval]
   refine callg_eq (by simp only [VV,seval]<;>rfl) (fun _=>opWins_pc x was hx (hm _ (getA_mem h2)) _) rfl ?_
   simp only [VV,seval]
   refine ⟨fun hw=>?_,fun hw=>?_⟩
   ·have h4':=h4 x
    simp only [opV,Opr.cells,Stamp.cells,En.cells,List.cons_append,List.nil_append] at h3 h4'
    simp only [h3,h4',purifyV,V.mkey,V.mval,VV,seval]
    refine next (updA m (opKey x) x) (by simp only [winStep,if_neg h,h2,if_pos hw]) hR ?_
    simp only
    repeat first | exact .nil | refine .cons (.refl _) ?_ | refine .cons (.forget _) ?_
   ·refine next m (by simp only [winStep,if_neg h,h2,hw];rfl) hR ?_
    simp only
    repeat first | exact .nil | refine .cons (.refl _) ?_ | refine .cons (.forget _) ?_
theorem opCurrentMap_pc (l:List Opr) (hsm:∀ o∈l,o.small) (σ:Store):PC Tryz.prog 99 [.sl 13 (l.map Opr.cells)] σ (fun r σ'=>r=.mp σ.length∧σ'=σ++[.map 9 35 (mapOp (winners l))]):=by
 refine PC.intro Tryz.func99 c99 fun hcl hwf=>wpc_sound ?_
 have hlen:=wf_sl (hwf 0 _ rfl).1
 rw [List.length_map] at hlen
 simp only [p99,SS,seval]
 simp only [List.length_map,VV,seval]
 refine ⟨fun h=>?_,fun h=>?_⟩
 ·have h:1024<l.length:=by simp at h;omega
  refine ret_wk (.inr rfl) rfl (Wk.refl _ _) rfl ⟨rfl,?_⟩
  simp only [winners,if_pos h];rfl
 ·have h:¬ 1024<l.length:=by simp at h;omega
  refine PWc.rnd_cvs ?_ (l.length+1) (loop99 l hcl hlen hsm l [] [] rfl (by simp) ?_)
  ·repeat first | exact .nil | refine .cons (.refl _) ?_ | refine .cons (.forget _) ?_
  ·intros
   simp only [VV,seval]
   refine ret_wk (.inr rfl) rfl (Wk.refl _ _) rfl ⟨rfl,?_⟩
   simp only [winners,if_neg h]
theorem ti_Op:Ti Tryz.prog 35 13 184:=tiB_ok (by kernel_rfl)
theorem ti_Entry:Ti Tryz.prog 33 8 128:=tiB_ok (by kernel_rfl)
theorem mapOp_find {m:List (List UInt8×Opr)} {k:List UInt8} {o:Opr} (h:getA k m=some o):∃ i,findV 1 (.s k) (mapOp m) 0=some (some (i,opV o)):=by
 rcases mapOp_cases m k with ⟨h2,_,_⟩ | ⟨i,b,h2,h3,_⟩
 ·rw [h] at h2;simp at h2
 ·rw [h] at h2
  simp only [Option.some.injEq] at h2
  subst h2
  exact ⟨i,h3⟩
theorem loop65 {n:Nat} {σ:Store} {o2:Ob} {K:Exit→St→Prop} (ks:List (List UInt8)) (m:List (List UInt8×Opr)) (hlen:ks.length<2^39) (hm:∀ p∈m,p.2.small) (hks:∀ k∈ks,∃ o,getA k m=some o) :
  ∀ (rest pre:List (List UInt8)) (out:List Opr) (g:Nat),ks=pre++rest→out.length+rest.length≤ks.length →
  (∀ g,(∀ j0 j1 j2 j5 j6 j7 j8 j9 j10 j12 j13 j14 j15 j16 j17 j18 j19 j20 j21 j22 j23 j24 j25,K (.exit 0) ⟨[j0,j1,j2,.mp σ.length,.own (σ.length+3) g,j5,j6,j7,j8,j9,j10,.own (σ.length+2) 0,j12,j13,j14,j15,j16,j17,j18,j19,j20,j21,j22,j23,j24,j25],σ++[.map 9 35 (mapOp m),o2,.row 9 1 16 0 false (ks.map sRow),.row 35 13 184 g false ((out++rest.filterMap fun k=>getA k m).map Opr.cells)]⟩)) →
  Rnd n Tryz.prog p65_0 K (rest.length+1) ⟨[.u,.u,.u,.mp σ.length,.own (σ.length+3) g,.u,.u,.u,.u,.u,.u,.own (σ.length+2) 0,.i .i64 ks.length,.i .i64 pre.length,.u,.u,.u,.u,.u,.u,.u,.u,.u,.u,.u,.u],
   σ++[.map 9 35 (mapOp m),o2,.row 9 1 16 0 false (ks.map sRow),.row 35 13 184 g false (out.map Opr.cells)]⟩:=by
 intro rest
 induction rest with
 | nil =>
  intro pre out g he ho h1
  have he:ks=pre:=by simpa using he
  subst he
  refine rnd_step fun R hR=>?_
  simp only [p65_0,VV,seval]
  simp only [List.filterMap_nil,List.append_nil] at h1
  exact ⟨fun h=>by simp at h,fun _=>h1 g ..⟩
 | cons x rest ih =>
  intro pre out g he ho h1
  subst he
  obtain ⟨o,hx⟩:=hks x (by simp)
  have hos:=hm _ (getA_mem hx)
  obtain ⟨i,hf0⟩:=mapOp_find hx
  have hf:∀ t,mapFind (σ++(.map 9 35 (mapOp m))::t) 1 (.mp σ.length) (.s x)=some (some (i,opV o)):=fun t=>by simp only [mapFind,base_get0,List.getElem?_cons_zero,hf0]
  refine rnd_step fun R hR=>?_
  simp only [p65_0,sRow,hf,opV,V.mkey,List.length_map,VV,seval]
  refine ⟨fun _=>⟨by simp;omega,?_⟩,fun h=>by simp at h<;>omega⟩
  refine call_eq (viewOp_pc o hos _) rfl ?_
  simp only [List.length_cons] at ho
  simp only [List.length_map,Opr.cells,Stamp.cells,En.cells,maxLen,V.pure,VV,seval]
  refine ⟨by simp at ho hlen;omega,?_⟩
  have e0:(out.map Opr.cells++[[.i .i64 o.stamp.time,.i .i64 o.stamp.office,.i .i64 o.stamp.number,.i .i64 o.kind,.sl 3 (o.entry.source.map It.cells),.sl 3 (o.entry.target.map It.cells),.s o.entry.previous,.s o.entry.next,.s o.entry.author,.s o.entry.project,.i .i64 o.entry.created,.i .i64 o.entry.origin,.sl 1 (o.seen.map iRow)]])=(out++[o]).map Opr.cells:=by
   simp [Opr.cells,Stamp.cells,En.cells]
  rw [e0]
  refine hR _ (rnd_cvs ?_ (ih (pre++[x]) (out++[o]) (g+1) (by simp) (by simp at ho ⊢;omega) ?_))
  ·rw [wrap_succ (by simp at hlen;omega)]
   simp only [List.length_append,List.length_cons,List.length_nil]
   repeat first | exact .nil | refine .cons (.refl _) ?_ | refine .cons (.forget _) ?_
  ·simp only [List.filterMap_cons,hx] at h1
   simpa using h1
theorem opCurrent_pc (l:List Opr) (hsm:∀ o∈l,o.small) (σ:Store):PC Tryz.prog 65 [.sl 13 (l.map Opr.cells)] σ (fun r σ'=>r=.sl 13 ((current l).map Opr.cells)∧σ'=σ):=by
 refine PC.intro Tryz.func65 c65 fun hcl hwf=>wpc_sound ?_
 simp only [p65,SS,seval]
 simp only [VV,seval]
 refine call_eq (opCurrentMap_pc l hsm _) rfl ?_
 simp only [VV,seval]
 have hk:=mapsKeys_pc σ.length (σ++[.map 9 35 (mapOp (winners l))])
 simp only [List.length_append,List.length_cons,List.length_nil,Nat.zero_add,List.append_assoc,List.cons_append,List.nil_append] at hk
 refine call_eq hk rfl ?_
 simp only [VV,seval]
 have hlen:=sortedKeys_len l
 have hwl:=winners_len l
 have hs:=sortedKeys_own (β:=Opr) (ve:=opV) (id:=σ.length) (k:=σ.length+1) (E:=35) (l:=winners l) (σ:=σ++[.map 9 35 (mapOp (winners l)),.box 135 [.mp σ.length]])
  (by simp only [base_get,List.getElem?_cons_succ,List.getElem?_cons_zero]) (by simp only [base_get0,List.getElem?_cons_zero];rfl) (winners_nodup l) (by omega)
 simp only [List.length_append,List.length_cons,List.length_nil,Nat.zero_add,Nat.reduceAdd,List.append_assoc,List.cons_append,List.nil_append] at hs
 refine call_eq hs rfl ?_
 simp only [List.length_map,VV,seval]
 refine PWc.wk ((Wk.promote_at (σ:=σ) [_,_,_] (k:=4) ti_Op rfl).trans (Wk.cvs ?_)) (PWc.rnd ((sortedKeys l).length+1) (loop65 (sortedKeys l) (winners l) (by omega)
  (fun p hp=>hsm _ (winners_mem hp).2) (fun k hk=>sortedKeys_some hk) (sortedKeys l) [] [] 0 rfl (by simp) ?_))
 ·simp only [W,seval]
  repeat first | exact .nil | refine .cons (.refl _) ?_ | refine .cons (.forget _) ?_
 ·intro g
  intros
  simp only [VV,seval]
  refine ret_fz 3 hcl (.inr rfl) rfl rfl ?_ ?_
  ·simp only [List.getD_cons_zero,List.getD_cons_succ,List.map_cons,List.map_nil,fz,fz1,and_self,if_true,LW]
  ·simp only [List.getD_cons_zero,List.getD_cons_succ,List.map_cons,List.map_nil,fz,fz1,and_self,if_true]
   exact ⟨rfl,trivial⟩
theorem loop31 {σ:Store} {K:Exit→St→Prop} (l:List Opr) (hcl:Closed σ) (hlen:l.length<2^39):∀ (rest pre:List Opr) (out:List En) (g:Nat),l=pre++rest→out.length+rest.length≤l.length →
  (∀ g,(∀ j0 j1 j2 j4 j5 j6 j7 j8 j9 j10 j11 j12 j13 j14 j15 j16 j17 j18 j19 j20 j21 j22,K (.exit 0) ⟨[j0,j1,j2,.own σ.length g,j4,j5,j6,j7,j8,j9,j10,j11,j12,j13,j14,j15,j16,j17,j18,j19,j20,j21,j22],σ++[.row 33 8 128 g false ((out++(rest.filter fun o=>o.kind==1).map (·.entry)).map En.cells)]⟩)) →
  Rnd σ.length Tryz.prog p31_0 K (rest.length+1) ⟨[.u,.u,.u,.own σ.length g,.u,.u,.u,.sl 13 (l.map Opr.cells),.i .i64 l.length,.i .i64 pre.length,.u,.u,.u,.u,.u,.u,.u,.u,.u,.u,.u,.u,.u],σ++[.row 33 8 128 g false (out.map En.cells)]⟩:=by
 intro rest
 induction rest with
 | nil =>
  intro pre out g he ho h1
  have he:l=pre:=by simpa using he
  subst he
  refine rnd_step fun R hR=>?_
  simp only [p31_0,VV,seval]
  simp only [List.filter_nil,List.map_nil,List.append_nil] at h1
  exact ⟨fun h=>by simp at h,fun _=>h1 g ..⟩
 | cons x rest ih =>
  intro pre out g he ho h1
  subst he
  simp only [List.length_cons] at ho
  have next:∀ (out':List En) (g':Nat) {loc:Store},out'.length≤out.length+1→out++((x::rest).filter fun o=>o.kind==1).map (·.entry)=out'++(rest.filter fun o=>o.kind==1).map (·.entry)→∀ {R:St→Prop} {fr:List V},(∀ st',Rnd σ.length Tryz.prog p31_0 K (rest.length+1) st'→R st') →
    Cvs fr [.u,.u,.u,.own σ.length g',.u,.u,.u,.sl 13 ((pre++x::rest).map Opr.cells),.i .i64 (pre++x::rest).length,.i .i64 (IntKind.i64.wrap ((pre.length:Int)+1)),.u,.u,.u,.u,.u,.u,.u,.u,.u,.u,.u,.u,.u]→R ⟨fr,σ++(.row 33 8 128 g' false (out'.map En.cells)::loc)⟩:=by
   intro out' g' loc hl hw R fr hR hc
   have e1:IntKind.i64.wrap ((pre.length:Int)+1)=(((pre++[x]).length:Nat):Int):=by
    rw [wrap_succ (by simp at hlen;omega)];simp
   rw [e1] at hc
   rw [hw] at h1
   refine hR _ (rnd_drop [_] loc (closed_add hcl (by simp)) hc ?_ (ih (pre++[x]) out' g' (by simp) (by omega) h1))
   simp only [LW,List.length_cons,List.length_nil,Nat.zero_add]
   omega
  refine rnd_step fun R hR=>?_
  simp only [p31_0,Opr.cells,Stamp.cells,En.cells,VV,seval]
  refine ⟨fun _=>⟨by simp;omega,?_⟩,fun h=>by simp at h<;>omega⟩
  refine ⟨fun h=>?_,fun h=>?_⟩
  ·simp only [List.length_map,maxLen,seval]
   refine ⟨by simp at ho hlen;omega,?_⟩
   have e0:(out.map En.cells++[[.sl 3 (x.entry.source.map It.cells),.sl 3 (x.entry.target.map It.cells),.s x.entry.previous,.s x.entry.next,.s x.entry.author,.s x.entry.project,.i .i64 x.entry.created,.i .i64 x.entry.origin]])=(out++[x.entry]).map En.cells:=by
    simp [En.cells]
   rw [e0]
   refine next (out++[x.entry]) (g+1) (by simp) (by simp [h]) hR ?_
   repeat first | exact .nil | refine .cons (.refl _) ?_ | refine .cons (.forget _) ?_
  ·refine next out g (by omega) (by simp [h]) hR ?_
   repeat first | exact .nil | refine .cons (.refl _) ?_ | refine .cons (.forget _) ?_
theorem opMemory_pc (l:List Opr) (hsm:∀ o∈l,o.small) (σ:Store):PC Tryz.prog 31 [.sl 13 (l.map Opr.cells)] σ (fun r σ'=>r=.sl 8 ((memoryOf l).map En.cells)∧σ'=σ):=by
 refine PC.intro Tryz.func31 c31 fun hcl hwf=>wpc_sound ?_
 simp only [p31,SS,seval]
 simp only [VV,seval]
 refine call_eq (opCurrent_pc l hsm _) rfl ?_
 simp only [List.length_map,VV,seval]
 have hlen:=current_len l
 refine PWc.wk ((Wk.promote (σ:=σ) (k:=3) ti_Entry rfl).trans (Wk.cvs ?_)) (PWc.rnd ((current l).length+1) (loop31 (current l) hcl (by omega) (current l) [] [] 0 rfl (by simp) ?_))
 ·simp only [W,seval]
  repeat first | exact .nil | refine .cons (.refl _) ?_ | refine .cons (.forget _) ?_
 ·intro g
  intros
  simp only [VV,seval]
  refine ret_fz 0 hcl (.inr rfl) rfl rfl ?_ ?_
  ·simp only [List.getD_cons_zero,List.getD_cons_succ,List.map_cons,List.map_nil,Nat.add_zero,fz,fz1,and_self,if_true,LW]
  ·simp only [List.getD_cons_zero,List.getD_cons_succ,List.map_cons,List.map_nil,Nat.add_zero,fz,fz1,and_self,if_true]
   exact ⟨rfl,trivial⟩
theorem off0 (n:Int):Cvs [.i .i64 n,.i .i64 0,.nil,.nil,.i .i64 0,.b false] (Off.cells ⟨n,0,[],[],0,false⟩):=by
 simp only [Off.cells,bytesV,List.map_nil]
 repeat first | exact .nil | refine .cons (.refl _) ?_ | refine .cons (.nil _) ?_
theorem new_pc (n:Int) (σ:Store):PC Tryz.prog 8 [.i .i64 n] σ (fun r σ'=>r=.tup [.agg (newOff n).1.cells,.i .i64 (newOff n).2]∧σ'=σ):=by
 refine PC.intro Tryz.func8 c8 fun hcl hwf=>wpc_sound ?_
 simp only [p8,SS,seval]
 simp only [VV,seval]
 refine ⟨fun h=>?_,fun h=>?_⟩
 ·have h:n<0∨8≤n:=by simpa using h
  refine ret_cvs (ys:=[.agg (Off.cells ⟨0,0,[],[],0,false⟩),.i .i64 1]) hcl (.inr rfl) (by simp only [resVs,resV,VV,seval]) (.cons (Cv.aggs (off0 0)) (.cons (.refl _) .nil)) (by simp only [Off.cells,bytesV,List.map_nil,LW]) ⟨by simp only [newOff,if_pos h,Off.zero];rfl,rfl⟩
 ·have h:¬ (n<0∨8≤n):=by simpa using h
  refine ret_cvs (ys:=[.agg (Off.cells ⟨n,0,[],[],0,false⟩),.i .i64 0]) hcl (.inr rfl) (by simp only [resVs,resV,VV,seval]) (.cons (Cv.aggs (off0 n)) (.cons (.refl _) .nil)) (by simp only [Off.cells,bytesV,List.map_nil,LW]) ⟨by simp only [newOff,if_neg h];rfl,rfl⟩
theorem order_pc (a b:Opr) (σ:Store):PC Tryz.prog 39 [.agg a.cells,.agg b.cells] σ (fun r σ'=>r=.i .i64 (ordNo a b)∧σ'=σ):=by
 refine PC.intro Tryz.func39 c39 fun hcl hwf=>wpc_sound ?_
 simp only [p39,SS,seval]
 simp only [Opr.cells,Stamp.cells,En.cells,VV,seval]
 refine call_eq (cmpI_pc _ _ _) rfl ?_
 simp only [VV,seval]
 refine call_eq (cmpI_pc _ _ _) rfl ?_
 simp only [VV,seval]
 refine call_cv (zs:=[.sl 1 ([cmpI a.stamp.office b.stamp.office,cmpI a.stamp.number b.stamp.number].map iRow)]) (.cons (.lit _ _) .nil) (orI_pc _ _) ?_
 simp only [VV,seval]
 exact ret_end hcl (.inr rfl) (by simp only [RS,seval];rfl) (by simp only [LW]) ⟨rfl,rfl⟩
theorem infoU8:(Tryz.prog.info? 5).map (fun i=>(i.zero.map (fun z=>z.cells.size),i.size,i.bytes))=some (some 1,1,1):=by kernel_rfl
theorem cloneBytes_pc (xs:List UInt8) (hlen:xs.length<2^40) (σ:Store):PC Tryz.prog 60 [.sl 1 (bytesV xs)] σ (fun r σ'=>r=.sl 1 (bytesV xs)∧σ'=σ) :=
 clone_of (by decide) infoU8 (by rw [bytesV_length];omega) (fun w=>AnyE.slices_Clone_nil Tryz.cloneB 0 0 w)
  (fun a w=>by
   obtain ⟨i,z,hi,hz,h1,h2,h3⟩:=info_of infoU8
   exact clone_empty Tryz.cloneB i z 1 1 hi hz h1 h2 h3 (by decide) (show ∀ w,(Go.sizeOf 5).run Tryz.prog w=.ok 1 w from fun w=>by simp [sizeOf,run_typeInfo w hi,h1]) a w)
  (fun i z hi hz h1 h2 h3 hs b o n c news w hl hn hb hc h=>AnyE.slices_Clone Tryz.cloneB i z 1 1 hi hz h1 h2 h3 (by decide) hs b o n c news w hl hn hb hc h) σ
def opRow0 (g:Nat) (l:List Opr):Ob:=.row 35 13 184 g false (l.map Opr.cells)
theorem loop59 {σ:Store} {K:Exit→St→Prop} (l:List Opr) (hcl:Closed σ) (hlen:l.length<2^39) (hsm:∀ o∈l,o.small):∀ (rest pre:List Opr) (g:Nat),l=pre++rest →
  (∀ g,(∀ j0 j1 j2 j4 j5 j6 j7 j8 j9 j10 j11 j12 j13 j14 j15 j16 j17 j18,K (.exit 0) ⟨[j0,j1,j2,.own σ.length g,j4,j5,j6,j7,j8,j9,j10,j11,j12,j13,j14,j15,j16,j17,j18],σ++[.row 35 13 184 g false (l.map Opr.cells)]⟩)) →
  Rnd σ.length Tryz.prog p59_0 K (rest.length+1) ⟨[.u,.u,.u,.own σ.length g,.u,.u,.sl 13 (l.map Opr.cells),.i .i64 l.length,.i .i64 pre.length,.u,.u,.u,.u,.u,.u,.u,.u,.u,.u],σ++[.row 35 13 184 g false (pre.map Opr.cells)]⟩:=by
 intro rest
 induction rest with
 | nil =>
  intro pre g he h1
  have he:l=pre:=by simpa using he
  subst he
  refine rnd_step fun R hR=>?_
  simp only [p59_0,VV,seval]
  exact ⟨fun h=>by simp at h,fun _=>h1 g ..⟩
 | cons x rest ih =>
  intro pre g he h1
  subst he
  have hx:=hsm x (by simp)
  refine rnd_step fun R hR=>?_
  simp only [p59_0,Opr.cells,Stamp.cells,En.cells,VV,seval]
  refine ⟨fun _=>⟨by simp;omega,?_⟩,fun h=>by simp at h<;>omega⟩
  refine call_eq (viewOp_pc x hx _) rfl ?_
  simp only [List.length_map,Opr.cells,Stamp.cells,En.cells,maxLen,V.pure,VV,seval]
  refine ⟨by simp at hlen;omega,?_⟩
  have e0:(pre.map Opr.cells++[[.i .i64 x.stamp.time,.i .i64 x.stamp.office,.i .i64 x.stamp.number,.i .i64 x.kind,.sl 3 (x.entry.source.map It.cells),.sl 3 (x.entry.target.map It.cells),.s x.entry.previous,.s x.entry.next,.s x.entry.author,.s x.entry.project,.i .i64 x.entry.created,.i .i64 x.entry.origin,.sl 1 (x.seen.map iRow)]])=(pre++[x]).map Opr.cells:=by
   simp [Opr.cells,Stamp.cells,En.cells]
  rw [e0]
  refine hR _ (rnd_drop [_] _ (closed_add hcl (by simp)) ?_ ?_ (ih (pre++[x]) (g+1) (by simp) h1))
  ·rw [wrap_succ (by simp at hlen;omega)]
   simp only [List.length_append,List.length_cons,List.length_nil]
   repeat first | exact .nil | refine .cons (.refl _) ?_ | refine .cons (.forget _) ?_
  ·simp only [LW,List.length_cons,List.length_nil,Nat.zero_add]
   omega
theorem viewOps_own (l:List Opr) (hlen:l.length<2^39) (hsm:∀ o∈l,o.small) (σ:Store):PC Tryz.prog 59 [.sl 13 (l.map Opr.cells)] σ (fun r σ'=>r=.own σ.length 0∧σ'=σ++[opRow0 0 l]):=by
 refine PC.intro Tryz.func59 c59 fun hcl hwf=>wpc_sound ?_
 simp only [p59,SS,seval]
 simp only [List.length_map,VV,seval]
 refine PWc.wk ((Wk.promote (σ:=σ) (k:=3) ti_Op rfl).trans (Wk.cvs ?_)) (PWc.rnd (l.length+1) (loop59 l hcl hlen hsm l [] 0 rfl ?_))
 ·simp only [W,seval]
  repeat first | exact .nil | refine .cons (.refl _) ?_ | refine .cons (.forget _) ?_
 ·intro g
  intros
  simp only [VV,seval]
  exact ret_own 0 hcl (.inr rfl) rfl rfl rfl (by simp [mvOK,Ob.gen]) (by simp [Pm.one,mv1,Ob.fresh,opRow0])
theorem viewOffice_own (o:Off) (ho:o.small) (σ:Store):PC Tryz.prog 27 [.agg o.cells] σ (fun r σ'=>r=.agg [.i .i64 o.number,.i .i64 o.clock,.own σ.length 0,.sl 1 (bytesV o.log),.i .i64 o.synced,.b o.down]∧σ'=σ++[opRow0 0 o.ops]):=by
 refine PC.intro Tryz.func27 c27 fun hcl hwf=>wpc_sound ?_
 simp only [p27,SS,seval]
 simp only [Off.cells,VV,seval]
 refine call_eq (viewOps_own o.ops (by have:=ho.len;omega) ho.ops _) rfl ?_
 simp only [opRow0,VV,seval]
 refine call_eq (cloneBytes_pc o.log (by have:=ho.log;omega) _) rfl ?_
 simp only [VV,seval]
 refine ret_wk (xs:=[.agg [.i .i64 o.number,.i .i64 o.clock,.own (σ.length+2) 0,.sl 1 (bytesV o.log),.i .i64 o.synced,.b o.down]]) (xs':=[.agg [.i .i64 o.number,.i .i64 o.clock,.own σ.length 0,.sl 1 (bytesV o.log),.i .i64 o.synced,.b o.down]]) (.inr rfl) (by simp only [resVs,resV,VV,seval]) ?_ rfl ⟨rfl,rfl⟩
 refine Wk.keepL (os:=[.row 35 13 184 0 false (o.ops.map Opr.cells)]) [2] hcl (by simp) rfl (fun i k hk=>by
  rcases i with _ | i
  ·simp only [List.getElem?_cons_zero,Option.some.injEq] at hk;subst hk;exact ⟨_,rfl,rfl,rfl⟩
  ·simp at hk) (.cons (Mv.aggs (.cons (.keep _ (.i _ _)) (.cons (.keep _ (.i _ _)) (.cons (.own 0 2 35 13 184 0 false (o.ops.map Opr.cells) rfl rfl) (.cons (.keep _ (.sl _ _)) (.cons (.keep _ (.i _ _)) (.cons (.keep _ (.b _)) .nil))))))) .nil)
theorem viewOffice_pc (o:Off) (ho:o.small) (σ:Store):PC Tryz.prog 27 [.agg o.cells] σ (fun r σ'=>r=.agg o.cells∧σ'=σ):=by
 refine PC.closed fun hcl=>PC.post (viewOffice_own o ho σ) ?_
 refine (Wk.fz (E:=35) (sz:=13) (by':=184) (g:=0) (sh:=false) (rows:=o.ops.map Opr.cells) σ.length (by simp [opRow0])).trans ?_
 simp only [List.map_cons,List.map_nil,Pm.fz,fz1,and_self,if_true,opRow0]
 rw [List.set_append_right _ _ (Nat.le_refl _),Nat.sub_self]
 exact Wk.end0 hcl (by simp only [LW])
end Go.Proofs.Tryz
namespace Go.Proofs.Tryz
open Go Go.Pm Go.Bt Go.RowKit
theorem jNumber_pc (n:Int) (σ:Store):PC Tryz.prog 92 [.i .u32 n] σ (fun r σ'=>r=.sl 1 (bytesV (numB n))∧σ'=σ):=by
 refine PC.intro Tryz.func92 c92 fun hcl hwf=>wpc_sound ?_
 simp only [p92,SS,seval]
 simp only [VV,Int.reduceToNat]
 refine ⟨by decide,by decide,by decide,?_⟩
 refine ret_wk (xs':=[.sl 1 (bytesV (numB n))]) (.inr rfl) rfl (Wk.cvs (.cons ?_ .nil)) rfl ⟨rfl,rfl⟩
 simp only [bytesV,numB,List.map_cons,List.map_nil,byteI_toNat]
 exact .lit _ _
theorem loop93 {n:Nat} {σ:Store} {K:Exit→St→Prop} (l:List UInt8) (hlen:l.length<2^62):∀ (rest pre:List UInt8) (h:Int),l=pre++rest →
  (∀ j1 j2 j3 j4 j5 j6 j7 j8 j9 j10 j11 j12 j13 j14 j15 j16 j17 j18 j19,K (.exit 0) ⟨[.i .u32 (rest.foldl sumStep h),j1,j2,j3,j4,j5,j6,j7,j8,j9,j10,j11,j12,j13,j14,j15,j16,j17,j18,j19],σ⟩) →
  Rnd n Tryz.prog p93_0 K (rest.length+1) ⟨[.i .u32 h,.u,.u,.u,.u,.u,.u,.sl 1 (bytesV l),.i .i64 l.length,.i .i64 pre.length,.u,.u,.u,.u,.u,.u,.u,.u,.u,.u],σ⟩:=by
 intro rest
 induction rest with
 | nil =>
  intro pre h he h1
  have he:l=pre:=by simpa using he
  subst he
  refine rnd_step fun R hR=>?_
  simp only [p93_0,VV,seval]
  exact ⟨fun h=>by simp at h,fun _=>h1 ..⟩
 | cons x rest ih =>
  intro pre h he h1
  subst he
  have hat:at2 (bytesV (pre++x::rest)) pre.length 0=some (.i .u8 x.toNat):=by
   simp [bytesV,at2]
  have hw:IntKind.i64.wrap ((pre.length:Int)+1)=(((pre++[x]).length:Nat):Int):=by
   rw [wrap_succ (by simp at hlen;omega)];simp
  refine rnd_step fun R hR=>?_
  simp only [p93_0,bytesV_length,hat,hw,VV,seval]
  refine ⟨fun _=>⟨by simp;omega,?_⟩,fun h=>by simp at h<;>omega⟩
  refine hR _ (rnd_cvs ?_ (ih (pre++[x]) (sumStep h x) (by simp) h1))
  repeat first | exact .nil | refine .cons (.refl _) ?_ | refine .cons (.forget _) ?_
theorem jSum_pc (h:Int) (l:List UInt8) (hlen:l.length<2^62) (σ:Store):PC Tryz.prog 93 [.i .u32 h,.sl 1 (bytesV l)] σ (fun r σ'=>r=.i .u32 (sumF h l)∧σ'=σ):=by
 refine PC.intro Tryz.func93 c93 fun hcl hwf=>wpc_sound ?_
 simp only [p93,SS,seval]
 simp only [bytesV_length,VV,seval]
 refine PWc.wk (Wk.cvs ?_) (PWc.rnd (l.length+1) (loop93 l hlen l [] h rfl ?_))
 ·repeat first | exact .nil | refine .cons (.refl _) ?_ | refine .cons (.forget _) ?_
 intros
 simp only [VV,seval]
 exact ret_end0 (.inr rfl) rfl ⟨rfl,rfl⟩
theorem grow_pc (n:Nat) (h0:0<n) (hn:n<2^40) (σ:Store):PC Tryz.prog 136 [.nil,.i .i64 n] σ (fun r σ'=>r=.own σ.length 0∧σ'=σ++[.row 5 1 1 0 false []]):=by
 obtain ⟨i,z,hi,hz,h1,h2,h3⟩:=info_of infoU8
 refine PC.ofRow (E:=5) (by':=1) ⟨by decide,i,z,hi,hz,h1,h2,h3⟩ fun B w0 w μ vs hS hv=>?_
 have e:vs=#[.slice none 0 0,.int .i64 n]:=by
  have h4:=hv.2 0 _ rfl
  have h5:=hv.2 1 _ rfl
  have h4:=h4.inv_nil
  have h5:=h5.inv_i
  obtain ⟨l⟩:=vs
  match l,hv.1 with
  | [x,y],_=>simp at h4 h5;rw [h4,h5]
 rw [e]
 refine (Any8.slices_Grow_grow Tryz.growB i z hi hz (by omega) none 0 0 n [] w (by omega) (by omega) (by rw [h2];omega) (by omega) (by simp) (fun _=>rfl) (fun a h=>by simp at h)).mono ?_
 rintro e w' ⟨rfl,rfl⟩
 have hG:=grownCap_ge w (0+n) 0 5
 refine ⟨_,[],rfl,?_,?_,by simp,by simp [at2]⟩
 ·refine World.ownsRow_made (base:=w.heap.size) (e:=5) (size:=1) w.drew _ _ (Nat.le_refl _) (grownCap_le_maxLen w _ _ _ (by unfold maxLen;omega)) ?_
  have h5:∀ k,(Builtin.zeroCells z.cells k).size=k:=fun k=>by simp [Builtin.zeroCells,h3]
  have hG':0+n≤grownCap w (0+n) 0 (Tryz.growB_ren.t 25):=hG
  rw [Array.size_append,Array.size_append,h5,h5]
  simp only [Array.size_empty]
  omega
 ·exact ((Below.refl _ w).drew).alloc (Nat.le_refl _) _
def rowsB (ls:List (List UInt8)):List (List V):=ls.map fun l=>[.sl 1 (bytesV l)]
theorem rowsB_len (ls:List (List UInt8)):(rowsB ls).length=ls.length:=by simp [rowsB]
theorem rowsB_at (pre:List (List UInt8)) (x:List UInt8) (rest:List (List UInt8)):at2 (rowsB (pre++x::rest)) pre.length 0=some (.sl 1 (bytesV x)):=by simp [rowsB,at2]
theorem flat_le {ls pre rest:List (List UInt8)} {x:List UInt8} (h:ls=pre++x::rest):pre.flatten.length+x.length≤ls.flatten.length:=by
 subst h;simp
theorem loop94_0 {n:Nat} {σ:Store} {K:Exit→St→Prop} (ls:List (List UInt8)) (hlen:ls.length<2^40) (hfl:ls.flatten.length<2^40):∀ (rest pre:List (List UInt8)),ls=pre++rest →
  (∀ j1 j2 j4 j5 j6 j7 j8 j9 j10 j11 j12 j13 j14 j15 j16 j17 j18 j19 j20 j21 j22 j23 j24 j25 j26 j27 j28 j29 j30 j31 j32 j33 j34 j35,K (.exit 0) ⟨[.sl 1 (rowsB ls),j1,j2,.i .i64 ls.flatten.length,j4,j5,j6,j7,j8,j9,j10,j11,j12,j13,j14,j15,j16,j17,j18,j19,j20,j21,j22,j23,j24,j25,j26,j27,j28,j29,j30,j31,j32,j33,j34,j35],σ⟩) →
  Rnd n Tryz.prog p94_0 K (rest.length+1) ⟨[.sl 1 (rowsB ls),.u,.u,.i .i64 pre.flatten.length,.u,.u,.u,.u,.u,.sl 1 (rowsB ls),.i .i64 ls.length,.i .i64 pre.length,.u,.u,.u,.u,.u,.u,.u,.u,.u,.u,.u,.u,.u,.u,.u,.u,.u,.u,.u,.u,.u,.u,.u,.u],σ⟩:=by
 intro rest
 induction rest with
 | nil =>
  intro pre he h1
  have he:ls=pre:=by simpa using he
  subst he
  refine rnd_step fun R hR=>?_
  simp only [p94_0,VV,seval]
  exact ⟨fun h=>by simp at h,fun _=>h1 ..⟩
 | cons x rest ih =>
  intro pre he h1
  subst he
  have hat:=rowsB_at pre x rest
  have hle:=flat_le (rfl:pre++x::rest=pre++x::rest)
  have hw:IntKind.i64.wrap ((pre.length:Int)+1)=(((pre++[x]).length:Nat):Int):=by
   rw [wrap_succ (by simp at hlen;omega)];simp
  have hs:IntKind.i64.wrap ((pre.flatten.length:Int)+(x.length:Int))=(((pre++[x]).flatten.length:Nat):Int):=by
   rw [show (pre.flatten.length:Int)+(x.length:Int)=((pre.flatten.length+x.length:Nat):Int) by omega,wrap_nat (by omega)];simp
  have hd:decide ((((pre++[x]).flatten.length:Nat):Int)<0)=false:=by simp;omega
  refine rnd_step fun R hR=>?_
  simp only [p94_0,rowsB_len,bytesV_length,hat,hw,hs,hd,VV,seval]
  refine ⟨fun _=>⟨by simp;omega,?_⟩,fun h=>by simp at h<;>omega⟩
  refine hR _ (rnd_cvs ?_ (ih (pre++[x]) (by simp) h1))
  repeat first | exact .nil | refine .cons (.refl _) ?_ | refine .cons (.forget _) ?_
theorem loop94_1 {σ:Store} {K:Exit→St→Prop} (ls:List (List UInt8)) (hlen:ls.length<2^40) (hfl:ls.flatten.length<2^40):∀ (rest pre:List (List UInt8)) (g:Nat),ls=pre++rest →
  (∀ g,(∀ j0 j1 j2 j3 j4 j5 j7 j8 j9 j10 j11 j12 j13 j14 j15 j16 j17 j18 j19 j20 j21 j22 j23 j24 j25 j26 j27 j28 j29 j30 j31 j32 j33 j34 j35,K (.exit 2) ⟨[j0,j1,j2,j3,j4,j5,.own σ.length g,j7,j8,j9,j10,j11,j12,j13,j14,j15,j16,j17,j18,j19,j20,j21,j22,j23,j24,j25,j26,j27,j28,j29,j30,j31,j32,j33,j34,j35],σ++[.row 5 1 1 g false (bytesV ls.flatten)]⟩)) →
  Rnd σ.length Tryz.prog p94_1 K (rest.length+1) ⟨[.u,.u,.u,.u,.u,.u,.own σ.length g,.u,.u,.u,.u,.u,.u,.u,.u,.u,.u,.u,.u,.u,.u,.u,.u,.u,.u,.sl 1 (rowsB ls),.i .i64 ls.length,.i .i64 pre.length,.u,.u,.u,.u,.u,.u,.u,.u],σ++[.row 5 1 1 g false (bytesV pre.flatten)]⟩:=by
 intro rest
 induction rest with
 | nil =>
  intro pre g he h1
  have he:ls=pre:=by simpa using he
  subst he
  refine rnd_step fun R hR=>?_
  simp only [p94_1,VV,seval]
  exact ⟨fun h=>by simp at h,fun _=>h1 g ..⟩
 | cons x rest ih =>
  intro pre g he h1
  subst he
  have hat:=rowsB_at pre x rest
  have hle:=flat_le (rfl:pre++x::rest=pre++x::rest)
  have hw:IntKind.i64.wrap ((pre.length:Int)+1)=(((pre++[x]).length:Nat):Int):=by
   rw [wrap_succ (by simp at hlen;omega)];simp
  refine rnd_step fun R hR=>?_
  simp only [p94_1,rowsB_len,bytesV_length,hat,hw,maxLen,VV,seval]
  refine ⟨fun _=>⟨by simp;omega,?_⟩,fun h=>by simp at h<;>omega⟩
  refine ⟨⟨by omega,by omega⟩,?_⟩
  have e0:bytesV pre.flatten++bytesV x=bytesV (pre++[x]).flatten:=by simp [bytesV]
  rw [e0]
  refine hR _ (rnd_cvs ?_ (ih (pre++[x]) (g+1) (by simp) h1))
  repeat first | exact .nil | refine .cons (.refl _) ?_ | refine .cons (.forget _) ?_
theorem concat_pc (ls:List (List UInt8)) (hlen:ls.length<2^40) (h0:0<ls.flatten.length) (hfl:ls.flatten.length<2^40) (σ:Store):PC Tryz.prog 94 [.sl 1 (rowsB ls)] σ (fun r σ'=>r=.sl 1 (bytesV ls.flatten)∧σ'=σ):=by
 refine PC.intro Tryz.func94 c94 fun hcl hwf=>wpc_sound ?_
 simp only [p94,SS,seval]
 simp only [rowsB_len,VV,seval]
 refine PWc.wk (Wk.cvs ?_) (PWc.rnd (ls.length+1) (loop94_0 ls hlen hfl ls [] rfl ?_))
 ·repeat first | exact .nil | refine .cons (.refl _) ?_ | refine .cons (.forget _) ?_
 intros
 simp only [VV,seval]
 refine call_eq (grow_pc ls.flatten.length h0 hfl _) rfl ?_
 simp only [rowsB_len,VV,seval]
 refine PWc.wk (Wk.cvs ?_) (PWc.rnd (ls.length+1) (loop94_1 ls hlen hfl ls [] 0 rfl ?_))
 ·repeat first | exact .nil | refine .cons (.refl _) ?_ | refine .cons (.forget _) ?_
 intro g
 intros
 simp only [VV,seval]
 refine ret_fz 0 hcl (.inr rfl) rfl rfl ?_ ?_
 ·simp only [List.getD_cons_zero,List.getD_cons_succ,List.map_cons,List.map_nil,fz,fz1,Nat.add_zero,and_self,if_true,LW]
 ·simp only [List.getD_cons_zero,List.getD_cons_succ,List.map_cons,List.map_nil,fz,fz1,Nat.add_zero,and_self,if_true]
  exact ⟨rfl,trivial⟩
theorem jAppend_pc (log p:List UInt8) (hl:log.length<2^30) (hp:p.length<2^30) (σ:Store):PC Tryz.prog 61 [.sl 1 (bytesV log),.sl 1 (bytesV p)] σ (fun r σ'=>r=.tup [.sl 1 (bytesV (appendF log p).1),.i .i64 (appendF log p).2]∧σ'=σ):=by
 refine PC.intro Tryz.func61 c61 fun hcl hwf=>wpc_sound ?_
 have e1:IntKind.i64.wrap ((log.length:Int)+8)=((log.length+8:Nat):Int):=by
  rw [show (log.length:Int)+8=((log.length+8:Nat):Int) by omega,wrap_nat (by omega)]
 have e2:IntKind.i64.wrap (((log.length+8:Nat):Int)+(p.length:Int))=((log.length+8+p.length:Nat):Int):=by
  rw [show ((log.length+8:Nat):Int)+(p.length:Int)=((log.length+8+p.length:Nat):Int) by omega,wrap_nat (by omega)]
 simp only [p61,SS,seval]
 simp only [bytesV_length,e1,e2,VV,seval]
 refine ⟨fun h=>?_,fun h=>?_⟩
 ·have h:65536<p.length∨4194304<log.length+8+p.length:=by simp at h;omega
  refine ret_wk (xs':=[.sl 1 (bytesV (appendF log p).1),.i .i64 (appendF log p).2]) (.inr rfl) rfl (Wk.cvs ?_) rfl ⟨rfl,rfl⟩
  simp only [appendF,if_pos h,bytesV,List.map_nil]
  exact .cons (.nil _) (.cons (.refl _) .nil)
 have h:¬ (65536<p.length∨4194304<log.length+8+p.length):=by simp at h;omega
 refine call_eq (jNumber_pc (IntKind.u32.wrap (p.length:Int)) _) rfl ?_
 simp only [VV,seval]
 refine call_eq (jSum_pc 2166136261 (numB (IntKind.u32.wrap (p.length:Int))) (by rw [numB_length];omega) _) rfl ?_
 simp only [VV,seval]
 refine call_eq (jSum_pc _ p (by omega) _) rfl ?_
 simp only [VV,seval]
 refine call_eq (jNumber_pc _ _) rfl ?_
 simp only [V.pure,VV,seval]
 refine call_cv (zs:=[.sl 1 (rowsB [log,numB (IntKind.u32.wrap (p.length:Int)),checkB p,p])]) (.cons (.lit _ _) .nil) (concat_pc _ (by simp) (by simp [numB_length];omega) (by simp [numB_length,checkB];omega) _) ?_
 simp only [VV,seval]
 refine ret_wk (xs':=[.sl 1 (bytesV (appendF log p).1),.i .i64 (appendF log p).2]) (.inr rfl) rfl ?_ rfl ⟨rfl,rfl⟩
 simp only [appendF,if_neg h,List.flatten_cons,List.flatten_nil,List.append_nil,List.append_assoc]
 exact Wk.refl _ _
theorem half_eq (n:Nat) (hn:n<2^60):IntKind.i64.wrap ((IntKind.u64.wrap (n:Int)).fdiv (2^min 1 IntKind.u64.bits))=((n / 2:Nat):Int):=by
 have h1:IntKind.u64.wrap (n:Int)=n:=by
  simp only [IntKind.wrap,IntKind.bits,IntKind.signed]
  simp only [Bool.false_and,Bool.false_eq_true,if_false]
  omega
 have h2:(2:Int)^min 1 IntKind.u64.bits=2:=by decide
 rw [h1,h2,Int.fdiv_eq_ediv_of_nonneg _ (by decide)]
 rw [show (n:Int) / 2=((n / 2:Nat):Int) by omega,wrap_nat (by omega)]
theorem loop53 {S:Store} {K:Exit→St→Prop} (f:Nat) (caps:List V) (n m:Nat) (hn:n<2^40) (hm:m≤n) (hok:okFn Tryz.prog f=true)
  (hf:∀ k:Nat,k<n→PC Tryz.prog f (.i .i64 k::caps) S (fun r σ'=>r=.b (decide (m≤k))∧σ'=S)):∀ (N i j:Nat),j - i≤N→i≤m→m≤j→j≤n →
  (∀ j0 j1 j2 j3 j4 j6 j7 j8 j9 j10 j11 j12 j13 j14 j15 j16 j17 j18 j19 j20 j21 j22 j23 j24 j25,K (.exit 0) ⟨[j0,j1,j2,j3,j4,.i .i64 m,j6,j7,j8,j9,j10,j11,j12,j13,j14,j15,j16,j17,j18,j19,j20,j21,j22,j23,j24,j25],S⟩) →
  Rnd S.length Tryz.prog p53_0 K (N+1) ⟨[.u,.fn f caps,.u,.u,.u,.i .i64 i,.i .i64 j,.u,.u,.u,.u,.u,.u,.u,.u,.u,.u,.u,.u,.u,.u,.u,.u,.u,.u,.u],S⟩:=by
 intro N
 induction N with
 | zero =>
  intro i j h1 h2 h3 h4 h5
  obtain rfl:i=m:=by omega
  have hd:decide ((i:Int)<(j:Int))=false:=by simp;omega
  refine rnd_step fun R hR=>?_
  simp only [p53_0,hd,VV,Int.reduceToNat,reduceIte,reduceCtorEq]
  exact h5 ..
 | succ N ih =>
  intro i j h1 h2 h3 h4 h5
  by_cases hij:i<j
  ·have hd:decide ((i:Int)<(j:Int))=true:=by simp;omega
   have e1:IntKind.i64.wrap ((i:Int)+(j:Int))=((i+j:Nat):Int):=by
    rw [show (i:Int)+(j:Int)=((i+j:Nat):Int) by omega,wrap_nat (by omega)]
   refine rnd_step fun R hR=>?_
   have e2:=half_eq (i+j) (by omega)
   have e3:IntKind.i64.wrap ((((i+j) / 2:Nat):Int)+1)=(((i+j) / 2+1:Nat):Int):=by
    rw [wrap_succ (by omega)]
   simp only [p53_0,hd,e1,e2,VV,Int.reduceToNat,reduceIte,reduceCtorEq]
   refine ⟨by decide,?_⟩
   refine callv_eq rfl hok (hf ((i+j) / 2) (by omega)) rfl ?_
   simp only [e3,VV,reduceIte]
   refine ⟨fun h=>?_,fun h=>?_⟩
   ·have h:¬ m≤(i+j) / 2:=by simpa using h
    refine hR _ (rnd_cvs ?_ (ih ((i+j) / 2+1) j (by omega) (by omega) h3 h4 h5))
    repeat first | exact .nil | refine .cons (.refl _) ?_ | refine .cons (.forget _) ?_
   ·have h:m≤(i+j) / 2:=by simpa using h
    refine hR _ (rnd_cvs ?_ (ih i ((i+j) / 2) (by omega) h2 h (by omega) h5))
    repeat first | exact .nil | refine .cons (.refl _) ?_ | refine .cons (.forget _) ?_
  ·obtain rfl:i=m:=by omega
   have hd:decide ((i:Int)<(j:Int))=false:=by simp;omega
   refine rnd_step fun R hR=>?_
   simp only [p53_0,hd,VV,Int.reduceToNat,reduceIte,reduceCtorEq]
   exact h5 ..
theorem search_pc {S:Store} (f:Nat) (caps:List V) (n m:Nat) (hn:n<2^40) (hm:m≤n) (hok:okFn Tryz.prog f=true)
  (hf:∀ k:Nat,k<n→PC Tryz.prog f (.i .i64 k::caps) S (fun r σ'=>r=.b (decide (m≤k))∧σ'=S)):PC Tryz.prog 53 [.i .i64 n,.fn f caps] S (fun r σ'=>r=.i .i64 m∧σ'=S):=by
 refine PC.intro Tryz.func53 c53 fun hcl hwf=>wpc_sound ?_
 simp only [p53,SS,seval]
 simp only [VV,seval]
 refine PWc.wk (Wk.cvs ?_) (PWc.rnd (n+1) (loop53 f caps n m hn hm hok hf n 0 n (by omega) (by omega) hm (Nat.le_refl _) ?_))
 ·repeat first | exact .nil | refine .cons (.refl _) ?_ | refine .cons (.forget _) ?_
 intros
 simp only [VV,seval]
 exact ret_end0 (.inr rfl) rfl ⟨rfl,rfl⟩
theorem cells_len (x:Opr):x.cells.length=13:=by simp [Opr.cells,Stamp.cells,En.cells]
theorem cells_take (x:Opr):x.cells.take 13=x.cells:=by rw [← cells_len x,List.take_length]
theorem placeF_pc (S:Store) (a b:Nat) (l:List Opr) (x:Opr) (ha:S[a]?=some (.box 25 [.sl 13 (l.map Opr.cells)])) (hb:S[b]?=some (.box 35 x.cells)) (k:Nat) (y:Opr) (hk:l[k]?=some y) :
  PC Tryz.prog 54 [.i .i64 k,.ptr a 0,.ptr b 0] S (fun r σ'=>r=.b (decide (0≤ordNo y x))∧σ'=S):=by
 refine PC.intro Tryz.func54 c54 fun hcl hwf=>wpc_sound ?_
 have hkl:k<l.length:=(List.getElem?_eq_some_iff.1 hk).1
 have hat:(l.map Opr.cells).getD k []=y.cells:=by simp [List.getD_eq_getElem?_getD,hk]
 simp only [p54,SS,seval]
 simp only [ha,hb,hat,List.length_map,VV,seval]
 refine ⟨⟨by omega,by omega⟩,by rw [cells_len];exact Nat.le_refl _,by rw [cells_len];exact Nat.le_refl _,?_⟩
 refine call_eq (order_pc y x _) (by simp only [cells_take,VV,seval]) ?_
 simp only [VV,seval]
 exact ret_end0 (.inr rfl) rfl ⟨rfl,rfl⟩
theorem place_pc' (l:List Opr) (x:Opr) (m:Nat) (hl:l.length<2^39) (hm:m≤l.length) (h1:∀ (k:Nat) (y:Opr),l[k]?=some y→(0≤ordNo y x↔m≤k)) (σ:Store) :
  PC Tryz.prog 25 [.sl 13 (l.map Opr.cells),.agg x.cells] σ (fun r σ'=>r=.tup [.i .i64 m,.b (match l[m]? with | some y=>ordNo y x==0 | none=>false)]∧σ'=σ):=by
 refine PC.intro Tryz.func25 c25 fun hcl hwf=>wpc_sound ?_
 simp only [p25,SS,seval]
 simp only [Opr.cells,Stamp.cells,En.cells,List.length_map,VV,seval]
 refine call_eq (search_pc 54 [.ptr σ.length 0,.ptr (σ.length+1) 0] l.length m (by omega) hm (by kernel_rfl) (fun k hk=>?_)) rfl ?_
 ·obtain ⟨y,hy⟩:∃ y,l[k]?=some y:=⟨_,List.getElem?_eq_getElem hk⟩
  refine (placeF_pc _ σ.length (σ.length+1) l x (by simp only [VV,seval]) (by simp only [Opr.cells,Stamp.cells,En.cells,VV,seval]) k y hy).mono ?_
  rintro r σ' ⟨rfl,rfl⟩
  refine ⟨?_,rfl⟩
  simp only [decide_eq_decide.2 (h1 k y hy)]
 ·simp only [List.length_map,VV,seval]
  have e1:((decide ((m:Int)<(l.length:Int))==true)=true)↔m<l.length:=by simp
  cases hy:l[m]? with
  | some y =>
   have hml:m<l.length:=(List.getElem?_eq_some_iff.1 hy).1
   have hat:(l.map Opr.cells).getD m []=y.cells:=by simp [List.getD_eq_getElem?_getD,hy]
   have hd:decide ((m:Int)<(l.length:Int))=true:=by simp;omega
   rw [hat,cells_take]
   refine ⟨fun _=>⟨by omega,by omega⟩,.agg y.cells,fun _=>⟨rfl,by rw [cells_len];exact Nat.le_refl _⟩,?_⟩
   refine callg_eq (c:=true) (by simp only [hd,VV,seval]<;>rfl) (fun _=>order_pc y x _) (by simp only [Opr.cells,Stamp.cells,En.cells,VV,seval]) ?_
   simp only [hd,VV,seval]
   exact ret_end hcl (.inr rfl) (by simp only [RS,seval];rfl) (by simp only [LW]) ⟨rfl,rfl⟩
  | none =>
   have hml:¬ m<l.length:=by simpa using hy
   have hd:decide ((m:Int)<(l.length:Int))=false:=by simp;omega
   refine ⟨fun h=>absurd (e1.1 h) hml,.u,fun h=>absurd (e1.1 h) hml,?_⟩
   refine callg_eq (c:=false) (v:=.i .i64 0) (by simp only [hd,VV,seval]<;>rfl) (fun h=>by simp at h) rfl ?_
   simp only [hd,VV,seval]
   exact ret_end hcl (.inr rfl) (by simp only [RS,seval];rfl) (by simp only [LW]) ⟨rfl,rfl⟩
set_option maxHeartbeats 1000000 in
theorem loop15_0 {σ:Store} {K:Exit→St→Prop} {bx:Ob} (l:List Opr) (hcl:Closed (σ++[bx])) (hlen:l.length<2^39):∀ (rest pre:List Opr) (ks:List (Int×Int)),l=pre++rest →
  (∀ j0 j1 j2 j4 j5 j6 j7 j8 j9 j10 j11 j12 j13 j14 j15 j16 j17 j18 j19 j20 j21 j22 j23 j24 j25 j26 j27 j28 j29 j30 j31 j32 j33 j34 j35 j36 j37 j38 j39 j40 j41 j42 j43 j44 j45 j46 j47 j48 j49 j50 j51 j52 j53,K (.exit 0) ⟨[j0,j1,j2,.mp (σ.length+1),j4,j5,j6,j7,j8,j9,j10,j11,j12,j13,j14,j15,j16,j17,j18,j19,j20,j21,j22,j23,j24,j25,j26,j27,j28,j29,j30,j31,j32,j33,j34,j35,j36,j37,j38,j39,j40,j41,j42,j43,j44,j45,j46,j47,j48,j49,j50,j51,j52,j53],σ++[bx,.map 71 70 (entK (rest.foldl (fun ks o=>addK ks (keyNo o)) ks))]⟩) →
  Rnd σ.length Tryz.prog p15_0 K (rest.length+1) ⟨[.u,.u,.u,.mp (σ.length+1),.u,.u,.u,.u,.u,.u,.u,.u,.u,.u,.sl 13 (l.map Opr.cells),.i .i64 l.length,.i .i64 pre.length,.u,.u,.u,.u,.u,.u,.u,.u,.u,.u,.u,.u,.u,.u,.u,.u,.u,.u,.u,.u,.u,.u,.u,.u,.u,.u,.u,.u,.u,.u,.u,.u,.u,.u,.u,.u,.u],σ++[bx,.map 71 70 (entK ks)]⟩:=by
 intro rest
 induction rest with
 | nil =>
  intro pre ks he h1
  have he:l=pre:=by simpa using he
  subst he
  refine rnd_step fun R hR=>?_
  simp only [p15_0,VV,seval]
  exact ⟨fun h=>by simp at h,fun _=>h1 ..⟩
 | cons x rest ih =>
  intro pre ks he h1
  subst he
  have hw:IntKind.i64.wrap ((pre.length:Int)+1)=(((pre++[x]).length:Nat):Int):=by
   rw [wrap_succ (by simp at hlen;omega)];simp
  have next:∀ {loc:Store} {R:St→Prop} {fr:List V},(∀ st',Rnd σ.length Tryz.prog p15_0 K (rest.length+1) st'→R st') →
    Cvs fr [.u,.u,.u,.mp (σ.length+1),.u,.u,.u,.u,.u,.u,.u,.u,.u,.u,.sl 13 ((pre++x::rest).map Opr.cells),.i .i64 (pre++x::rest).length,.i .i64 (pre++[x]).length,.u,.u,.u,.u,.u,.u,.u,.u,.u,.u,.u,.u,.u,.u,.u,.u,.u,.u,.u,.u,.u,.u,.u,.u,.u,.u,.u,.u,.u,.u,.u,.u,.u,.u,.u,.u,.u]→R ⟨fr,σ++(bx::.map 71 70 (entK (addK ks (keyNo x)))::loc)⟩:=by
   intro loc R fr hR hc
   refine hR _ (rnd_drop [_,_] loc ?_ hc ?_ (ih (pre++[x]) (addK ks (keyNo x)) (by simp) h1))
   ·have:=closed_add hcl (l:=[.map 71 70 (entK (addK ks (keyNo x)))]) (by simp)
    simpa using this
   ·simp only [LW,List.length_cons,List.length_nil,Nat.zero_add]
    omega
  refine rnd_step fun R hR=>?_
  simp only [p15_0,Opr.cells,Stamp.cells,En.cells,VV,seval]
  refine ⟨fun _=>⟨by simp;omega,?_⟩,fun h=>by simp at h<;>omega⟩
  have hpv:purifyV [] (.agg [])=.agg []:=rfl
  rcases entK_put ks (keyNo x) with ⟨_,h2,h3⟩ | ⟨_,i,h2,h3⟩
  ·simp only [kV,keyNo] at h2 h3
   simp only [h2,h3,hpv,V.mval,hw,VV,seval]
   refine next hR ?_
   repeat first | exact .nil | refine .cons (.refl _) ?_ | refine .cons (.forget _) ?_
  ·simp only [kV,keyNo] at h2 h3
   simp only [h2,h3,hpv,V.mval,hw,VV,seval]
   refine next hR ?_
   repeat first | exact .nil | refine .cons (.refl _) ?_ | refine .cons (.forget _) ?_
def cellsI (vs:List Int):List V:=vs.map fun n=>.i .i64 n
theorem cellsI_lt (m:Nat) (vs:List Int):AllLt m (cellsI vs):=allLt_iff.2 fun i x hx=>by
 simp only [cellsI,List.getElem?_map,Option.map_eq_some_iff] at hx
 obtain ⟨n,_,rfl⟩:=hx
 exact .i _ _
set_option maxHeartbeats 1000000 in
theorem loop15_1 {σ:Store} {K:Exit→St→Prop} {bx:Ob} (hcl:Closed (σ++[bx])) (ks:List (Int×Int)) (o:Nat) (ho:o<8) (c:Nat) (hc:c<2^40) (h1:∀ j:Nat,j<c→((o:Int),(j:Int)+1)∈ks) (h2:((o:Int),(c:Int)+1) ∉ ks) :
  ∀ (N j:Nat) (vs:List Int),j+N=c→vs.length=8→vs[o]?=some (j:Int) →
  (∀ vs' loc,vs'.length=8→vs'[o]?=some (c:Int)→(∀ q,q≠o→vs'[q]?=vs[q]?)→(∀ j0 j1 j2 j4 j5 j7 j8 j9 j10 j11 j12 j13 j14 j15 j16 j17 j18 j19 j20 j21 j22 j23 j24 j25 j26 j27 j28 j29 j31 j32 j33 j34 j35 j36 j37 j38 j39 j40 j41 j42 j43 j44 j45 j46 j47 j48 j49 j50 j51 j52 j53,K (.exit 4) ⟨[j0,j1,j2,.mp (σ.length+1),j4,j5,.ptr (σ.length+2) 0,j7,j8,j9,j10,j11,j12,j13,j14,j15,j16,j17,j18,j19,j20,j21,j22,j23,j24,j25,j26,j27,j28,j29,.i .i64 o,j31,j32,j33,j34,j35,j36,j37,j38,j39,j40,j41,j42,j43,j44,j45,j46,j47,j48,j49,j50,j51,j52,j53],σ++(bx::.map 71 70 (entK ks)::.box 72 (cellsI vs')::loc)⟩)) →
  Rnd σ.length Tryz.prog p15_1 K (N+1) ⟨[.u,.u,.u,.mp (σ.length+1),.u,.u,.ptr (σ.length+2) 0,.i .i64 o,.u,.u,.u,.u,.u,.u,.u,.u,.u,.u,.u,.u,.u,.u,.u,.u,.u,.u,.u,.u,.u,.u,.i .i64 o,.u,.u,.u,.u,.u,.u,.u,.u,.u,.u,.u,.u,.u,.u,.u,.u,.u,.u,.u,.u,.u,.u,.u],σ++[bx,.map 71 70 (entK ks),.box 72 (cellsI vs)]⟩:=by
 intro N
 induction N with
 | zero =>
  intro j vs hj hv ha h3
  obtain rfl:j=c:=by omega
  have hat:(cellsI vs)[o]?=some (.i .i64 (j:Int)):=by simp [cellsI,ha]
  have hf:=findK_none (n:=0) h2
  simp only [kV] at hf
  have hw:IntKind.i64.wrap ((j:Int)+1)=(j:Int)+1:=IntWalk.i64_in _ (by omega)
  refine rnd_step fun R hR=>?_
  simp only [p15_1,hw,hat,Nat.mul_one,mapFind,hf,VV,seval]
  exact ⟨⟨by omega,by omega⟩,h3 vs [_] hv ha (fun _ _=>rfl) ..⟩
 | succ N ih =>
  intro j vs hj hv ha h3
  have hat:(cellsI vs)[o]?=some (.i .i64 (j:Int)):=by simp [cellsI,ha]
  obtain ⟨i,hf,_⟩:=findK_some (n:=0) (h1 j (by omega))
  simp only [kV] at hf
  have hw:IntKind.i64.wrap ((j:Int)+1)=(j:Int)+1:=IntWalk.i64_in _ (by omega)
  refine rnd_step fun R hR=>?_
  simp only [p15_1,hw,hat,Nat.mul_one,mapFind,hf,VV,seval]
  refine ⟨⟨by omega,by omega⟩,⟨by omega,by omega⟩,⟨by omega,by omega⟩,by simp [cellsI];omega,?_⟩
  have e0:List.take o (cellsI vs)++.i .i64 ((j:Int)+1)::List.drop (o+1) (cellsI vs)=cellsI (vs.set o ((j+1:Nat):Int)):=by
   have:cellsI (vs.set o ((j+1:Nat):Int))=(cellsI vs).set o (.i .i64 ((j:Int)+1)):=by simp [cellsI]
   rw [this,List.set_eq_take_append_cons_drop,if_pos (by simp [cellsI];omega)]
  rw [e0]
  refine hR _ (rnd_drop [_,_,_] [_] ?_ ?_ ?_ (ih (j+1) (vs.set o ((j+1:Nat):Int)) (by omega) (by simpa using hv) (by simp [hv,ho]) (fun vs' loc q1 q2 q3=>h3 vs' loc q1 q2 (fun q hq=>by rw [q3 q hq];simp [Ne.symm hq]))))
  ·have:=closed_add hcl (l:=[.map 71 70 (entK ks),.box 72 (cellsI (vs.set o ((j+1:Nat):Int)))]) (by simp [cellsI_lt])
   simpa using this
  ·repeat first | exact .nil | refine .cons (.refl _) ?_ | refine .cons (.forget _) ?_
  ·simp only [LW,List.length_cons,List.length_nil,Nat.zero_add]
   omega
set_option maxHeartbeats 1000000 in
theorem loop15_2 {σ:Store} {K:Exit→St→Prop} {bx:Ob} (hcl:Closed (σ++[bx])) (ks:List (Int×Int)) (c:Nat→Nat) (hc:∀ o:Nat,o<8→c o<2^40) (h1:∀ o:Nat,o<8→∀ j:Nat,j<c o→((o:Int),(j:Int)+1)∈ks) (h2:∀ o:Nat,o<8→((o:Int),(c o:Int)+1) ∉ ks) :
  ∀ (N o:Nat) (vs:List Int),o+N=8→vs.length=8→(∀ q,q<o→vs[q]?=some (c q:Int))→(∀ q,o≤q→q<8→vs[q]?=some 0) →
  ((∀ j0 j1 j2 j3 j4 j5 j7 j8 j9 j10 j11 j12 j13 j14 j15 j16 j17 j18 j19 j20 j21 j22 j23 j24 j25 j26 j27 j28 j29 j30 j31 j32 j33 j34 j35 j36 j37 j38 j39 j40 j41 j42 j43 j44 j45 j46 j47 j48 j49 j50 j51 j52 j53,K (.exit 2) ⟨[j0,j1,j2,j3,j4,j5,.ptr (σ.length+2) 0,j7,j8,j9,j10,j11,j12,j13,j14,j15,j16,j17,j18,j19,j20,j21,j22,j23,j24,j25,j26,j27,j28,j29,j30,j31,j32,j33,j34,j35,j36,j37,j38,j39,j40,j41,j42,j43,j44,j45,j46,j47,j48,j49,j50,j51,j52,j53],σ++[bx,.map 71 70 (entK ks),.box 72 (cellsI ((List.range 8).map fun q=>(c q:Int)))]⟩)) →
  Rnd σ.length Tryz.prog p15_2 K (N+1) ⟨[.u,.u,.u,.mp (σ.length+1),.u,.u,.ptr (σ.length+2) 0,.u,.u,.u,.u,.u,.u,.u,.u,.u,.u,.u,.u,.u,.u,.u,.u,.u,.u,.u,.u,.u,.u,.u,.i .i64 o,.u,.u,.u,.u,.u,.u,.u,.u,.u,.u,.u,.u,.u,.u,.u,.u,.u,.u,.u,.u,.u,.u,.u],σ++[bx,.map 71 70 (entK ks),.box 72 (cellsI vs)]⟩:=by
 intro N
 induction N with
 | zero =>
  intro o vs ho hv ha hz h3
  obtain rfl:o=8:=by omega
  have e:vs=(List.range 8).map fun q=>(c q:Int):=by
   apply List.ext_getElem?
   intro q
   by_cases hq:q<8
   ·rw [ha q hq];simp [hq]
   ·rw [List.getElem?_eq_none (by omega),List.getElem?_eq_none (by simp;omega)]
  rw [e]
  refine rnd_step fun R hR=>?_
  simp only [p15_2,VV,seval]
  exact ⟨fun h=>by simp at h,fun _=>h3 ..⟩
 | succ N ih =>
  intro o vs ho hv ha hz h3
  have hd:decide ((o:Int)<8)=true:=by simp;omega
  have hw:IntKind.i64.wrap ((o:Int)+1)=((o+1:Nat):Int):=wrap_succ (by omega)
  refine rnd_step fun R hR=>?_
  simp only [p15_2,hd,VV,seval]
  refine PWc.wk (Wk.cvs ?_) (PWc.rnd (c o+1) (loop15_1 hcl ks o (by omega) (c o) (hc o (by omega)) (h1 o (by omega)) (h2 o (by omega)) (c o) 0 vs (by omega) hv (hz o (Nat.le_refl _) (by omega)) ?_))
  ·repeat first | exact .nil | refine .cons (.refl _) ?_ | refine .cons (.forget _) ?_
  intro vs' loc q1 q2 q3
  intros
  simp only [hw,VV,seval]
  refine hR _ (rnd_drop [_,_,_] loc ?_ ?_ ?_ (ih (o+1) vs' (by omega) q1 (fun q hq=>?_) (fun q hq hq8=>?_) h3))
  ·have:=closed_add hcl (l:=[.map 71 70 (entK ks),.box 72 (cellsI vs')]) (by simp [cellsI_lt])
   simpa using this
  ·repeat first | exact .nil | refine .cons (.refl _) ?_ | refine .cons (.forget _) ?_
  ·simp only [LW,List.length_cons,List.length_nil,Nat.zero_add]
   omega
  ·by_cases e:q=o
   ·subst e;exact q2
   ·rw [q3 q e];exact ha q (by omega)
  ·rw [q3 q (by omega)];exact hz q (by omega) hq8
structure Counts (l:List Opr) (c:Nat→Nat):Prop where
 lt:∀ o:Nat,o<8→c o<2^40
 has:∀ o:Nat,o<8→∀ j:Nat,j<c o→∃ x∈l,keyNo x=((o:Int),(j:Int)+1)
 no:∀ o:Nat,o<8→∀ x∈l,keyNo x≠((o:Int),(c o:Int)+1)
def countL (c:Nat→Nat):List Int:=(List.range 8).map fun q=>(c q:Int)
set_option maxHeartbeats 1000000 in
theorem seen_pc (o:Off) (ho:o.small) (hd:o.down=false) (c:Nat→Nat) (hc:Counts o.ops c) (σ:Store):PC Tryz.prog 15 [.agg o.cells] σ (fun r σ'=>r=.sl 1 ((vJoin (countL c) []).map iRow)∧σ'=σ):=by
 refine PC.intro Tryz.func15 c15 fun hcl hwf=>?_
 simp only [p15,SS,seval]
 refine PWc.cutAt (.more (.more (.more (.more (.more (.one _ _)))))) fun R hR=>?_
 simp only [Off.cells,hd,List.length_map,VV,seval]
 have hcl2:Closed (σ++[.box 38 [.i .i64 o.number,.i .i64 o.clock,.sl 13 (o.ops.map Opr.cells),.sl 1 (bytesV o.log),.i .i64 o.synced,.b false]]):=closed_add hcl (by simp only [List.forall_mem_cons,List.not_mem_nil,false_imp_iff,implies_true,LW])
 refine PWc.wk (Wk.cvs ?_) (PWc.rnd (o.ops.length+1) (loop15_0 o.ops hcl2 (by have:=ho.len;omega) o.ops [] [] rfl ?_))
 ·repeat first | exact .nil | refine .cons (.refl _) ?_ | refine .cons (.forget _) ?_
 intros
 simp only [VV,seval]
 have hk:=fun q=>keys_mem o.ops [] q
 generalize hks:o.ops.foldl (fun ks o=>addK ks (keyNo o)) []=ks at hk ⊢
 refine PWc.wk (Wk.cvs ?_) (PWc.rnd (8+1) (loop15_2 hcl2 ks c hc.lt (fun q hq j hj=>?_) (fun q hq h=>?_) 8 0 [0,0,0,0,0,0,0,0] rfl rfl (fun q hq=>by omega) (fun q _ hq=>?_) ?_))
 ·repeat first | exact .nil | refine .cons (.refl _) ?_ | refine .cons (.forget _) ?_
 ·obtain ⟨x,h1,h2⟩:=hc.has q hq j hj
  exact (hk _).2 (.inr ⟨x,h1,h2⟩)
 ·rcases (hk _).1 h with h | ⟨x,h1,h2⟩
  ·simp at h
  ·exact hc.no q hq x h1 h2
 ·rcases q with _ | _ | _ | _ | _ | _ | _ | _ | q<;>first | rfl | omega
 intros
 simp only [VV,seval]
 refine hR _ (PWc.wk ((Wk.cvs (ys:=[.u,.u,.u,.u,.u,.u,.ptr (σ.length+2) 0,.u,.u,.u,.u,.u,.u,.u,.u,.u,.u,.u,.u,.u,.u,.u,.u,.u,.u,.u,.u,.u,.u,.u,.u,.u,.u,.u,.u,.u,.u,.u,.u,.u,.u,.u,.u,.u,.u,.u,.u,.u,.u,.u,.u,.u,.u,.u]) (by repeat first | exact .nil | refine .cons (.refl _) ?_ | refine .cons (.forget _) ?_)).trans (Wk.boxEp (T:=72) (cs:=cellsI (countL c)) (ys:=[.u,.u,.u,.u,.u,.u,.ep 8 [cellsI (countL c)] 0 0,.u,.u,.u,.u,.u,.u,.u,.u,.u,.u,.u,.u,.u,.u,.u,.u,.u,.u,.u,.u,.u,.u,.u,.u,.u,.u,.u,.u,.u,.u,.u,.u,.u,.u,.u,.u,.u,.u,.u,.u,.u,.u,.u,.u,.u,.u,.u]) 2 (Nat.le_refl _) hcl rfl ?_ ?_)) (wpc_sound ?_))
 ·intro x hx
  simp only [cellsI,List.mem_map] at hx
  obtain ⟨n,_,rfl⟩:=hx
  rfl
 ·have e:(cellsI (countL c)).length=8:=by simp [cellsI,countL]
  have hb:=Bv.ptr (n:=σ.length) (k:=2) (cs:=cellsI (countL c)) 0
  rw [e] at hb
  repeat first | exact .nil | refine .cons (.forget _) ?_ | refine .cons hb ?_
 clear hR R
 have e8:(cellsI (countL c)).length=8:=by simp [cellsI,countL]
 have e9:(cellsI (countL c)).map (fun x=>[x])=(countL c).map iRow:=by simp [cellsI,iRow]
 simp only [e8,e9,VV,seval]
 refine call_eq (vTrim_pc (countL c) _) rfl ?_
 simp only [VV,seval]
 exact ret_end0 (.inr rfl) rfl ⟨rfl,rfl⟩
end Go.Proofs.Tryz
namespace Go.Proofs.Tryz
open Go Go.Pm Go.Bt
set_option maxRecDepth 20000 in
theorem r16SameEntry_pc (a b:En) (σ:Store):PC Tryz.prog 30 [.agg a.cells,.agg b.cells] σ (fun r σ'=>r=.b (enEq a b)∧σ'=σ):=by
 refine PC.intro Tryz.func30 c30 fun hcl hwf=>wpc_sound ?_
 simp only [p30,SS,seval]
 simp only [En.cells,VV,seval]
 refine call_eq (r3Same_pc a.source b.source _) rfl ?_
 simp only [VV,seval]
 have e1:enEq a b=(itsEq a.source b.source&&(itsEq a.target b.target&&(a.previous==b.previous&&(a.next==b.next&&(a.author==b.author&&(a.project==b.project&&(a.created==b.created&&a.origin==b.origin))))))):=rfl
 rw [e1]
 refine callg_eq (by simp only [VV,seval]<;>rfl) (fun _=>r3Same_pc a.target b.target _) rfl ?_
 simp only [VV,seval]
 cases itsEq a.source b.source<;>simp only [VV,seval]
 ·exact ret_end hcl (.inr rfl) (by simp only [RS,seval];rfl) (by simp only [LW]) ⟨rfl,rfl⟩
 cases itsEq a.target b.target<;>simp only [VV,seval]
 ·exact ret_end hcl (.inr rfl) (by simp only [RS,seval];rfl) (by simp only [LW]) ⟨rfl,rfl⟩
 cases a.previous==b.previous<;>simp only [VV,seval]
 ·exact ret_end hcl (.inr rfl) (by simp only [RS,seval];rfl) (by simp only [LW]) ⟨rfl,rfl⟩
 cases a.next==b.next<;>simp only [VV,seval]
 ·exact ret_end hcl (.inr rfl) (by simp only [RS,seval];rfl) (by simp only [LW]) ⟨rfl,rfl⟩
 cases a.author==b.author<;>simp only [VV,seval]
 ·exact ret_end hcl (.inr rfl) (by simp only [RS,seval];rfl) (by simp only [LW]) ⟨rfl,rfl⟩
 cases a.project==b.project<;>simp only [VV,seval]
 ·exact ret_end hcl (.inr rfl) (by simp only [RS,seval];rfl) (by simp only [LW]) ⟨rfl,rfl⟩
 cases a.created==b.created<;>simp only [VV,seval]
 ·exact ret_end hcl (.inr rfl) (by simp only [RS,seval];rfl) (by simp only [LW]) ⟨rfl,rfl⟩
 exact ret_end hcl (.inr rfl) (by simp only [RS,seval];rfl) (by simp only [LW]) ⟨rfl,rfl⟩
theorem loop12 {n:Nat} {σ:Store} {K:Exit→St→Prop} (a b:List En) (hlen:a.length<2^63) (hab:a.length=b.length):∀ (ra rb pa pb:List En),a=pa++ra→b=pb++rb→pa.length=pb.length →
  (ensEq ra rb=true→(∀ j0 j1 j2 j3 j4 j5 j6 j7 j8 j9 j10 j11 j12 j13 j14 j15 j16 j17 j18 j19 j20 j21 j22 j23 j24 j25 j26,K (.exit 0) ⟨[j0,j1,j2,j3,j4,j5,j6,j7,j8,j9,j10,j11,j12,j13,j14,j15,j16,j17,j18,j19,j20,j21,j22,j23,j24,j25,j26],σ⟩))→(ensEq ra rb=false→(∀ j0 j1 j2 j3 j5 j6 j7 j8 j9 j10 j11 j12 j13 j14 j15 j16 j17 j18 j19 j20 j21 j22 j23 j24 j25 j26,K .ret ⟨[j0,j1,j2,j3,.b false,j5,j6,j7,j8,j9,j10,j11,j12,j13,j14,j15,j16,j17,j18,j19,j20,j21,j22,j23,j24,j25,j26],σ⟩)) →
  Rnd n Tryz.prog p12_0 K (ra.length+1) ⟨[.sl 8 (a.map En.cells),.sl 8 (b.map En.cells),.u,.u,.u,.u,.u,.u,.u,.u,.u,.u,.i .i64 a.length,.i .i64 pa.length,.u,.u,.u,.u,.u,.u,.u,.u,.u,.u,.u,.u,.u],σ⟩:=by
 intro ra
 induction ra with
 | nil =>
  intro rb pa pb ha hb hp h1 h2
  have:rb=[]:=by
   subst ha;subst hb
   simp at hab
   exact List.eq_nil_of_length_eq_zero (by omega)
  subst this
  have ha:a=pa:=by simpa using ha
  subst ha
  refine rnd_step fun R hR=>?_
  simp only [p12_0,VV,seval]
  exact ⟨fun h=>by simp at h,fun _=>h1 rfl ..⟩
 | cons x ra ih =>
  intro rb pa pb ha hb hp h1 h2
  cases rb with
  | nil=>subst ha;subst hb;simp at hab;omega
  | cons y rb =>
   subst ha;subst hb
   have e2:(List.map En.cells (pb++y::rb)).getD pa.length []=y.cells:=by rw [hp];exact row_at
   have hw:IntKind.i64.wrap ((pa.length:Int)+1)=(((pa++[x]).length:Nat):Int):=by
    rw [wrap_succ (by simp at hlen;omega)];simp
   refine rnd_step fun R hR=>?_
   simp only [p12_0,Int.toNat_natCast,e2,En.cells,VV,seval]
   have hla:(0:Int)≤pa.length∧(pa.length:Int)<(List.map En.cells (pa++x::ra)).length:=by simp;omega
   have hlb:(0:Int)≤pa.length∧(pa.length:Int)<(List.map En.cells (pb++y::rb)).length:=by simp at hab ⊢;omega
   refine ⟨fun _=>⟨hla,hlb,?_⟩,fun h=>by simp at h<;>omega⟩
   refine call_eq (r16SameEntry_pc x y _) rfl ?_
   simp only [VV,seval]
   refine ⟨fun h=>?_,fun h=>?_⟩
   ·have h:enEq x y=false:=by rw [Bool.not_eq_true'] at h;exact h
    exact h2 (by simp [ensEq,h]) ..
   ·have h:enEq x y=true:=by rw [Bool.not_eq_false'] at h;exact h
    have e:ensEq (x::ra) (y::rb)=ensEq ra rb:=by simp [ensEq,h]
    rw [e] at h1 h2
    refine hR _ (rnd_cvs ?_ (ih rb (pa++[x]) (pb++[y]) (by simp) (by simp) (by simp [hp]) h1 h2))
    rw [hw];repeat first | exact .nil | refine .cons (.refl _) ?_ | refine .cons (.forget _) ?_
theorem r16SameEntries_pc (a b:List En) (σ:Store):PC Tryz.prog 12 [.sl 8 (a.map En.cells),.sl 8 (b.map En.cells)] σ (fun r σ'=>r=.b (ensEq a b)∧σ'=σ):=by
 refine PC.intro Tryz.func12 c12 fun hcl hwf=>wpc_sound ?_
 have hlen:=wf_sl (hwf 0 _ rfl).1
 rw [List.length_map] at hlen
 simp only [p12,SS,seval]
 simp only [List.length_map,VV,seval]
 refine ⟨fun h=>?_,fun h=>?_⟩
 ·have h:a.length≠b.length:=by simp at h;omega
  have e:ensEq a b=false:=by
   cases he:ensEq a b with
   | false=>rfl
   | true=>exact absurd (ensEq_len he) h
  exact ret_end0 (.inr rfl) rfl ⟨by rw [e];rfl,rfl⟩
 ·have h:a.length=b.length:=by simp at h;omega
  refine PWc.rnd_cvs ?_ (a.length+1) (loop12 a b hlen h a b [] [] rfl rfl rfl (fun ha=>?_) (fun ha=>?_))
  ·repeat first | exact .nil | refine .cons (.refl _) ?_ | refine .cons (.forget _) ?_
  ·intros
   simp only [VV,seval]
   exact ret_end0 (.inr rfl) rfl ⟨by rw [ha];rfl,rfl⟩
  ·intros
   exact ret_end0 (.inr rfl) rfl ⟨by rw [ha];rfl,rfl⟩
theorem Cv.aggs {xs ys:List V} (h:Cvs xs ys):Cv (.agg xs) (.agg ys):=.agg _ _ h.at.1 (fun i x y hx hy=>h.at.2 i x y hx hy)
theorem r36SameOp_pc (a b:Opr) (σ:Store):PC Tryz.prog 29 [.agg a.cells,.agg b.cells] σ (fun r σ'=>r=.b (opEq a b)∧σ'=σ):=by
 refine PC.intro Tryz.func29 c29 fun hcl hwf=>wpc_sound ?_
 simp only [p29,SS,seval]
 simp only [Opr.cells,Stamp.cells,En.cells,cellsEq,scalEq,VV,seval]
 refine callg_eq (by simp only [VV,seval]<;>rfl) (fun _=>r16SameEntry_pc a.entry b.entry _) rfl ?_
 simp only [VV,seval]
 refine callg_eq (by simp only [VV,seval]<;>rfl) (fun _=>r3SameInts_pc a.seen b.seen _) rfl ?_
 simp only [VV,seval]
 refine ret_end hcl (.inr rfl) (by simp only [RS,seval];rfl) (by simp only [LW]) ⟨?_,rfl⟩
 simp only [Pm.one,opEq,stEq,Bool.and_true]
theorem loop11 {n:Nat} {σ:Store} {K:Exit→St→Prop} (a b:List Opr) (hlen:a.length<2^63) (hab:a.length=b.length):∀ (ra rb pa pb:List Opr),a=pa++ra→b=pb++rb→pa.length=pb.length →
  (opsEq ra rb=true→(∀ j0 j1 j2 j3 j4 j5 j6 j7 j8 j9 j10 j11 j12 j13 j14 j15 j16 j17 j18 j19 j20 j21 j22 j23 j24 j25 j26,K (.exit 0) ⟨[j0,j1,j2,j3,j4,j5,j6,j7,j8,j9,j10,j11,j12,j13,j14,j15,j16,j17,j18,j19,j20,j21,j22,j23,j24,j25,j26],σ⟩))→(opsEq ra rb=false→(∀ j0 j1 j2 j3 j5 j6 j7 j8 j9 j10 j11 j12 j13 j14 j15 j16 j17 j18 j19 j20 j21 j22 j23 j24 j25 j26,K .ret ⟨[j0,j1,j2,j3,.b false,j5,j6,j7,j8,j9,j10,j11,j12,j13,j14,j15,j16,j17,j18,j19,j20,j21,j22,j23,j24,j25,j26],σ⟩)) →
  Rnd n Tryz.prog p11_0 K (ra.length+1) ⟨[.sl 13 (a.map Opr.cells),.sl 13 (b.map Opr.cells),.u,.u,.u,.u,.u,.u,.u,.u,.u,.u,.i .i64 a.length,.i .i64 pa.length,.u,.u,.u,.u,.u,.u,.u,.u,.u,.u,.u,.u,.u],σ⟩:=by
 intro ra
 induction ra with
 | nil =>
  intro rb pa pb ha hb hp h1 h2
  have:rb=[]:=by
   subst ha;subst hb
   simp at hab
   exact List.eq_nil_of_length_eq_zero (by omega)
  subst this
  have ha:a=pa:=by simpa using ha
  subst ha
  refine rnd_step fun R hR=>?_
  simp only [p11_0,VV,seval]
  exact ⟨fun h=>by simp at h,fun _=>h1 rfl ..⟩
 | cons x ra ih =>
  intro rb pa pb ha hb hp h1 h2
  cases rb with
  | nil=>subst ha;subst hb;simp at hab;omega
  | cons y rb =>
   subst ha;subst hb
   have e2:(List.map Opr.cells (pb++y::rb)).getD pa.length []=y.cells:=by rw [hp];exact row_at
   have hw:IntKind.i64.wrap ((pa.length:Int)+1)=(((pa++[x]).length:Nat):Int):=by
    rw [wrap_succ (by simp at hlen;omega)];simp
   refine rnd_step fun R hR=>?_
   simp only [p11_0,Int.toNat_natCast,e2,Opr.cells,Stamp.cells,En.cells,VV,seval]
   have hla:(0:Int)≤pa.length∧(pa.length:Int)<(List.map Opr.cells (pa++x::ra)).length:=by simp;omega
   have hlb:(0:Int)≤pa.length∧(pa.length:Int)<(List.map Opr.cells (pb++y::rb)).length:=by simp at hab ⊢;omega
   refine ⟨fun _=>⟨hla,hlb,?_⟩,fun h=>by simp at h<;>omega⟩
   refine call_eq (r36SameOp_pc x y _) rfl ?_
   simp only [VV,seval]
   refine ⟨fun h=>?_,fun h=>?_⟩
   ·have h:opEq x y=false:=by rw [Bool.not_eq_true'] at h;exact h
    exact h2 (by simp [opsEq,h]) ..
   ·have h:opEq x y=true:=by rw [Bool.not_eq_false'] at h;exact h
    have e:opsEq (x::ra) (y::rb)=opsEq ra rb:=by simp [opsEq,h]
    rw [e] at h1 h2
    refine hR _ (rnd_cvs ?_ (ih rb (pa++[x]) (pb++[y]) (by simp) (by simp) (by simp [hp]) h1 h2))
    rw [hw];repeat first | exact .nil | refine .cons (.refl _) ?_ | refine .cons (.forget _) ?_
theorem r36SameOps_pc (a b:List Opr) (σ:Store):PC Tryz.prog 11 [.sl 13 (a.map Opr.cells),.sl 13 (b.map Opr.cells)] σ (fun r σ'=>r=.b (opsEq a b)∧σ'=σ):=by
 refine PC.intro Tryz.func11 c11 fun hcl hwf=>wpc_sound ?_
 have hlen:=wf_sl (hwf 0 _ rfl).1
 rw [List.length_map] at hlen
 simp only [p11,SS,seval]
 simp only [List.length_map,VV,seval]
 refine ⟨fun h=>?_,fun h=>?_⟩
 ·have h:a.length≠b.length:=by simp at h;omega
  have e:opsEq a b=false:=by
   cases he:opsEq a b with
   | false=>rfl
   | true=>exact absurd (opsEq_len he) h
  exact ret_end0 (.inr rfl) rfl ⟨by rw [e];rfl,rfl⟩
 ·have h:a.length=b.length:=by simp at h;omega
  refine PWc.rnd_cvs ?_ (a.length+1) (loop11 a b hlen h a b [] [] rfl rfl rfl (fun ha=>?_) (fun ha=>?_))
  ·repeat first | exact .nil | refine .cons (.refl _) ?_ | refine .cons (.forget _) ?_
  ·intros
   simp only [VV,seval]
   exact ret_end0 (.inr rfl) rfl ⟨by rw [ha];rfl,rfl⟩
  ·intros
   exact ret_end0 (.inr rfl) rfl ⟨by rw [ha];rfl,rfl⟩
theorem from_pc (l:List Int) (σ:Store):PC Tryz.prog 7 [.sl 1 (l.map iRow)] σ (fun r σ'=>r=.ptr σ.length 0∧σ'=σ++[.box 61 [.sl 1 (l.map iRow),.i .i64 ((0:Nat):Int)]]):=by
 refine PC.intro Tryz.func7 c7 fun hcl hwf=>wpc_sound ?_
 simp only [p7,SS,seval]
 simp only [VV,seval]
 exact ret_wk (.inr rfl) rfl (Wk.refl _ _) rfl ⟨rfl,rfl⟩
theorem nst_new {σ:Store} {l:List Int} {k:Nat}:σ++[.box 61 [.sl 1 (l.map iRow),.i .i64 (k:Int)]]=nst (σ++[.dead]) σ.length l k:=by
 simp [nst]
def longI (ls:List (List Int)):Int:=ls.foldl (fun a l=>IntKind.i64.wrap (a+l.length)) 0
def liRow (l:List Int):List V:=[.sl 1 (l.map iRow)]
theorem loop4 {n:Nat} {σ:Store} {K:Exit→St→Prop} (ls:List (List Int)) (hlen:ls.length<2^63):∀ (rest pre:List (List Int)) (a:Int),ls=pre++rest →
  (∀ j0 j1 j2 j4 j5 j6 j7 j8 j9 j10 j11 j12 j13 j14 j15 j16 j17 j18,K (.exit 0) ⟨[j0,j1,j2,.i .i64 (rest.foldl (fun a l=>IntKind.i64.wrap (a+l.length)) a),j4,j5,j6,j7,j8,j9,j10,j11,j12,j13,j14,j15,j16,j17,j18],σ⟩) →
  Rnd n Tryz.prog p4_0 K (rest.length+1) ⟨[.u,.u,.u,.i .i64 a,.u,.u,.sl 1 (ls.map liRow),.i .i64 ls.length,.i .i64 pre.length,.u,.u,.u,.u,.u,.u,.u,.u,.u,.u],σ⟩:=by
 intro rest
 induction rest with
 | nil =>
  intro pre a he h1
  have he:ls=pre:=by simpa using he
  subst he
  refine rnd_step fun R hR=>?_
  simp only [p4_0,VV,seval]
  exact ⟨fun h=>by simp at h,fun _=>h1 ..⟩
 | cons x rest ih =>
  intro pre a he h1
  subst he
  have hw:IntKind.i64.wrap ((pre.length:Int)+1)=(((pre++[x]).length:Nat):Int):=by
   rw [wrap_succ (by simp at hlen;omega)];simp
  have hat:at2 (List.map liRow (pre++x::rest)) pre.length 0=some (.sl 1 (x.map iRow)):=at2_at
  refine rnd_step fun R hR=>?_
  simp only [p4_0,Int.toNat_natCast,hat,hw,List.length_map,VV,seval]
  refine ⟨fun _=>⟨by simp;omega,?_⟩,fun h=>by simp at h<;>omega⟩
  refine hR _ (rnd_cvs ?_ (ih (pre++[x]) (IntKind.i64.wrap (a+x.length)) (by simp) h1))
  repeat first | exact .nil | refine .cons (.refl _) ?_ | refine .cons (.forget _) ?_
theorem long_pc (ls:List (List Int)) (σ:Store):PC Tryz.prog 4 [.sl 1 (ls.map liRow)] σ (fun r σ'=>r=.b (decide (160<longI ls))∧σ'=σ):=by
 refine PC.intro Tryz.func4 c4 fun hcl hwf=>wpc_sound ?_
 have hlen:=wf_sl (hwf 0 _ rfl).1
 rw [List.length_map] at hlen
 simp only [p4,SS,seval]
 simp only [List.length_map,VV,seval]
 refine PWc.rnd_cvs ?_ (ls.length+1) (loop4 ls hlen ls [] 0 rfl ?_)
 ·repeat first | exact .nil | refine .cons (.refl _) ?_ | refine .cons (.forget _) ?_
 ·intros
  simp only [VV,seval]
  exact ret_end0 (.inr rfl) rfl ⟨rfl,rfl⟩
theorem op_cells_lt (n:Nat) (o:Opr):AllLt n o.cells:=by
 simp only [Opr.cells,Stamp.cells,En.cells,List.cons_append,List.nil_append,LW]
end Go.Proofs.Tryz

/- A part of the proof of the statement of the last text of this claim: for every two lists of integers ReplicaCommutes returns true and leaves the memory as it was. -/
import Derived.Lib.Strings
import Derived.Laws.BytesArg
import Derived.Test.YtbfoheefppnnpaaGreatDoorV5
set_option linter.all false

namespace Go.Pm
open Go Go.RowKit
theorem run_isAgg {P:Program} {w:World} {T:TypeId} {q:Bool} (h:isAggT P T=some q):(isAgg T).run P w=.ok q w:=by
 unfold isAggT at h
 split at h<;>simp only [Option.some.injEq,reduceCtorEq] at h<;>subst h
 ·rename_i fs hu;simp [isAgg,run_underlying hu]
 ·rename_i n e hu;simp [isAgg,run_underlying hu]
 ·rename_i d h1 h2 hu
  simp only [isAgg,Sem.run_bind,run_underlying hu,Result.andThen_ok]
  cases d<;>first | rfl | (exact absurd rfl (h1 _)) | (exact absurd rfl (h2 _ _))
theorem run_loadAt_one {P:Program} {w:World} {T:TypeId} {b off:Nat} {v:Value} (hT:isAggT P T=some false) (hc:w.cell? ⟨b,off,none⟩=some v) :
  (Instr.loadAt T (.pointer (some ⟨b,off,none⟩))).run P w=.ok v w:=by
 simp [Instr.loadAt,Instr.sureAddr,loadVar,run_isAgg hT,hc]
theorem run_loadAt_agg {P:Program} {w:World} {T:TypeId} {t:TypeInfo} {b off:Nat} (f:Nat→Value) (hT:isAggT P T=some true) (ht:P.info? T=some t) (hc:∀ j,j<t.size→w.cell? ⟨b,off+j,none⟩=some (f j)) :
  (Instr.loadAt T (.pointer (some ⟨b,off,none⟩))).run P w=.ok (.agg ((List.range t.size).map f).toArray) w:=by
 have h1:=run_loadCells (P:=P) w ⟨b,off,none⟩ t.size f (fun j hj=>by rw [Addr.add_lit];exact hc j hj)
 simp [Instr.loadAt,Instr.sureAddr,loadVar,run_isAgg hT,sizeOf,typeInfo,ht,h1]
theorem cell_of_heap {w:World} {b:Nat} {vs:Array Value} {T:Nat} {fr:Nat×Nat} (h:w.heap[b]?=some (.cells vs T fr)) (j:Nat):w.cell? ⟨b,j,none⟩=vs[j]?:=by
 simp [World.cell?,h]
theorem Sim.rowAt {P:Program} {B:Nat} {w0 w:World} {σ:Store} {μ:Mem} (hS:Sim P B w0 w σ μ) {id E sz by' g:Nat} {sh:Bool} {xs:List (List V)} (ho:σ[id]?=some (.row E sz by' g sh xs)) :
  Ti P E sz by'∧(∀ r∈xs,r.length=sz)∧((μ id=.slice none 0 0∧xs=[]) ∨
   ∃ b cap cur,μ id=.slice (some ⟨b,0,none⟩) xs.length cap∧w.heap[b]?=some (.cells cur E (0,0))∧xs.length≤cap∧cap≤maxLen∧cur.size=cap*sz ∧
    ∀ i j x,at2 xs i j=some x→x.pure=true∧∃ v,w.cell? ⟨b,i*sz+j,none⟩=some v∧VR w σ μ x v):=by
 obtain ⟨hT,vals,⟨hl,hw⟩,hrow,hr⟩:=hS.obj id _ ho
 refine ⟨hT,hrow,?_⟩
 rcases hw with ⟨h1,h2⟩ | ⟨b,cap,cur,h1,h2,h3,h4,h5,h6,h7⟩
 ·exact .inl ⟨h1,List.eq_nil_of_length_eq_zero h2⟩
 ·refine .inr ⟨b,cap,cur,h1,h3,h4,h5,h6,fun i j x hx=>⟨(hr i j x hx).1,?_⟩⟩
  obtain ⟨v,h8,h9⟩:=(hr i j x hx).2
  refine ⟨v,?_,h9⟩
  rw [cell_of_heap h3]
  rw [← h7] at h8
  have h10:i*sz+j<xs.length*sz:=by
   rcases Nat.lt_or_ge (i*sz+j) (xs.length*sz) with h | h
   ·exact h
   ·rw [List.getElem?_eq_none (by simp;omega)] at h8;simp at h8
  rw [List.getElem?_take_of_lt h10] at h8
  simpa using h8
theorem Sim.boxAt {P:Program} {B:Nat} {w0 w:World} {σ:Store} {μ:Mem} (hS:Sim P B w0 w σ μ) {id T:Nat} {cs:List V} (ho:σ[id]?=some (.box T cs)) :
  ∃ b vs,μ id=.pointer (some ⟨b,0,none⟩)∧B≤b∧w.heap[b]?=some (.cells vs T (0,0))∧vs.size=cs.length∧∀ j x,cs[j]?=some x→∃ u,w.cell? ⟨b,j,none⟩=some u∧VR w σ μ x u:=by
 obtain ⟨b,vs,h1,h2,h3,h4,h5⟩:=hS.obj id _ ho
 refine ⟨b,vs,h1,h2,h3,h4,fun j x hx=>?_⟩
 obtain ⟨u,h6,h7⟩:=h5 j x hx
 exact ⟨u,by rw [cell_of_heap h3];exact h6,h7⟩
theorem load_raw {P:Program} {w:World} {σ:Store} {μ:Mem} {T:TypeId} {t:TypeInfo} {b off:Nat} {k:Option Nat} {row:List V} (ht:P.info? T=some t)
  (hk:(k=none∧isAggT P T=some false)∨(k=some t.size∧isAggT P T=some true)) (d:Nat)
  (hc:∀ j y,row[d+j]?=some y→∃ u,w.cell? ⟨b,off+j,none⟩=some u∧VR w σ μ y u) :
  (k=none→∀ y,row[d]?=some y→∃ v,(Instr.loadAt T (.pointer (some ⟨b,off,none⟩))).run P w=.ok v w∧VR w σ μ y v) ∧
  (∀ n,k=some n→d+n≤row.length→∃ v,(Instr.loadAt T (.pointer (some ⟨b,off,none⟩))).run P w=.ok v w∧VR w σ μ (.agg ((row.drop d).take n)) v):=by
 constructor
 ·rintro rfl y hy
  obtain ⟨u,h1,h2⟩:=hc 0 y hy
  have hT:=hk.resolve_right (by simp)
  exact ⟨u,run_loadAt_one hT.2 (by simpa using h1),h2⟩
 ·rintro n rfl hn
  have hT:=hk.resolve_left (by simp)
  simp only [Option.some.injEq] at hT
  obtain ⟨rfl,hT⟩:=hT
  have hf:∀ j,j<t.size→∃ u,w.cell? ⟨b,off+j,none⟩=some u∧∃ y,row[d+j]?=some y∧VR w σ μ y u:=by
   intro j hj
   have hlt:d+j<row.length:=by omega
   obtain ⟨u,h1,h2⟩:=hc j row[d+j] (List.getElem?_eq_getElem hlt)
   exact ⟨u,h1,row[d+j],List.getElem?_eq_getElem hlt,h2⟩
  let f:Nat→Value:=fun j=>(w.cell? ⟨b,off+j,none⟩).getD undef
  have hf1:∀ j,j<t.size→w.cell? ⟨b,off+j,none⟩=some (f j):=by
   intro j hj
   obtain ⟨u,h1,_⟩:=hf j hj
   simp [f,h1]
  refine ⟨.agg ((List.range t.size).map f).toArray,run_loadAt_agg f hT ht hf1,.agg _ _ (by simp;omega) ?_⟩
  intro i y hy
  have hi:i<t.size:=by
   rcases Nat.lt_or_ge i t.size with h | h
   ·exact h
   ·rw [List.getElem?_eq_none (by simp;omega)] at hy;simp at hy
  rw [List.getElem?_take_of_lt hi,List.getElem?_drop] at hy
  obtain ⟨u,h1,y',h2,h3⟩:=hf i hi
  rw [h2] at hy
  simp only [Option.some.injEq] at hy
  subst hy
  have:(((List.range t.size).map f).toArray.getD i undef)=u:=by
   have h4:f i=u:=by simp [f,h1]
   simp [hi,h4]
  rw [this];exact h3
theorem load_rows {P:Program} {o:Oper} {a:Act} {w:World} {σ:Store} {μ:Mem} {T:TypeId} {x:Operand} {t:TypeInfo} {b off:Nat} {k:Option Nat} {row:List V}
  (ho:o.op=.load T x) (hx:a.eval x=.pointer (some ⟨b,off,none⟩)) (ht:P.info? T=some t)
  (hk:(k=none∧isAggT P T=some false)∨(k=some t.size∧isAggT P T=some true)) (d:Nat)
  (hc:∀ j y,row[d+j]?=some y→∃ u,w.cell? ⟨b,off+j,none⟩=some u∧VR w σ μ y u) :
  (k=none→∀ y,row[d]?=some y→Yields P o a w σ μ y)∧(∀ n,k=some n→d+n≤row.length→Yields P o a w σ μ (.agg ((row.drop d).take n))):=by
 obtain ⟨h1,h2⟩:=load_raw (P:=P) (row:=row) ht hk d hc
 constructor
 ·intro hk y hy
  obtain ⟨v,h3,h4⟩:=h1 hk y hy
  exact .pure (v:=v) (by simp [execOp,ho,hx,h3]) h4
 ·intro n hk hn
  obtain ⟨v,h3,h4⟩:=h2 n hk hn
  exact .pure (v:=v) (by simp [execOp,ho,hx,h3]) h4
section silent
variable {P:Program} {o:Oper} {a:Act} {B:Nat} {w0 w:World} {σ:Store} {μ:Mem} {fr:List V} (hF:FR w σ μ fr a) (hS:Sim P B w0 w σ μ)
include hF hS
theorem y_load {T:TypeId} {x:Operand} {x':O} {t:TypeInfo} {k:Option Nat} (ho:o.op=.load T x) (hx:cO x=some x') (ht:P.info? T=some t)
  (hk:(k=none∧isAggT P T=some false)∨(k=some t.size∧isAggT P T=some true)) {ob:Prop} {y:V} (h:pexec fr σ (.load k x')=some (ob,y)) (hob:ob):Yields P o a w σ μ y:=by
 have h1:=cO_ok hF hx
 simp only [pexec] at h
 split at h
 ·rename_i id off hp
  rw [hp] at h1
  obtain ⟨b,hm,hv,_⟩:=h1.inv_ptr
  split at h
  ·rename_i T' cs hb
   obtain ⟨b',vs,hm',hB,hh,hsz,hcs⟩:=hS.boxAt hb
   rw [hm] at hm'
   simp only [Value.pointer.injEq,Option.some.injEq,Addr.mk.injEq,and_true] at hm'
   subst hm'
   have hl:=load_rows (P:=P) (σ:=σ) (μ:=μ) (row:=cs) (k:=k) ho hv ht hk off (fun j z hz=>hcs _ z hz)
   split at h
   ·split at h
    ·rename_i z hz
     simp only [Option.some.injEq,Prod.mk.injEq] at h
     obtain ⟨_,rfl⟩:=h
     exact hl.1 rfl _ hz
    ·simp at h
   ·simp only [Option.some.injEq,Prod.mk.injEq] at h
    obtain ⟨rfl,rfl⟩:=h
    exact hl.2 _ rfl hob
  ·simp at h
 ·rename_i sz xs i off hp
  rw [hp] at h1
  obtain ⟨b,o',f,hv,hi,hrow,hc,hvv⟩:=h1.inv_ep
  have hxi:xs[i]?=some xs[i]:=List.getElem?_eq_getElem hi
  have hl:=load_rows (P:=P) (σ:=σ) (μ:=μ) (row:=xs[i]) (k:=k) ho hv ht hk off (fun j z hz=>by
   have h2:at2 xs i (off+j)=some z:=by rw [at2_mk hxi];exact hz
   exact ⟨f (off+j),by rw [Nat.add_assoc];exact (hc _ z h2).1,hvv _ z h2⟩)
  split at h
  ·split at h
   ·rename_i z hz
    simp only [Option.some.injEq,Prod.mk.injEq] at h
    obtain ⟨_,rfl⟩:=h
    rw [at2_mk hxi] at hz
    exact hl.1 rfl _ hz
   ·simp at h
  ·simp only [Option.some.injEq,Prod.mk.injEq] at h
   obtain ⟨rfl,rfl⟩:=h
   have hg:xs.getD i []=xs[i]:=by simp [hi]
   rw [hg] at hob ⊢
   exact hl.2 _ rfl hob
 ·rename_i id g i off hp
  rw [hp] at h1
  split at h
  ·rename_i E sz by' g' sh xs hb
   split at h
   ·rename_i hg;subst hg
    obtain ⟨hi,hv⟩:=h1.inv_rp hb
    obtain ⟨_,hrow,hr⟩:=hS.rowAt hb
    have hxi:xs[i]?=some xs[i]:=List.getElem?_eq_getElem hi
    rcases hr with ⟨_,hn⟩ | ⟨b,cap,cur,hm,hh,_,_,_,hr⟩
    ·subst hn;simp at hi
    ·have hv':a.eval x=.pointer (some ⟨b,i*sz+off,none⟩):=by rw [hv,hm];rfl
     have hl:=load_rows (P:=P) (σ:=σ) (μ:=μ) (row:=xs[i]) (k:=k) ho hv' ht hk off (fun j z hz=>by
      have h2:at2 xs i (off+j)=some z:=by rw [at2_mk hxi];exact hz
      obtain ⟨_,u,h3,h4⟩:=hr _ _ z h2
      exact ⟨u,by rw [Nat.add_assoc];exact h3,h4⟩)
     split at h
     ·split at h
      ·rename_i z hz
       simp only [Option.some.injEq,Prod.mk.injEq] at h
       obtain ⟨_,rfl⟩:=h
       rw [at2_mk hxi] at hz
       exact hl.1 rfl _ hz
      ·simp at h
     ·simp only [Option.some.injEq,Prod.mk.injEq] at h
      obtain ⟨rfl,rfl⟩:=h
      have hg:xs.getD i []=xs[i]:=by simp [hi]
      rw [hg] at hob ⊢
      exact hl.2 _ rfl hob
   ·simp at h
  ·simp at h
 ·simp at h
theorem y_nilck {x:Operand} {x':O} (ho:o.op=.nilCheck x) (hx:cO x=some x') {ob:Prop} {y:V} (h:pexec fr σ (.nilck x')=some (ob,y)):Yields P o a w σ μ y:=by
 have h1:=cO_ok hF hx
 have hrun:∀ ad,a.eval x=.pointer (some ad)→(execOp a.eval o).run P w=.ok (.value (.pointer (some ad))) w:=by
  intro ad he;simp [execOp,ho,he]
 simp only [pexec] at h
 split at h<;>(try simp only [Option.some.injEq,Prod.mk.injEq,reduceCtorEq] at h)
 ·rename_i id off hp
  obtain ⟨_,rfl⟩:=h
  rw [hp] at h1
  have h2:=h1
  obtain ⟨b,hm,hv,hb⟩:=h1.inv_ptr
  rw [hv] at h2
  exact .pure (hrun _ hv) h2
 ·rename_i sz xs i off hp
  obtain ⟨_,rfl⟩:=h
  rw [hp] at h1
  have h2:=h1
  obtain ⟨b,o',f',hv,_⟩:=h1.inv_ep
  rw [hv] at h2
  exact .pure (hrun _ hv) h2
 ·rename_i id g i off hp
  split at h
  ·rename_i E sz by' g' sh xs ho'
   split at h<;>simp only [Option.some.injEq,Prod.mk.injEq,reduceCtorEq] at h
   rename_i hg;subst hg
   obtain ⟨_,rfl⟩:=h
   rw [hp] at h1
   have h2:=h1
   obtain ⟨hi,hv⟩:=h1.inv_rp ho'
   obtain ⟨_,_,hr⟩:=hS.rowAt ho'
   rcases hr with ⟨_,hn⟩ | ⟨b,cap,cur,hm,_⟩
   ·subst hn;simp at hi
   ·have hv':a.eval x=.pointer (some ⟨b,i*sz+off,none⟩):=by rw [hv,hm];rfl
    rw [hv'] at h2
    exact .pure (hrun _ hv') h2
  ·simp at h
theorem y_max2 {x y:Operand} {x' y':O} {T ts} (ho:o.op=.call { callee:=.builtin .max,args:=#[x,y],argTypes:=ts }) (hx:cO x=some x') (hy:cO y=some y') {ob:Prop} {z:V} (h:pexec fr σ (.max2 x' y')=some (ob,z)) (_:T=ts):Yields P o a w σ μ z:=by
 have h1:=cO_ok hF hx
 have h2:=cO_ok hF hy
 simp only [pexec] at h
 split at h
 ·rename_i k p k' q hp hq
  simp only [Option.some.injEq,Prod.mk.injEq] at h
  obtain ⟨_,rfl⟩:=h
  rw [hp] at h1;rw [hq] at h2
  refine .pure (v:=.int k (if p<q then q else p)) ?_ (.i _ _)
  simp [execOp,ho,resolve,invoke,builtin,h1.inv_i,h2.inv_i,run_max_int2]
 ·simp at h
theorem y_min2 {x y:Operand} {x' y':O} {ts} (ho:o.op=.call { callee:=.builtin .min,args:=#[x,y],argTypes:=ts }) (hx:cO x=some x') (hy:cO y=some y') {ob:Prop} {z:V} (h:pexec fr σ (.min2 x' y')=some (ob,z)):Yields P o a w σ μ z:=by
 have h1:=cO_ok hF hx
 have h2:=cO_ok hF hy
 simp only [pexec] at h
 split at h
 ·rename_i k p k' q hp hq
  simp only [Option.some.injEq,Prod.mk.injEq] at h
  obtain ⟨_,rfl⟩:=h
  rw [hp] at h1;rw [hq] at h2
  refine .pure (v:=.int k (if q<p then q else p)) ?_ (.i _ _)
  simp [execOp,ho,resolve,invoke,builtin,h1.inv_i,h2.inv_i,run_min_int2]
 ·simp at h
end silent
theorem elem_of {P:Program} {t e:TypeId} (h:P.underlying t=some (.slice e)):P.elem t=e:=by simp [Program.elem,h]
theorem RowsAt.row {w:World} {σ:Store} {μ:Mem} {xs:List (List V)} {sz b o:Nat} {f:Nat→Nat→Value} (h:RowsAt w σ μ xs sz b o f) {i:Nat} (hi:i<xs.length) (off:Nat) :
  VR w σ μ (.ep sz xs i off) (.pointer (some ⟨b,o+i*sz+off,none⟩)) :=
 .ep sz xs i off b (o+i*sz) (f i) hi h.1 (fun j x hx=>h.2.1 i j x hx) (fun j x hx=>h.2.2 i j x hx)
theorem at2_sub {xs:List (List V)} {lo n i j:Nat} {x:V} (h:at2 ((xs.drop lo).take n) i j=some x):at2 xs (lo+i) j=some x:=by
 obtain ⟨r,h1,h2⟩:=at2_some h
 have hi:i<n:=by
  rcases Nat.lt_or_ge i n with h | h
  ·exact h
  ·rw [List.getElem?_eq_none (by simp;omega)] at h1;simp at h1
 rw [List.getElem?_take_of_lt hi,List.getElem?_drop] at h1
 rw [at2_mk h1,h2]
theorem RowsAt.sub {w:World} {σ:Store} {μ:Mem} {xs:List (List V)} {sz b o:Nat} {f:Nat→Nat→Value} (h:RowsAt w σ μ xs sz b o f) (lo n:Nat) :
  RowsAt w σ μ ((xs.drop lo).take n) sz b (o+lo*sz) (fun i j=>f (lo+i) j):=by
 refine ⟨fun r hr=>h.1 r (List.mem_of_mem_drop (List.mem_of_mem_take hr)),fun i j x hx=>?_,fun i j x hx=>h.2.2 _ _ _ (at2_sub hx)⟩
 have:=h.2.1 _ _ _ (at2_sub hx)
 have e:o+lo*sz+i*sz+j=o+(lo+i)*sz+j:=by rw [Nat.add_mul];omega
 rw [e];exact this
theorem run_slice_gen {P:Program} {w:World} {t e:TypeId} {ti:TypeInfo} (ht:P.underlying t=some (.slice e)) (hi:P.info? e=some ti) (a:Option Addr) (len cap:Nat) (lo hi':Option Value) (l h:Int)
  (hlo:(lo=none∧l=0)∨∃ k,lo=some (.int k l)) (hhi:(hi'=none∧h=len)∨∃ k,hi'=some (.int k h)) (h0:0≤l) (h1:l≤h) (h2:h≤cap) :
  (Instr.sliceAt t (.slice a len cap) lo hi' none).run P w=.ok (subv (.slice a len cap) l.toNat h.toNat ti.size) w:=by
 have ht':P.underlying t=some (.slice (P.elem t)):=by rw [elem_of ht];exact ht
 have hs:(sizeOf (P.elem t)).run P w=.ok ti.size w:=by rw [elem_of ht];simp [sizeOf,typeInfo,hi]
 have h0h:0≤h:=by omega
 rw [run_sliceAt_slice (w:=w) t _ lo hi' none ht']
 have eh:(h.toNat:Int)=h:=Int.toNat_of_nonneg h0h
 rcases hlo with ⟨rfl,rfl⟩ | ⟨k,rfl⟩<;>rcases hhi with ⟨rfl,rfl⟩ | ⟨k',rfl⟩
 ·rw [run_slice_all (w:=w) t a len cap ht',hs];simp [sliced,subv]
 ·rw [run_slice_h (w:=w) t a len cap ht' k' h h0h h2,hs];simp [sliced,subv]
 ·rw [run_slice_l (w:=w) t a len cap ht' k l h0 h1,hs];simp [sliced,subv]
 ·rw [run_slice_lh (w:=w) t a len cap ht' k k' l h h0 h1 h2,hs];simp [sliced,subv]
theorem run_sslice_gen {P:Program} {w:World} {t:TypeId} (ht:P.underlying t=some .string) (s:ByteArray) (lo hi':Option Value) (l h:Int)
  (hlo:(lo=none∧l=0)∨∃ k,lo=some (.int k l)) (hhi:(hi'=none∧h=s.size)∨∃ k,hi'=some (.int k h)) (h0:0≤l) (h1:l≤h) (h2:h≤s.size) :
  (Instr.sliceAt t (.string s) lo hi' none).run P w=.ok (.string (s.extract l.toNat h.toNat)) w:=by
 have h0h:0≤h:=by omega
 rw [run_sliceAt_string (w:=w) t _ lo hi' none ht]
 rcases hlo with ⟨rfl,rfl⟩ | ⟨k,rfl⟩<;>rcases hhi with ⟨rfl,rfl⟩ | ⟨k',rfl⟩
 ·rw [run_slice_string_all (w:=w) t s ht];simp
 ·rw [run_slice_string_to_if (w:=w) t s k' h ht,if_pos ⟨h0h,h2⟩];simp
 ·rw [run_slice_string_from_if (w:=w) t s k l ht,if_pos ⟨h0,by omega⟩];simp
 ·rw [run_slice_string_if (w:=w) t s k k' l h ht,if_pos ⟨h0h,h2⟩,if_pos ⟨h0,h1⟩]
theorem extract_list (s:ByteArray) (i j:Nat):(s.extract i j).data.toList=(s.data.toList.drop i).take (j - i):=by
 rw [ByteArray.data_extract,Array.toList_extract,List.extract_eq_take_drop]
section silent
variable {P:Program} {o:Oper} {a:Act} {B:Nat} {w0 w:World} {σ:Store} {μ:Mem} {fr:List V} (hF:FR w σ μ fr a) (hS:Sim P B w0 w σ μ)
include hF hS
theorem y_idx {T E:TypeId} {t:TypeInfo} {x i:Operand} {x' i':O} (ho:o.op=.indexAddr T x i) (hT:P.underlying T=some (.slice E)) (ht:P.info? E=some t) (hx:cO x=some x') (hi:cO i=some i')
  {ob:Prop} {y:V} (h:pexec fr σ (.idx t.size x' i')=some (ob,y)) (hob:ob):Yields P o a w σ μ y:=by
 have h1:=cO_ok hF hx
 have h2:=cO_ok hF hi
 have hT':P.underlying T=some (.slice (P.elem T)):=by rw [elem_of hT];exact hT
 simp only [pexec] at h
 split at h
 ·rename_i k n hn
  rw [hn] at h2
  have h2:=h2.inv_i
  have hrun:∀ b off len cap,a.eval x=.slice (some ⟨b,off,none⟩) len cap→0≤n→n<len→(execOp a.eval o).run P w=.ok (.value (.pointer (some ⟨b,off+n.toNat*t.size,none⟩))) w:=by
   intro b off len cap he hn0 hnl
   simp [execOp,ho,he,h2,run_indexAt_slice (w:=w) T _ len cap k n hT',hn0,hnl,elem_of hT,sizeOf,typeInfo,ht,Addr.add_lit]
  split at h
  ·rename_i sz xs hp
   split at h<;>simp only [Option.some.injEq,Prod.mk.injEq,reduceCtorEq] at h
   rename_i hsz;subst hsz
   obtain ⟨rfl,rfl⟩:=h
   rw [hp] at h1
   rcases h1.inv_sl with ⟨rfl,_⟩ | ⟨b,off,cap,f,hv,_,_,hr⟩
   ·simp at hob;omega
   ·refine .pure (hrun b off _ cap hv hob.1 hob.2) ?_
    exact hr.row (by omega) 0
  ·rename_i sz xs hp
   split at h<;>simp only [Option.some.injEq,Prod.mk.injEq,reduceCtorEq] at h
   rename_i hsz;subst hsz
   obtain ⟨rfl,rfl⟩:=h
   rw [hp] at h1
   rcases h1.inv_lit with ⟨rfl,_⟩ | ⟨b,off,f,hv,_,hr⟩
   ·simp at hob;omega
   ·refine .pure (hrun b off _ _ hv hob.1 hob.2) ?_
    exact hr.row (by omega) 0
  ·rename_i id g hp
   split at h
   ·rename_i E' sz by' g' sh xs hb
    split at h<;>simp only [Option.some.injEq,Prod.mk.injEq,reduceCtorEq] at h
    rename_i hg;obtain ⟨rfl,rfl⟩:=hg
    obtain ⟨rfl,rfl⟩:=h
    rw [hp] at h1
    have hv:=h1.inv_own hb
    obtain ⟨_,_,hr⟩:=hS.rowAt hb
    rcases hr with ⟨_,hn⟩ | ⟨b,cap,cur,hm,_⟩
    ·subst hn;simp at hob;omega
    ·refine .pure (hrun b 0 _ cap (hv.trans hm) hob.1 hob.2) (.rp id g _ _ _ (List.getElem?_eq_some_iff.1 hb).1 ?_)
     intro E2 sz2 by2 g2 sh2 xs2 h3
     rw [hb] at h3
     simp only [Option.some.injEq,Ob.row.injEq] at h3
     obtain ⟨rfl,rfl,rfl,rfl,rfl,rfl⟩:=h3
     exact ⟨Nat.le_refl _,fun _=>⟨by omega,by rw [hm];simp [rpv]⟩⟩
   ·simp at h
  ·simp at h
 ·simp at h
theorem y_aidx {T E:TypeId} {n:Nat} {t:TypeInfo} {x i:Operand} {x' i':O} (ho:o.op=.indexAddr T x i) (hT:P.underlying T=some (.array n E)) (ht:P.info? E=some t) (hx:cO x=some x') (hi:cO i=some i')
  {ob:Prop} {y:V} (h:pexec fr σ (.aidx n t.size x' i')=some (ob,y)) (hob:ob):Yields P o a w σ μ y:=by
 have h1:=cO_ok hF hx
 have h2:=cO_ok hF hi
 have hl:P.arrayLen T=n:=by simp [Program.arrayLen,hT]
 have he:P.elem T=E:=by simp [Program.elem,hT]
 have hT':P.underlying T=some (.array (P.arrayLen T) (P.elem T)):=by rw [hl,he];exact hT
 simp only [pexec] at h
 split at h<;>simp only [Option.some.injEq,Prod.mk.injEq,reduceCtorEq] at h
 rename_i id off k m hp hq
 obtain ⟨rfl,rfl⟩:=h
 rw [hp] at h1;rw [hq] at h2
 obtain ⟨b,hm,hv,hb⟩:=h1.inv_ptr
 have h2:=h2.inv_i
 refine .pure (v:=.pointer (some ⟨b,off+m.toNat*t.size,none⟩)) ?_ (.ptr id _ b hb hm)
 have hr:=run_indexAt_array (P:=P) (w:=w) T ⟨b,off,none⟩ k m hT'
 rw [hl,he,if_pos hob] at hr
 have hs:(sizeOf E).run P w=.ok t.size w:=by simp [sizeOf,typeInfo,ht]
 rw [hs,Result.andThen_ok,Addr.add_lit] at hr
 simp only [execOp,ho,hv,h2,Sem.run_bind,hr,Result.andThen_ok,Sem.run_pure]
theorem y_asl {T E:TypeId} {n:Nat} {t:TypeInfo} {x:Operand} {x':O} (ho:o.op=.slice T x none none none) (hT:P.underlying T=some (.array n E)) (ht:P.info? E=some t) (h1s:t.size=1) (hx:cO x=some x')
  {ob:Prop} {y:V} (h:pexec fr σ (.asl n x')=some (ob,y)) (hob:ob):Yields P o a w σ μ y:=by
 have h1:=cO_ok hF hx
 have hl:P.arrayLen T=n:=by simp [Program.arrayLen,hT]
 have he:P.elem T=E:=by simp [Program.elem,hT]
 have hT':P.underlying T=some (.array (P.arrayLen T) (P.elem T)):=by rw [hl,he];exact hT
 simp only [pexec] at h
 split at h<;>(try simp only [reduceCtorEq] at h)
 rename_i sz xs i hp
 split at h<;>simp only [Option.some.injEq,Prod.mk.injEq,reduceCtorEq] at h
 rename_i hn
 obtain ⟨rfl,rfl⟩:=h
 rw [hp] at h1
 obtain ⟨b,o',f,hv,hi,hrow,hc,hvs⟩:=h1.inv_ep
 have hs:(sizeOf E).run P w=.ok t.size w:=by simp [sizeOf,typeInfo,ht]
 have hr:=run_sliceAt_array_all (P:=P) w T ⟨b,o',none⟩ hT'
 rw [hl,he,hs,Result.andThen_ok] at hr
 have ha:slicedAt ⟨b,o',none⟩ 0 n n t.size=.slice (some ⟨b,o',none⟩) n n:=by
  simp [slicedAt,Addr.add_lit]
 rw [ha] at hr
 refine .pure (v:=.slice (some ⟨b,o',none⟩) n n) ?_ ?_
 ·simp only [execOp,ho,hv,Nat.add_zero,Option.map_none,Sem.run_bind,hr,Result.andThen_ok,Sem.run_pure]
 ·have hat:∀ (k j:Nat) (x:V),at2 ((xs.getD i []).map fun c=>[c]) k j=some x→j=0∧at2 xs i k=some x:=by
   have hri:xs[i]?=some (xs.getD i []):=by simp [List.getD_eq_getElem?_getD,List.getElem?_eq_getElem hi]
   intro k j x hx
   simp only [at2,hri,Option.bind_some]
   generalize xs.getD i []=row at hx
   simp only [at2,List.getElem?_map] at hx
   cases hk:row[k]? with
   | none=>simp [hk] at hx
   | some c =>
    simp only [hk,Option.map_some,Option.bind_some] at hx
    cases j with
    | zero =>
     simp only [List.getElem?_cons_zero] at hx
     exact ⟨rfl,hx⟩
    | succ j=>simp at hx
  have h6:=VR.sl (w:=w) (σ:=σ) (μ:=μ) 1 ((xs.getD i []).map fun c=>[c]) b o' n (fun k _=>f k) (by simp only [List.length_map];omega) (by unfold maxLen;omega) (by simp)
   (fun k j x hx=>by
    obtain ⟨rfl,h7⟩:=hat k j x hx
    have:=hc k x h7
    simpa using this)
   (fun k j x hx=>hvs k x (hat k j x hx).2)
  simp only [List.length_map] at h6
  rw [hn] at h6
  exact h6
theorem y_sidx {T:TypeId} {x i:Operand} {x' i':O} (ho:o.op=.index T x i) (hT:P.underlying T=some .string) (hx:cO x=some x') (hi:cO i=some i')
  {ob:Prop} {y:V} (h:pexec fr σ (.sidx x' i')=some (ob,y)) (hob:ob):Yields P o a w σ μ y:=by
 have h1:=cO_ok hF hx
 have h2:=cO_ok hF hi
 simp only [pexec] at h
 split at h<;>simp only [Option.some.injEq,Prod.mk.injEq,reduceCtorEq] at h
 rename_i l k n hp hn
 obtain ⟨rfl,rfl⟩:=h
 rw [hp] at h1;rw [hn] at h2
 obtain ⟨s,hv,hl,_⟩:=h1.inv_s
 have hsz:s.size=l.length:=by rw [← hl];exact bsize s
 refine .pure (v:=.int .u8 (l.getD n.toNat 0).toNat) ?_ (.i _ _)
 have hc:0≤n∧n<s.size:=by rw [hsz];exact hob
 have hlt:n.toNat<l.length:=by omega
 have hb:s[n.toNat]'(by omega)=l.getD n.toNat 0:=by
  subst hl
  rw [List.getD_eq_getElem?_getD,List.getElem?_eq_getElem hlt]
  simp [ByteArray.getElem_eq_getElem_data]
 have h3:=run_index_string (P:=P) (w:=w) T s k n hT
 rw [dif_pos hc,hb] at h3
 simp only [execOp,ho,hv,h2.inv_i,Sem.run_bind,h3,Result.andThen_ok,Sem.run_pure]
theorem y_slen {T:TypeId} {x:Operand} {x':O} (ho:o.op=.call { callee:=.builtin .len,args:=#[x],argTypes:=#[T] }) (hT:P.underlying T=some .string) (hx:cO x=some x')
  {ob:Prop} {y:V} (h:pexec fr σ (.len true x')=some (ob,y)):Yields P o a w σ μ y:=by
 have h1:=cO_ok hF hx
 simp only [pexec] at h
 split at h<;>simp only [Option.some.injEq,Prod.mk.injEq,reduceCtorEq] at h
 rename_i l hp
 obtain ⟨_,rfl⟩:=h
 rw [hp] at h1
 obtain ⟨s,hv,hl,_⟩:=h1.inv_s
 have hsz:s.size=l.length:=by rw [← hl];exact bsize s
 refine .pure (v:=.int .i64 l.length) ?_ (.i _ _)
 simp [execOp,ho,resolve,invoke,builtin,hv,run_len_string (w:=w) T _ s hT,goInt,hsz]
theorem y_len {T E:TypeId} {x:Operand} {x':O} (ho:o.op=.call { callee:=.builtin .len,args:=#[x],argTypes:=#[T] }) (hT:P.underlying T=some (.slice E)) (hx:cO x=some x')
  {ob:Prop} {y:V} (h:pexec fr σ (.len false x')=some (ob,y)):Yields P o a w σ μ y:=by
 have h1:=cO_ok hF hx
 have hT':P.underlying T=some (.slice (P.elem T)):=by rw [elem_of hT];exact hT
 have hrun:∀ b n c,a.eval x=.slice b n c→Yields P o a w σ μ (.i .i64 n):=by
  intro b n c he
  refine .pure (v:=.int .i64 n) ?_ (.i _ _)
  simp [execOp,ho,resolve,invoke,builtin,he,run_len_slice (w:=w) T _ b n c hT',goInt]
 simp only [pexec] at h
 split at h<;>(try simp only [Option.some.injEq,Prod.mk.injEq,reduceCtorEq] at h)
 ·rename_i hp
  obtain ⟨_,rfl⟩:=h
  rw [hp] at h1
  exact hrun _ _ _ h1.inv_nil
 ·rename_i sz xs hp
  obtain ⟨_,rfl⟩:=h
  rw [hp] at h1
  rcases h1.inv_lit with ⟨rfl,hv⟩ | ⟨b,off,f,hv,_⟩
  ·exact hrun _ _ _ hv
  ·exact hrun _ _ _ hv
 ·rename_i sz xs hp
  obtain ⟨_,rfl⟩:=h
  rw [hp] at h1
  rcases h1.inv_sl with ⟨rfl,_,hv⟩ | ⟨b,off,cap,f,hv,_⟩
  ·exact hrun _ _ _ hv
  ·exact hrun _ _ _ hv
 ·rename_i id g hp
  split at h
  ·rename_i E' sz by' g' sh xs hb
   split at h<;>simp only [Option.some.injEq,Prod.mk.injEq,reduceCtorEq] at h
   rename_i hg;subst hg
   obtain ⟨_,rfl⟩:=h
   rw [hp] at h1
   have hv:=h1.inv_own hb
   obtain ⟨_,_,hr⟩:=hS.rowAt hb
   rcases hr with ⟨hm,hn⟩ | ⟨b,cap,cur,hm,_⟩
   ·subst hn;exact hrun _ _ _ (hv.trans hm)
   ·exact hrun _ _ _ (hv.trans hm)
  ·simp at h
 ·rename_i id g lo hi hp
  split at h
  ·rename_i E' sz by' g' sh xs hb
   split at h<;>simp only [Option.some.injEq,Prod.mk.injEq,reduceCtorEq] at h
   rename_i hg;subst hg
   obtain ⟨_,rfl⟩:=h
   rw [hp] at h1
   obtain ⟨_,_,hv⟩:=h1.inv_sub hb
   obtain ⟨_,_,hr⟩:=hS.rowAt hb
   rcases hr with ⟨hm,hn⟩ | ⟨b,cap,cur,hm,_⟩
   ·rw [hm] at hv;exact hrun _ _ _ hv
   ·rw [hm] at hv;exact hrun _ _ _ hv
  ·simp at h
theorem y_sslice {T:TypeId} {x:Operand} {lo hi:Option Operand} {x':O} {lo' hi':Option O} (ho:o.op=.slice T x lo hi none) (hT:P.underlying T=some .string) (hx:cO x=some x') (hl:cOpt lo=some lo') (hh:cOpt hi=some hi')
  {ob:Prop} {y:V} (h:pexec fr σ (.sslice x' lo' hi')=some (ob,y)) (hob:ob):Yields P o a w σ μ y:=by
 have h1:=cO_ok hF hx
 simp only [pexec] at h
 split at h
 ·rename_i l hp
  rw [hp] at h1
  obtain ⟨s,hv,hsl,hm⟩:=h1.inv_s
  have hsz:s.size=l.length:=by rw [← hsl];exact bsize s
  split at h<;>simp only [Option.some.injEq,Prod.mk.injEq,reduceCtorEq] at h
  rename_i p q hp1 hq1
  obtain ⟨rfl,rfl⟩:=h
  have hlo:(lo.map a.eval=none∧p=0)∨∃ k,lo.map a.eval=some (.int k p):=by
   cases lo with
   | none =>
    simp only [cOpt,Option.some.injEq] at hl;subst hl
    simp only [Option.some.injEq] at hp1
    exact .inl ⟨rfl,hp1.symm⟩
   | some z =>
    simp only [cOpt,Option.map_eq_some_iff] at hl
    obtain ⟨z',hz,rfl⟩:=hl
    have h4:=cO_ok hF hz
    dsimp only at hp1
    split at hp1<;>simp only [Option.some.injEq,reduceCtorEq] at hp1
    rename_i k p' hp'
    subst hp1
    rw [hp'] at h4
    exact .inr ⟨k,by simp [h4.inv_i]⟩
  have hhi:(hi.map a.eval=none∧q=s.size)∨∃ k,hi.map a.eval=some (.int k q):=by
   cases hi with
   | none =>
    simp only [cOpt,Option.some.injEq] at hh;subst hh
    simp only [Option.some.injEq] at hq1
    exact .inl ⟨rfl,by omega⟩
   | some z =>
    simp only [cOpt,Option.map_eq_some_iff] at hh
    obtain ⟨z',hz,rfl⟩:=hh
    have h4:=cO_ok hF hz
    dsimp only at hq1
    split at hq1<;>simp only [Option.some.injEq,reduceCtorEq] at hq1
    rename_i k p' hp'
    subst hq1
    rw [hp'] at h4
    exact .inr ⟨k,by simp [h4.inv_i]⟩
  have hr:=run_sslice_gen (P:=P) (w:=w) hT s (lo.map a.eval) (hi.map a.eval) p q hlo hhi hob.1 hob.2.1 (by have:=hob.2.2;omega)
  refine .pure (v:=.string (s.extract p.toNat q.toNat)) ?_ (.s _ _ ?_ ?_)
  ·simp [execOp,ho,hv,hr]
  ·rw [extract_list,hsl]
  ·have:=List.length_take_le (q.toNat - p.toNat) (l.drop p.toNat)
   have h5:(l.drop p.toNat).length≤l.length:=by simp
   simp only [List.length_take,List.length_drop];omega
 ·simp at h
theorem y_slice {T E:TypeId} {t:TypeInfo} {x:Operand} {lo hi:Option Operand} {x':O} {lo' hi':Option O} (ho:o.op=.slice T x lo hi none) (hT:P.underlying T=some (.slice E)) (ht:P.info? E=some t) (hx:cO x=some x') (hl:cOpt lo=some lo') (hh:cOpt hi=some hi')
  {ob:Prop} {y:V} (h:pexec fr σ (.slice t.size x' lo' hi')=some (ob,y)) (hob:ob):Yields P o a w σ μ y:=by
 have h1:=cO_ok hF hx
 simp only [pexec] at h
 split at h
 ·simp at h
 ·rename_i n hn
  split at h
  ·rename_i p q hp1 hq1
   have hlo:(lo.map a.eval=none∧p=0)∨∃ k,lo.map a.eval=some (.int k p):=by
    cases lo with
    | none =>
     simp only [cOpt,Option.some.injEq] at hl;subst hl
     simp only [Option.some.injEq] at hp1
     exact .inl ⟨rfl,hp1.symm⟩
    | some z =>
     simp only [cOpt,Option.map_eq_some_iff] at hl
     obtain ⟨z',hz,rfl⟩:=hl
     have h4:=cO_ok hF hz
     dsimp only at hp1
     split at hp1<;>simp only [Option.some.injEq,reduceCtorEq] at hp1
     rename_i k p' hp'
     subst hp1
     rw [hp'] at h4
     exact .inr ⟨k,by simp [h4.inv_i]⟩
   have hhi:(hi.map a.eval=none∧q=(n:Int))∨∃ k,hi.map a.eval=some (.int k q):=by
    cases hi with
    | none =>
     simp only [cOpt,Option.some.injEq] at hh;subst hh
     simp only [Option.some.injEq] at hq1
     exact .inl ⟨rfl,by omega⟩
    | some z =>
     simp only [cOpt,Option.map_eq_some_iff] at hh
     obtain ⟨z',hz,rfl⟩:=hh
     have h4:=cO_ok hF hz
     dsimp only at hq1
     split at hq1<;>simp only [Option.some.injEq,reduceCtorEq] at hq1
     rename_i k p' hp'
     subst hq1
     rw [hp'] at h4
     exact .inr ⟨k,by simp [h4.inv_i]⟩
   have hrun:∀ b c,a.eval x=.slice b n c→0≤p→p≤q→q≤c→(execOp a.eval o).run P w=.ok (.value (subv (.slice b n c) p.toNat q.toNat t.size)) w:=by
    intro b c he hp0 hpq hqc
    have hr:=run_slice_gen (P:=P) (w:=w) hT ht b n c (lo.map a.eval) (hi.map a.eval) p q hlo hhi hp0 hpq hqc
    simp [execOp,ho,he,hr]
   have hshare:∀ xs b off cap f,a.eval x=.slice (some ⟨b,off,none⟩) xs.length cap→xs.length≤cap→cap≤maxLen→RowsAt w σ μ xs t.size b off f→n=xs.length→0≤p∧p≤q∧q≤n →
     Yields P o a w σ μ (.sl t.size ((xs.drop p.toNat).take (q.toNat - p.toNat))):=by
    intro xs b off cap f he hc hcm hr hnx ⟨hp0,hpq,hqn⟩
    subst hnx
    refine .pure (hrun _ cap he hp0 hpq (by omega)) ?_
    have hlen:((xs.drop p.toNat).take (q.toNat - p.toNat)).length=q.toNat - p.toNat:=by simp;omega
    by_cases he2:cap=p.toNat
    ·have:q.toNat - p.toNat=0:=by omega
     simp only [subv,he2,if_true,this,List.take_zero,Nat.sub_self]
     exact .sl t.size [] b off 0 (fun _ _=>undef) (by simp) (by simp [maxLen]) (by simp) (by simp [at2]) (by simp [at2])
    ·simp only [subv,he2,if_false,Option.map_some,Addr.add_lit]
     have:=hr.sub p.toNat (q.toNat - p.toNat)
     have h5:=VR.sl (w:=w) (σ:=σ) (μ:=μ) t.size _ b _ (cap - p.toNat) _ (by rw [hlen];omega) (by omega) this.1 this.2.1 this.2.2
     rwa [hlen] at h5
   split at h
   ·rename_i hp
    simp only [Option.some.injEq,Prod.mk.injEq] at h
    obtain ⟨rfl,rfl⟩:=h
    rw [hp] at h1 hn
    simp only [Option.some.injEq] at hn
    obtain ⟨rfl,rfl⟩:=hob
    have hv:=h1.inv_nil
    subst hn
    refine .pure (v:=.slice none 0 0) ?_ .nil
    rw [hrun none 0 hv (by omega) (by omega) (by omega)]
    simp [subv]
   ·rename_i sz xs hp
    simp only [Option.some.injEq,Prod.mk.injEq] at h
    obtain ⟨rfl,rfl⟩:=h
    rw [hp] at h1 hn
    dsimp only at hn
    split at hn<;>simp only [Option.some.injEq,reduceCtorEq] at hn
    rename_i hsz;subst hsz
    rcases h1.inv_lit with ⟨rfl,hv⟩ | ⟨b,off,f,hv,hm,hr⟩
    ·simp only [List.length_nil] at hn
     subst hn
     have hp0:p=0:=by omega
     have hq0:q=0:=by omega
     subst hp0;subst hq0
     refine .pure (hrun none 0 hv (by omega) (by omega) (by omega)) ?_
     simp only [subv,Int.toNat_zero,if_true,List.drop_nil,List.take_nil,Nat.sub_self]
     exact .sl0 _
    ·exact hshare xs b off _ f hv (Nat.le_refl _) hm hr hn.symm hob
   ·rename_i sz xs hp
    simp only [Option.some.injEq,Prod.mk.injEq] at h
    obtain ⟨rfl,rfl⟩:=h
    rw [hp] at h1 hn
    dsimp only at hn
    split at hn<;>simp only [Option.some.injEq,reduceCtorEq] at hn
    rename_i hsz;subst hsz
    rcases h1.inv_sl with ⟨rfl,a0,hv⟩ | ⟨b,off,cap,f,hv,hc,hm,hr⟩
    ·simp only [List.length_nil] at hn
     subst hn
     have hp0:p=0:=by omega
     have hq0:q=0:=by omega
     subst hp0;subst hq0
     refine .pure (hrun a0 0 hv (by omega) (by omega) (by omega)) ?_
     simp only [subv,Int.toNat_zero,if_true,List.drop_nil,List.take_nil,Nat.sub_self]
     cases a0 with
     | none=>exact .sl0 _
     | some a0=>exact .sle _ a0
    ·exact hshare xs b off cap f hv hc hm hr hn.symm hob
   ·rename_i id g hp
    simp only [Option.some.injEq,Prod.mk.injEq] at h
    obtain ⟨rfl,rfl⟩:=h
    rw [hp] at h1 hn
    dsimp only at hn
    split at hn
    ·rename_i E' sz by' g' sh xs hb
     split at hn<;>simp only [Option.some.injEq,reduceCtorEq] at hn
     rename_i hg;obtain ⟨rfl,rfl⟩:=hg
     subst hn
     have hv:=h1.inv_own hb
     obtain ⟨_,_,hr⟩:=hS.rowAt hb
     have hsub:∀ v,μ id=v→VR w σ μ (.sub id g p.toNat q.toNat) (subv v p.toNat q.toNat t.size):=by
      intro v hm
      refine .sub id g _ _ _ (List.getElem?_eq_some_iff.1 hb).1 ?_
      intro E2 sz2 by2 g2 sh2 xs2 h3
      rw [hb] at h3
      simp only [Option.some.injEq,Ob.row.injEq] at h3
      obtain ⟨rfl,rfl,rfl,rfl,rfl,rfl⟩:=h3
      exact ⟨Nat.le_refl _,fun _=>⟨by omega,by omega,by rw [hm]⟩⟩
     rcases hr with ⟨hm,hn⟩ | ⟨b,cap,cur,hm,_,hcap,_⟩
     ·subst hn
      exact .pure (hrun none 0 (hv.trans hm) hob.1 hob.2.1 (by simpa using hob.2.2)) (hsub _ hm)
     ·exact .pure (hrun _ cap (hv.trans hm) hob.1 hob.2.1 (by have:=hob.2.2;omega)) (hsub _ hm)
    ·simp at hn
   ·simp at h
  ·simp at h
end silent
theorem toList_data (s:ByteArray):s.toList=s.data.toList:=ByteArray.toList_eq s
section silent
variable {P:Program} {o:Oper} {a:Act} {B:Nat} {w0 w:World} {σ:Store} {μ:Mem} {fr:List V} (hF:FR w σ μ fr a)
include hF
theorem y_bin {op:BinOp} {T yT:TypeId} {x y:Operand} {x' y':O} (ho:o.op=.binOp op T x y yT) (hx:cO x=some x') (hy:cO y=some y')
  {ob:Prop} {z:V} (h:pexec fr σ (.bin op x' y')=some (ob,z)) (hob:ob):Yields P o a w σ μ z:=by
 have h1:=cO_ok hF hx
 have h2:=cO_ok hF hy
 simp only [pexec,binV] at h
 split at h
 ·rename_i k p k' q hp hq
  rw [hp] at h1;rw [hq] at h2
  have e1:=h1.inv_i;have e2:=h2.inv_i
  have hrun:∀ v,(binOp op T (.int k p) (.int k' q)).run P w=.ok v w→(execOp a.eval o).run P w=.ok (.value v) w:=by
   intro v hv
   simp only [execOp,ho,e1,e2,eqGuard_at_int,pure_bind,Sem.run_bind,hv,Result.andThen_ok,Sem.run_pure]
  split at h
  ·simp only [Option.some.injEq,Prod.mk.injEq] at h
   obtain ⟨rfl,rfl⟩:=h
   have hn:¬ q<0:=by omega
   exact .pure (hrun _ (by simp [binOp_shl,Op.shift,hn])) (.i _ _)
  ·simp only [Option.some.injEq,Prod.mk.injEq] at h
   obtain ⟨rfl,rfl⟩:=h
   have hn:¬ q<0:=by omega
   exact .pure (hrun _ (by simp [binOp_shr,Op.shift,hn])) (.i _ _)
  ·split at h
   ·rename_i hk;subst hk
    split at h<;>simp only [Option.some.injEq,Prod.mk.injEq,reduceCtorEq] at h<;>obtain ⟨rfl,rfl⟩:=h
    ·exact .pure (hrun _ (by simp [binOp_add,Op.intArith])) (.i _ _)
    ·exact .pure (hrun _ (by simp [binOp_sub,Op.intArith])) (.i _ _)
    ·exact .pure (hrun _ (by simp [binOp_mul,Op.intArith])) (.i _ _)
    ·exact .pure (hrun _ (by simp [binOp_quo,Op.intDiv,hob])) (.i _ _)
    ·exact .pure (hrun _ (by simp [binOp_rem,Op.intDiv,hob])) (.i _ _)
    ·exact .pure (hrun _ (by simp only [binOp_and,Op.intBits];rfl)) (.i _ _)
    ·exact .pure (hrun _ (by simp only [binOp_or,Op.intBits];rfl)) (.i _ _)
    ·exact .pure (hrun _ (by simp only [binOp_xor,Op.intBits];rfl)) (.i _ _)
    ·exact .pure (hrun _ (by simp [binOp_eql])) (.b _)
    ·exact .pure (hrun _ (by simp [binOp_neq])) (.b _)
    ·exact .pure (hrun _ (by simp [binOp_lss])) (.b _)
    ·exact .pure (hrun _ (by simp [binOp_leq])) (.b _)
    ·exact .pure (hrun _ (by simp [binOp_gtr])) (.b _)
    ·exact .pure (hrun _ (by simp [binOp_geq])) (.b _)
   ·simp at h
 ·rename_i p q hp hq
  rw [hp] at h1;rw [hq] at h2
  obtain ⟨s,hs,rfl,hsl⟩:=h1.inv_s
  obtain ⟨s',hs',rfl,hsl'⟩:=h2.inv_s
  have hrun:∀ v,(Op.stringOp op s s').run P w=.ok v w→(execOp a.eval o).run P w=.ok (.value v) w:=by
   intro v hv
   have hb:binOp op T (.string s) (.string s')=Op.stringOp op s s':=by cases op<;>rfl
   simp only [execOp,ho,hs,hs',eqGuard_at_string,pure_bind,hb,Sem.run_bind,hv,Result.andThen_ok,Sem.run_pure]
  split at h<;>simp only [Option.some.injEq,Prod.mk.injEq,reduceCtorEq] at h<;>obtain ⟨rfl,rfl⟩:=h
  ·refine .pure (v:=.string (s++s')) (hrun _ ?_) (.s _ _ ?_ ?_)
   ·have hn:¬ (s.size+s'.size > 9223372036854775807):=by rw [bsize,bsize];unfold maxLen at hob;omega
    rw [run_string_add_if,if_neg hn]
   ·simp [ByteArray.data_append]
   ·rw [List.length_append];exact hob
  ·exact .pure (hrun _ (by simp [Op.stringOp,toList_data])) (.b _)
  ·exact .pure (hrun _ (by simp [Op.stringOp,toList_data])) (.b _)
  ·exact .pure (hrun _ (by simp [Op.stringOp,toList_data])) (.b _)
  ·exact .pure (hrun _ (by simp [Op.stringOp,toList_data])) (.b _)
  ·exact .pure (hrun _ (by simp [Op.stringOp,toList_data])) (.b _)
  ·exact .pure (hrun _ (by simp [Op.stringOp,toList_data])) (.b _)
 ·simp at h
theorem y_bbq {op:BinOp} {T yT:TypeId} {x y:Operand} {x' y':O} (ho:o.op=.binOp op T x y yT) (hop:isEqOp op=true) (hT:P.underlying T=some .bool) (hx:cO x=some x') (hy:cO y=some y')
  {ob:Prop} {z:V} (h:pexec fr σ (.bbq (isNeq op) x' y')=some (ob,z)):Yields P o a w σ μ z:=by
 have h1:=cO_ok hF hx
 have h2:=cO_ok hF hy
 simp only [pexec] at h
 split at h
 ·rename_i p q hp hq
  rw [hp] at h1;rw [hq] at h2
  have e1:=h1.inv_b;have e2:=h2.inv_b
  simp only [Option.some.injEq,Prod.mk.injEq] at h
  obtain ⟨rfl,rfl⟩:=h
  have he:=run_equal_bool (P:=P) (w:=w) T p q hT
  cases op<;>simp only [isEqOp,Bool.false_eq_true] at hop
  ·refine .pure (v:=.bool (p==q)) ?_ (.b _)
   simp only [execOp,ho,e1,e2,eqGuard_at_bool,pure_bind,Sem.run_bind,binOp,he,Result.andThen_ok,Sem.run_pure]
  ·refine .pure (v:=.bool (!(p==q))) ?_ (.b _)
   simp only [execOp,ho,e1,e2,eqGuard_at_bool,pure_bind,Sem.run_bind,binOp,he,Result.andThen_ok,Sem.run_pure]
 ·simp at h
omit hF in
theorem run_eqFields:∀ (fs:List Field) (ks:List Nat) (n:Nat) (xs ys:List V) (us vs:Array Value) (r:Bool) (d:Nat),flatFrom P n fs=some ks →
  (∀ j x,xs[j]?=some x→VR w σ μ x (us.getD (n+j) undef))→(∀ j x,ys[j]?=some x→VR w σ μ x (vs.getD (n+j) undef))→us.size=n+xs.length→vs.size=n+ys.length→cellsEq ks xs ys=some r →
  (Op.eqFields (d+1) us vs fs).run P w=.ok r w
 | [],ks,n,xs,ys,us,vs,r,d,hf,_,_,_,_,hc=>by
  simp only [flatFrom,Option.some.injEq] at hf
  subst hf
  cases xs with
  | nil=>cases ys with
   | nil=>simp only [cellsEq,Option.some.injEq] at hc;subst hc;rfl
   | cons y ys=>simp [cellsEq] at hc
  | cons x xs=>simp [cellsEq] at hc
 | f::fs,ks,n,xs,ys,us,vs,r,d,hf,hxs,hys,hus,hvs,hc=>by
  simp only [flatFrom] at hf
  split at hf
  ·rename_i hoff
   obtain ⟨hoff,hnm⟩:=hoff
   have hk:∃ k ks',ks=k::ks'∧flatFrom P (n+1) fs=some ks'∧isAggT P f.type=some false ∧
     ∀ x y u v p,scalEq k x y=some p→VR w σ μ x u→VR w σ μ y v→(Op.equalIn (d+1) f.type u v).run P w=.ok p w:=by
    split at hf<;>simp only [Option.some.injEq,reduceCtorEq] at hf
    ·rename_i k ks' hu hr
     refine ⟨0,ks',hf.symm,hr,by simp [isAggT,hu],fun x y u v p hp hx hy=>?_⟩
     cases x<;>(try (simp [scalEq] at hp;done))
     cases y<;>(try (simp [scalEq] at hp;done))
     simp only [scalEq] at hp
     split at hp<;>simp only [Option.some.injEq,reduceCtorEq] at hp
     rename_i hkk;subst hkk;subst hp
     rw [hx.inv_i,hy.inv_i]
     exact run_equalIn_int w d f.type _ k _ _ hu
    ·rename_i ks' hu hr
     refine ⟨1,ks',hf.symm,hr,by simp [isAggT,hu],fun x y u v p hp hx hy=>?_⟩
     cases x<;>(try (simp [scalEq] at hp;done))
     cases y<;>(try (simp [scalEq] at hp;done))
     simp only [scalEq,Option.some.injEq] at hp
     subst hp
     obtain ⟨s,rfl,rfl,_⟩:=hx.inv_s
     obtain ⟨s',rfl,rfl,_⟩:=hy.inv_s
     rw [run_equalIn_string w d f.type s s' hu,toList_data,toList_data]
    ·rename_i ks' hu hr
     refine ⟨2,ks',hf.symm,hr,by simp [isAggT,hu],fun x y u v p hp hx hy=>?_⟩
     cases x<;>(try (simp [scalEq] at hp;done))
     cases y<;>(try (simp [scalEq] at hp;done))
     simp only [scalEq,Option.some.injEq] at hp
     subst hp
     rw [hx.inv_b,hy.inv_b]
     exact run_equalIn_bool' w d f.type _ _ hu
   obtain ⟨k,ks',rfl,hrest,hA,heqf⟩:=hk
   cases xs with
   | nil=>simp [cellsEq] at hc
   | cons x xs =>
    cases ys with
    | nil=>simp [cellsEq] at hc
    | cons y ys =>
     simp only [cellsEq] at hc
     split at hc<;>simp only [Option.some.injEq,reduceCtorEq] at hc
     rename_i p q hp hq
     have hx0:=hxs 0 x rfl
     have hy0:=hys 0 y rfl
     simp only [Nat.add_zero] at hx0 hy0
     have hlx:n<us.size:=by simp at hus;omega
     have hly:n<vs.size:=by simp at hvs;omega
     have hpx:(part f.type us f.offset).run P w=.ok (us.getD n undef) w:=by
      simp only [part,Sem.run_bind,run_isAgg hA,Result.andThen_ok,Bool.false_eq_true,if_false,hoff]
      rw [show us[n]?=some (us.getD n undef) by simp [hlx]]
      rfl
     have hpy:(part f.type vs f.offset).run P w=.ok (vs.getD n undef) w:=by
      simp only [part,Sem.run_bind,run_isAgg hA,Result.andThen_ok,Bool.false_eq_true,if_false,hoff]
      rw [show vs[n]?=some (vs.getD n undef) by simp [hly]]
      rfl
     have heq:=heqf x y _ _ p hp hx0 hy0
     have ih:=run_eqFields fs ks' (n+1) xs ys us vs q d hrest
      (fun j z hz=>by have:=hxs (j+1) z hz;rwa [show n+(j+1)=n+1+j by omega] at this)
      (fun j z hz=>by have:=hys (j+1) z hz;rwa [show n+(j+1)=n+1+j by omega] at this)
      (by simp at hus;omega) (by simp at hvs;omega) hq
     subst hc
     simp only [Op.eqFields,ne_eq,hnm,not_false_eq_true,if_true,Sem.run_bind,hpx,hpy,Result.andThen_ok,heq]
     cases p
     ·simp
     ·simp [ih]
  ·simp at hf
theorem y_beq {op:BinOp} {T yT:TypeId} {ks:List Nat} {x y:Operand} {x' y':O} (ho:o.op=.binOp op T x y yT) (hop:isEqOp op=true) (hT:flatEq P T=some ks) (hx:cO x=some x') (hy:cO y=some y')
  {ob:Prop} {z:V} (h:pexec fr σ (.beq (isNeq op) ks x' y')=some (ob,z)):Yields P o a w σ μ z:=by
 have h1:=cO_ok hF hx
 have h2:=cO_ok hF hy
 unfold flatEq at hT
 split at hT
 ·rename_i fs hu
  split at hT
  ·rename_i hc
   simp only [pexec] at h
   split at h
   ·rename_i xs ys hp hq
    rw [hp] at h1;rw [hq] at h2
    obtain ⟨us,e1,l1,v1⟩:=h1.inv_agg
    obtain ⟨vs,e2,l2,v2⟩:=h2.inv_agg
    split at h
    ·rename_i r hr
     simp only [Option.some.injEq,Prod.mk.injEq] at h
     obtain ⟨rfl,rfl⟩:=h
     have hf:P.fieldsOf T=fs:=by simp [Program.fieldsOf,hu]
     have hrun:(Op.equalIn 10000 T (.agg us) (.agg vs)).run P w=.ok r w:=by
      rw [run_equalIn_struct w 9999 T us vs (by rw [hf];exact hu) hc.1,hf]
      exact run_eqFields fs.toList ks 0 xs ys us vs r 9998 hT (fun j z hz=>by simpa using v1 j z hz) (fun j z hz=>by simpa using v2 j z hz) (by omega) (by omega) hr
     have hg:=run_eqGuard_agg (P:=P) w op T x y us vs hc.2
     cases op<;>simp only [isEqOp,Bool.false_eq_true] at hop
     ·refine .pure (v:=.bool r) ?_ (.b _)
      simp only [execOp,ho,e1,e2,Sem.run_bind,hg,Result.andThen_ok,run_eql_struct,hrun,Sem.run_pure]
     ·refine .pure (v:=.bool (!r)) ?_ (.b _)
      simp only [execOp,ho,e1,e2,Sem.run_bind,hg,Result.andThen_ok,run_neq_struct,hrun,Sem.run_pure]
    ·simp at h
   ·simp at h
  ·simp at hT
 ·simp at hT
end silent
def CR (w:World) (σ:Store) (μ:Mem) (xs:List V) (vs:Array Value):Prop:=xs.length=vs.size∧∀ i x,xs[i]?=some x→VR w σ μ x (vs.getD i undef)
theorem VR.purifyAt {w:World} {σ:Store} {μ:Mem} {x:V} {v:Value} (h:VR w σ μ x v) (s:Option Nat):VR w σ μ (purifyAt s x) v:=by
 unfold Pm.purifyAt
 split
 ·rw [h.inv_nil];exact .sl0 _
 ·rcases h.inv_lit with ⟨rfl,rfl⟩ | ⟨b,o,f,rfl,hm,hr⟩
  ·exact .sl0 _
  ·exact .sl _ _ b o _ f (Nat.le_refl _) hm hr.1 hr.2.1 hr.2.2
 ·exact h
theorem CR.purifyL {w:World} {σ:Store} {μ:Mem}:∀ (ss:List (Option Nat)) {xs:List V} {vs:Array Value},CR w σ μ xs vs→CR w σ μ (purifyL ss xs) vs:=by
 have key:∀ (ss:List (Option Nat)) (xs:List V) (n:Nat) (vs:Array Value),(∀ i x,xs[i]?=some x→VR w σ μ x (vs.getD (n+i) undef)) →
   (Pm.purifyL ss xs).length=xs.length∧∀ i x,(Pm.purifyL ss xs)[i]?=some x→VR w σ μ x (vs.getD (n+i) undef):=by
  intro ss
  induction ss with
  | nil=>intro xs n vs h;simpa [Pm.purifyL] using h
  | cons s ss ih =>
   intro xs n vs h
   cases xs with
   | nil=>simp [Pm.purifyL]
   | cons x xs =>
    have h2:=ih xs (n+1) vs (fun i y hy=>by have:=h (i+1) y hy;rwa [show n+(i+1)=n+1+i by omega] at this)
    refine ⟨by simp [Pm.purifyL,h2.1],fun i y hy=>?_⟩
    cases i with
    | zero =>
     simp only [Pm.purifyL,List.getElem?_cons_zero,Option.some.injEq] at hy
     subst hy
     exact (h 0 x rfl).purifyAt s
    | succ i =>
     simp only [Pm.purifyL,List.getElem?_cons_succ] at hy
     have:=h2.2 i y hy
     rwa [show n+1+i=n+(i+1) by omega] at this
 intro ss xs vs h
 have:=key ss xs 0 vs (fun i x hx=>by simpa using h.2 i x hx)
 exact ⟨this.1.trans h.1,fun i x hx=>by simpa using this.2 i x hx⟩
theorem cellOK_one {P:Program} {B:Nat} {w0 w:World} {σ:Store} {μ:Mem} (hS:Sim P B w0 w σ μ) {x:V} {v:Value} (h:VR w σ μ x v) (hc:cellOK σ x=true):v.oneCell'=true∧v.cells=#[v]:=by
 have slice_one:∀ a n c,(Value.slice a n c).oneCell'=true∧(Value.slice a n c).cells=#[.slice a n c]:=fun _ _ _=>⟨rfl,rfl⟩
 cases h with
 | u v=>simp [cellOK] at hc
 | own id g v hid h =>
  simp only [cellOK] at hc
  split at hc
  ·rename_i E sz by' g' sh xs ho
   simp only [beq_iff_eq] at hc;subst hc
   rw [(h _ _ _ _ _ _ ho).2 rfl]
   rcases (hS.rowAt ho).2.2 with ⟨hm,_⟩ | ⟨b,cap,cur,hm,_⟩<;>rw [hm]<;>exact slice_one _ _ _
  ·simp at hc
 | sub id g lo hi v hid h =>
  simp only [cellOK] at hc
  split at hc
  ·rename_i E sz by' g' sh xs ho
   simp only [beq_iff_eq] at hc;subst hc
   rw [((h _ _ _ _ _ _ ho).2 rfl).2.2]
   rcases (hS.rowAt ho).2.2 with ⟨hm,_⟩ | ⟨b,cap,cur,hm,_⟩<;>rw [hm]<;>exact slice_one _ _ _
  ·simp at hc
 | rp id g i off v hid h =>
  simp only [cellOK] at hc
  split at hc
  ·rename_i E sz by' g' sh xs ho
   simp only [beq_iff_eq] at hc;subst hc
   obtain ⟨hi,hv⟩:=(h _ _ _ _ _ _ ho).2 rfl
   rw [hv]
   rcases (hS.rowAt ho).2.2 with ⟨_,hn⟩ | ⟨b,cap,cur,hm,_⟩
   ·subst hn;simp at hi
   ·rw [hm];exact ⟨rfl,rfl⟩
  ·simp at hc
 | agg xs vs hl hv=>simp [cellOK] at hc
 | tup xs vs hl hv=>simp [cellOK] at hc
 | _=>exact ⟨rfl,rfl⟩
theorem okCells_cells {P:Program} {B:Nat} {w0 w:World} {σ:Store} {μ:Mem} (hS:Sim P B w0 w σ μ) {x:V} {v:Value} (h:VR w σ μ x v) (hc:okCells σ x=true) :
  CR w σ μ (cellsV x) v.cells∧∀ u∈v.cells,u.oneCell'=true:=by
 by_cases ha:∃ xs,x=.agg xs
 ·obtain ⟨xs,rfl⟩:=ha
  obtain ⟨vs,rfl,hl,hv⟩:=h.inv_agg
  refine ⟨⟨hl,hv⟩,fun u hu=>?_⟩
  obtain ⟨i,hi,rfl⟩:=Array.mem_iff_getElem.1 hu
  simp only [okCells,List.all_eq_true] at hc
  have hi':i<xs.length:=by rw [hl];exact hi
  have h1:=hv i xs[i] (List.getElem?_eq_getElem hi')
  have h2:=(cellOK_one hS h1 (hc _ (List.getElem_mem hi'))).1
  have hi2:i<vs.size:=hi
  have h3:vs.getD i undef=vs[i]:=by simp [hi2]
  rw [h3] at h2
  exact h2
 ·have hx:okCells σ x=cellOK σ x∧cellsV x=[x]:=by
   cases x<;>first | exact ⟨rfl,rfl⟩ | exact absurd ⟨_,rfl⟩ ha
  rw [hx.1] at hc
  obtain ⟨h1,h2⟩:=cellOK_one hS h hc
  rw [hx.2,h2]
  refine ⟨⟨rfl,fun i y hy=>?_⟩,fun u hu=>by simp only [Array.mem_singleton] at hu;subst hu;exact h1⟩
  cases i with
  | zero=>simp only [List.getElem?_cons_zero,Option.some.injEq] at hy;subst hy;simpa using h
  | succ i=>simp at hy
theorem foldl_set_aux:∀ (l:List Value) (k off:Nat) (cells:Array Value),off+k+l.length≤cells.size →
  ((l.zipIdx k).foldl (fun (cs:Array Value) (p:Value×Nat)=>cs.setIfInBounds (off+p.2) p.1) cells).size=cells.size ∧
  ∀ i,((l.zipIdx k).foldl (fun (cs:Array Value) (p:Value×Nat)=>cs.setIfInBounds (off+p.2) p.1) cells).getD i undef =
   if off+k≤i∧i<off+k+l.length then l.getD (i - (off+k)) undef else cells.getD i undef
 | [],k,off,cells,_=>by simp;intro i h1 h2;omega
 | v::l,k,off,cells,h=>by
  simp only [List.length_cons] at h
  have ih:=foldl_set_aux l (k+1) off (cells.setIfInBounds (off+k) v) (by simp;omega)
  simp only [List.zipIdx_cons,List.foldl_cons]
  refine ⟨by rw [ih.1];simp,fun i=>?_⟩
  rw [ih.2 i]
  by_cases h1:off+(k+1)≤i∧i<off+(k+1)+l.length
  ·rw [if_pos h1,if_pos (by simp only [List.length_cons];omega)]
   have:i - (off+k)=(i - (off+(k+1)))+1:=by omega
   rw [this];simp
  ·rw [if_neg h1]
   by_cases h2:i=off+k
   ·subst h2
    rw [if_pos (by simp only [List.length_cons];omega)]
    simp [show off+k<cells.size by omega]
   ·rw [if_neg (by simp only [List.length_cons];omega)]
    simp only [Array.getD_eq_getD_getElem?]
    rw [Array.getElem?_setIfInBounds_ne (fun h=>h2 h.symm)]
theorem CR.fill {w:World} {σ:Store} {μ:Mem} {xs ys:List V} {cells vs:Array Value} (h:CR w σ μ xs cells) (hy:CR w σ μ ys vs) (off:Nat) (ho:off+ys.length≤xs.length) :
  CR w σ μ (xs.take off++ys++xs.drop (off+ys.length)) (vs.zipIdx.foldl (fun cs (c,j)=>cs.setIfInBounds (off+j) c) cells):=by
 have haux:=foldl_set_aux vs.toList 0 off cells (by rw [Array.length_toList,← hy.1,← h.1];simpa using ho)
 have he:vs.zipIdx.foldl (fun cs (c,j)=>cs.setIfInBounds (off+j) c) cells=(vs.toList.zipIdx 0).foldl (fun (cs:Array Value) (p:Value×Nat)=>cs.setIfInBounds (off+p.2) p.1) cells:=by
  rw [← Array.foldl_toList,Array.toList_zipIdx]
 rw [he]
 refine ⟨?_,fun i x hx=>?_⟩
 ·rw [haux.1,← h.1];simp;omega
 ·rw [haux.2 i]
  simp only [Nat.add_zero,Array.length_toList]
  rw [← hy.1]
  by_cases h1:i<off
  ·rw [if_neg (by omega)]
   rw [List.append_assoc,List.getElem?_append_left (by simp;omega),List.getElem?_take_of_lt h1] at hx
   exact h.2 i x hx
  ·by_cases h2:i<off+ys.length
   ·rw [if_pos (by omega)]
    rw [List.getElem?_append_left (by simp;omega),List.getElem?_append_right (by simp;omega)] at hx
    have hl:(xs.take off).length=off:=by simp;omega
    rw [hl] at hx
    have:=hy.2 _ x hx
    simpa using this
   ·rw [if_neg (by omega)]
    have hl:(xs.take off++ys).length=off+ys.length:=by simp;omega
    rw [List.getElem?_append_right (by omega),hl,List.getElem?_drop] at hx
    have h3:off+ys.length+(i - (off+ys.length))=i:=by omega
    rw [h3] at hx
    exact h.2 i x hx
theorem fill_ok {w:World} {σ:Store} {μ:Mem} (place:Nat→Option (Nat×Nat)):∀ (parts:List (Nat×Value)) (ps:List (Nat×Nat×List V)) (xs cs:List V) (cells:Array Value),
  CR w σ μ xs cells→fillV xs ps=some cs→ps.length=parts.length→(∀ (k:Nat) (p:Nat×Value) (q:Nat×Nat×List V),parts[k]?=some p→ps[k]?=some q→place p.1=some (q.1,q.2.1)∧CR w σ μ q.2.2 p.2.cells) →
  ∃ cells',Instr.fill place cells parts=some cells'∧CR w σ μ cs cells'
 | [],ps,xs,cs,cells,h,hf,hl,_=>by
  have:ps=[]:=List.eq_nil_of_length_eq_zero hl
  subst this
  simp only [fillV,Option.some.injEq] at hf
  subst hf
  exact ⟨cells,rfl,h⟩
 | (i,v)::parts,ps,xs,cs,cells,h,hf,hl,hp=>by
  cases ps with
  | nil=>simp at hl
  | cons q ps =>
   obtain ⟨off,sz,ys⟩:=q
   have h0:=hp 0 (i,v) (off,sz,ys) rfl rfl
   simp only [fillV] at hf
   split at hf
   ·rename_i hc
    obtain ⟨rfl,hc2⟩:=hc
    have hy:=h0.2
    have hs:v.cells.size=ys.length:=hy.1.symm
    have hnext:=h.fill hy off hc2
    obtain ⟨cells',h1,h2⟩:=fill_ok place parts ps _ cs _ hnext hf (by simpa using hl) (fun k p q h3 h4=>hp (k+1) p q h3 h4)
    refine ⟨cells',?_,h2⟩
    simp only [Instr.fill,h0.1]
    have hne:(decide (v.cells.size≠ys.length)||decide (off+v.cells.size > cells.size))=false:=by
     rw [hs,← h.1];simp;omega
    simp only [hne,Bool.false_eq_true,if_false]
    exact h1
   ·simp at hf
theorem constVs_ok {w:World} {σ:Store} {μ:Mem}:∀ (l:List Value) (zs:List V),constVs l=some zs→zs.length=l.length∧∀ (i:Nat) (x:V),zs[i]?=some x→VR w σ μ x (l.getD i undef)
 | [],zs,h=>by simp only [constVs,Option.some.injEq] at h;subst h;simp
 | v::l,zs,h=>by
  simp only [constVs] at h
  split at h<;>simp only [Option.some.injEq,reduceCtorEq] at h
  rename_i y ys hy hys
  subst h
  obtain ⟨h1,h2⟩:=constVs_ok l ys hys
  refine ⟨by simp [h1],fun i x hx=>?_⟩
  cases i with
  | zero=>simp only [List.getElem?_cons_zero,Option.some.injEq] at hx;subst hx;exact constV_ok hy
  | succ i=>simpa using h2 i x hx
theorem constVs_CR {w:World} {σ:Store} {μ:Mem} {cs:Array Value} {zs:List V} (h:constVs cs.toList=some zs):CR w σ μ zs cs:=by
 obtain ⟨h1,h2⟩:=constVs_ok (w:=w) (σ:=σ) (μ:=μ) _ _ h
 refine ⟨by simpa using h1,fun i x hx=>?_⟩
 have:=h2 i x hx
 simpa [List.getD_eq_getElem?_getD] using this
theorem CR.toAgg {w:World} {σ:Store} {μ:Mem} {xs:List V} {vs:Array Value} (h:CR w σ μ xs vs):VR w σ μ (.agg xs) (.agg vs):=.agg xs vs h.1 h.2
theorem flatten_at {xs:List (List V)} {sz:Nat} (hrow:∀ r∈xs,r.length=sz):∀ {i j:Nat} {x:V},at2 xs i j=some x→xs.flatten[i*sz+j]?=some x:=by
 induction xs with
 | nil=>intro i j x h;simp [at2] at h
 | cons r xs ih =>
  intro i j x h
  have hr:=hrow r (by simp)
  cases i with
  | zero =>
   simp only [at2,List.getElem?_cons_zero,Option.bind_some] at h
   have hj:j<r.length:=(List.getElem?_eq_some_iff.1 h).1
   rw [List.flatten_cons,Nat.zero_mul,Nat.zero_add,List.getElem?_append_left hj,h]
  | succ i =>
   have h':at2 xs i j=some x:=by simpa [at2] using h
   have:=ih (fun r hr=>hrow r (by simp [hr])) h'
   rw [List.flatten_cons,List.getElem?_append_right (by rw [hr,Nat.add_mul];omega),hr]
   have e:(i+1)*sz+j - sz=i*sz+j:=by rw [Nat.add_mul];omega
   rw [e,this]
theorem flatten_len {xs:List (List V)} {sz:Nat} (hrow:∀ r∈xs,r.length=sz):xs.flatten.length=xs.length*sz:=by
 induction xs with
 | nil=>simp
 | cons r xs ih=>rw [List.flatten_cons,List.length_append,hrow r (by simp),ih (fun r hr=>hrow r (by simp [hr])),List.length_cons,Nat.add_mul];omega
theorem fillV_rows (sz:Nat):∀ (rows:List (List V)) (pre:List V) (k:Nat) (tail:List V),(∀ r∈rows,r.length=sz)→pre.length=k*sz→tail.length=rows.length*sz →
  fillV (pre++tail) ((rows.zipIdx k).map fun (r,i)=>(i*sz,sz,r))=some (pre++rows.flatten)
 | [],pre,k,tail,_,_,ht=>by
  have:tail=[]:=List.eq_nil_of_length_eq_zero (by simpa using ht)
  subst this;simp [fillV]
 | r::rows,pre,k,tail,hr,hp,ht=>by
  have hrl:=hr r (by simp)
  have htl:sz≤tail.length:=by rw [ht,List.length_cons,Nat.add_mul];omega
  simp only [List.zipIdx_cons,List.map_cons,fillV]
  rw [if_pos ⟨hrl,by rw [List.length_append,hp];omega⟩]
  have e1:(pre++tail).take (k*sz)=pre:=by rw [← hp];exact List.take_left
  have e2:(pre++tail).drop (k*sz+sz)=tail.drop sz:=by rw [← hp,List.drop_append];simp
  rw [e1,e2]
  have ih:=fillV_rows sz rows (pre++r) (k+1) (tail.drop sz) (fun x hx=>hr x (by simp [hx])) (by rw [List.length_append,hp,hrl,Nat.add_mul];omega) (by rw [List.length_drop,ht,List.length_cons,Nat.add_mul];omega)
  rw [ih];simp
section silent
variable {P:Program} {o:Oper} {a:Act} {B:Nat} {w0 w:World} {σ:Store} {μ:Mem} {fr:List V} (hF:FR w σ μ fr a) (hS:Sim P B w0 w σ μ)
include hF hS
theorem cBuild_ok {places:List (Nat×Nat)}:∀ (parts:List (Nat×Operand)) (ps:List (Nat×Nat×O)),cBuild places parts=some ps→(∀ p∈ps,okCells σ (ev fr p.2.2)=true) →
  ps.length=parts.length∧∀ (k:Nat) (p:Nat×Operand) (q:Nat×Nat×O),parts[k]?=some p→ps[k]?=some q →
   places[p.1]?=some (q.1,q.2.1)∧CR w σ μ (cellsV (ev fr q.2.2)) (a.eval p.2).cells
 | [],ps,h,_=>by simp only [cBuild,Option.some.injEq] at h;subst h;simp
 | (i,x)::r,ps,h,hok=>by
  simp only [cBuild] at h
  split at h<;>simp only [Option.some.injEq,reduceCtorEq] at h
  rename_i off sz y ys hf hy hys
  subst h
  obtain ⟨h1,h2⟩:=cBuild_ok r ys hys (fun p hp=>hok p (List.mem_cons_of_mem _ hp))
  refine ⟨by simp [h1],fun k p q hp hq=>?_⟩
  cases k with
  | zero =>
   simp only [List.getElem?_cons_zero,Option.some.injEq] at hp hq
   subst hp;subst hq
   exact ⟨hf,(okCells_cells hS (cO_ok hF hy) (hok (off,sz,y) List.mem_cons_self)).1⟩
  | succ k=>exact h2 k p q (by simpa using hp) (by simpa using hq)
theorem y_build {T:TypeId} {parts:Array (Nat×Operand)} {t:TypeInfo} {fs:Array Field} {z:Value} {zs:List V} {places:List (Nat×Nat)} {ps:List (Nat×Nat×O)} (ho:o.op=.build T parts) (ht:P.info? T=some t) (hu:P.underlying T=some (.struct fs)) (hz:t.zero=some z)
  (hzs:constVs z.cells.toList=some zs) (hpl:placesOf P fs.toList=some places) (hps:cBuild places parts.toList=some ps) {ob:Prop} {y:V} (h:pexec fr σ (.build zs ps)=some (ob,y)) (hob:ob):Yields P o a w σ μ y:=by
 simp only [pexec] at h
 split at h
 ·rename_i cs hcs
  simp only [Option.some.injEq,Prod.mk.injEq] at h
  obtain ⟨rfl,rfl⟩:=h
  obtain ⟨h1,h2⟩:=cBuild_ok hF hS parts.toList ps hps hob
  obtain ⟨cells',h3,h4⟩:=fill_ok (w:=w) (σ:=σ) (μ:=μ) (fun x=>places.toArray[x]?) (parts.toList.map fun (i,x)=>(i,a.eval x)) (ps.map fun (off,sz,x)=>(off,sz,cellsV (ev fr x))) zs cs z.cells (constVs_CR hzs) hcs (by simp [h1]) (by
   intro k p q hp hq
   rw [List.getElem?_map] at hp hq
   simp only [Option.map_eq_some_iff] at hp hq
   obtain ⟨p',hp',rfl⟩:=hp
   obtain ⟨q',hq',rfl⟩:=hq
   obtain ⟨hf,hc⟩:=h2 k p' q' hp' hq'
   exact ⟨by simpa using hf,hc⟩)
  refine .pure (v:=.agg cells') ?_ h4.toAgg
  have hrun:=run_build (P:=P) w T (parts.map fun (i,x)=>(i,a.eval x)) cells' (by
   simp only [Program.built,ht,hu,hz,Array.toList_map]
   unfold placesOf at hpl
   simp only [hpl]
   exact h3)
  simp only [execOp,ho,Sem.run_bind,hrun,Result.andThen_ok,Sem.run_pure]
 ·simp at h
theorem y_buildA {T E:TypeId} {n:Nat} {parts:Array (Nat×Operand)} {t te:TypeInfo} {z:Value} {zs:List V} {ps:List (Nat×Nat×O)} (ho:o.op=.build T parts) (ht:P.info? T=some t) (hu:P.underlying T=some (.array n E)) (hz:t.zero=some z) (hte:P.info? E=some te)
  (hzs:constVs z.cells.toList=some zs) (hps:cBuild ((List.range n).map fun i=>(i*te.size,te.size)) parts.toList=some ps) {ob:Prop} {y:V} (h:pexec fr σ (.build zs ps)=some (ob,y)) (hob:ob):Yields P o a w σ μ y:=by
 simp only [pexec] at h
 split at h
 ·rename_i cs hcs
  simp only [Option.some.injEq,Prod.mk.injEq] at h
  obtain ⟨rfl,rfl⟩:=h
  obtain ⟨h1,h2⟩:=cBuild_ok hF hS parts.toList ps hps hob
  obtain ⟨cells',h3,h4⟩:=fill_ok (w:=w) (σ:=σ) (μ:=μ) (fun i=>some (i*te.size,te.size)) (parts.toList.map fun (i,x)=>(i,a.eval x)) (ps.map fun (off,sz,x)=>(off,sz,cellsV (ev fr x))) zs cs z.cells (constVs_CR hzs) hcs (by simp [h1]) (by
   intro k p q hp hq
   rw [List.getElem?_map] at hp hq
   simp only [Option.map_eq_some_iff] at hp hq
   obtain ⟨p',hp',rfl⟩:=hp
   obtain ⟨q',hq',rfl⟩:=hq
   obtain ⟨hf,hc⟩:=h2 k p' q' hp' hq'
   rw [List.getElem?_map] at hf
   simp only [Option.map_eq_some_iff] at hf
   obtain ⟨i,hi,hf⟩:=hf
   have hi2:i=p'.1:=by
    have:=(List.getElem?_eq_some_iff.1 hi).2
    simpa using this.symm
   subst hi2
   exact ⟨by rw [hf],hc⟩)
  refine .pure (v:=.agg cells') ?_ h4.toAgg
  have hrun:=run_build (P:=P) w T (parts.map fun (i,x)=>(i,a.eval x)) cells' (by
   simp only [Program.built,ht,hu,hz,hte,Array.toList_map]
   exact h3)
  simp only [execOp,ho,Sem.run_bind,hrun,Result.andThen_ok,Sem.run_pure]
 ·simp at h
theorem cParts_ok:∀ (parts:List (Nat×Operand)) (n:Nat) (xs:List O),cParts n parts=some xs→(∀ x∈xs,okCells σ (ev fr x)=true) →
  xs.length=parts.length∧∀ (k:Nat) (p:Nat×Operand) (x:O),parts[k]?=some p→xs[k]?=some x→p.1=n+k∧CR w σ μ (cellsV (ev fr x)) (a.eval p.2).cells
 | [],n,xs,h,_=>by simp only [cParts,Option.some.injEq] at h;subst h;simp
 | (i,x)::r,n,xs,h,hok=>by
  simp only [cParts] at h
  split at h
  ·rename_i hi;subst hi
   split at h<;>simp only [Option.some.injEq,reduceCtorEq] at h
   rename_i y ys hy hys
   subst h
   obtain ⟨h1,h2⟩:=cParts_ok r _ ys hys (fun p hp=>hok p (List.mem_cons_of_mem _ hp))
   refine ⟨by simp [h1],fun k p q hp hq=>?_⟩
   cases k with
   | zero =>
    simp only [List.getElem?_cons_zero,Option.some.injEq] at hp hq
    subst hp;subst hq
    exact ⟨rfl,(okCells_cells hS (cO_ok hF hy) (hok y List.mem_cons_self)).1⟩
   | succ k =>
    have:=h2 k p q (by simpa using hp) (by simpa using hq)
    exact ⟨by omega,this.2⟩
  ·simp at h
theorem bslice_run {T E:TypeId} {len:Nat} {parts:Array (Nat×Operand)} {t:TypeInfo} {z:Value} {xs:List O} {szs:List (Option Nat)} (ho:o.op=.buildSlice T len parts) (hT:P.underlying T=some (.slice E)) (ht:P.info? E=some t) (hz:t.zero=some z)
  (hn:parts.size=len) (hsz:0<t.size) (hzc:z.cells.size=t.size) (hbig:len*t.size≤2^24) (hps:cParts 0 parts.toList=some xs) (hok:∀ x∈xs,okCells σ (ev fr x)=true) (hrs:∀ r∈xs.map fun x=>purifyL szs (cellsV (ev fr x)),r.length=t.size) :
  ∃ cells':Array Value,(execOp a.eval o).run P w=.ok (.value (.slice (some ⟨w.heap.size,0,none⟩) len len)) (w.alloc (.cells cells' E))∧(xs.map fun x=>purifyL szs (cellsV (ev fr x))).length=len∧cells'.size=len*t.size ∧
   ∀ i j x,at2 (xs.map fun x=>purifyL szs (cellsV (ev fr x))) i j=some x→i*t.size+j<cells'.size∧VR w σ μ x (cells'.getD (i*t.size+j) undef):=by
 obtain ⟨h1,h2⟩:=cParts_ok hF hS parts.toList 0 xs hps hok
 have hlen:xs.length=len:=by rw [h1];simpa using hn
 generalize hrw:(xs.map fun x=>purifyL szs (cellsV (ev fr x)))=rows at hrs ⊢
 have hrl:rows.length=len:=by rw [← hrw];simp [hlen]
 let zc:Array Value:=if len*t.size=0 then #[] else z.cells
 let zeros:Array Value:=(Array.range (len*t.size)).map (zc[· % zc.size]!)
 have hCR:CR w σ μ (List.replicate (len*t.size) V.u) zeros:=by
  refine ⟨by simp [zeros],fun i x hx=>?_⟩
  have:x=.u:=(List.getElem?_eq_some_iff.1 hx).2▸by simp
  subst this;exact .u _
 have hfill:=fillV_rows t.size rows [] 0 (List.replicate (len*t.size) V.u) hrs (by simp) (by simp [hrl])
 simp only [List.nil_append] at hfill
 obtain ⟨cells',h3,h4⟩:=fill_ok (w:=w) (σ:=σ) (μ:=μ) (fun i=>some (i*t.size,t.size)) (parts.toList.map fun (i,x)=>(i,a.eval x)) _ _ _ zeros hCR hfill (by simp [hrl,hn]) (by
  intro k p q hp hq
  rw [List.getElem?_map] at hp
  simp only [Option.map_eq_some_iff] at hp
  obtain ⟨p',hp',rfl⟩:=hp
  rw [List.getElem?_map,List.getElem?_zipIdx] at hq
  simp only [Option.map_map,Option.map_eq_some_iff] at hq
  obtain ⟨r,hr,rfl⟩:=hq
  rw [← hrw,List.getElem?_map] at hr
  simp only [Option.map_eq_some_iff] at hr
  obtain ⟨x,hx,rfl⟩:=hr
  obtain ⟨e1,hc⟩:=h2 k p' x hp' hx
  refine ⟨?_,hc.purifyL szs⟩
  simp [e1])
 have hrun:(execOp a.eval o).run P w=.ok (.value (.slice (some ⟨w.heap.size,0,none⟩) len len)) (w.alloc (.cells cells' E)):=by
  have hnb:¬ (16777216<len*t.size):=by omega
  simp only [execOp,ho,Instr.buildSlice,Sem.run_bind,run_underlying hT,Result.andThen_ok,sizeOf,typeInfo,run_program,ht,Sem.run_pure]
  have hif:¬ (len*t.size > 2^24):=by omega
  simp only [hif,if_false]
  by_cases h0:len*t.size=0
  ·have hzc0:zc=#[]:=by simp [zc,h0]
   have e1:zeros=(Array.range (len*t.size)).map ((#[]:Array Value)[· % (#[]:Array Value).size]!):=by simp only [zeros,hzc0]
   simp only [h0,if_true,Sem.run_bind,Sem.run_pure,Result.andThen_ok]
   rw [e1,h0] at h3
   simp only [Array.toList_map,h3]
   simp [newRow]
  ·have hzc0:zc=z.cells:=by simp [zc,h0]
   have e1:zeros=(Array.range (len*t.size)).map (z.cells[· % z.cells.size]!):=by simp only [zeros,hzc0]
   simp only [h0,if_false,zeroValue,typeInfo,Sem.run_bind,run_program,ht,Result.andThen_ok,Sem.run_pure,hz]
   rw [e1] at h3
   simp only [Array.toList_map,h3]
   simp [newRow]
 refine ⟨cells',hrun,hrl,?_,fun i j x hx=>?_⟩
 ·rw [← h4.1];simp [flatten_len hrs,hrl]
 ·have hfx:=flatten_at hrs hx
  exact ⟨by rw [← h4.1];exact (List.getElem?_eq_some_iff.1 hfx).1,h4.2 _ x hfx⟩
theorem y_bslice {T E:TypeId} {len:Nat} {parts:Array (Nat×Operand)} {t:TypeInfo} {z:Value} {xs:List O} {szs:List (Option Nat)} (ho:o.op=.buildSlice T len parts) (hT:P.underlying T=some (.slice E)) (ht:P.info? E=some t) (hz:t.zero=some z)
  (hn:parts.size=len) (hsz:0<t.size) (hzc:z.cells.size=t.size) (hbig:len*t.size≤2^24) (hps:cParts 0 parts.toList=some xs) {ob:Prop} {y:V} (h:pexec fr σ (.bslice t.size szs xs)=some (ob,y)) (hob:ob):Yields P o a w σ μ y:=by
 simp only [pexec,Option.some.injEq,Prod.mk.injEq] at h
 obtain ⟨rfl,rfl⟩:=h
 obtain ⟨hok,hrows⟩:=hob
 obtain ⟨cells',hrun,hrl,hcs,hcell0⟩:=bslice_run hF hS ho hT ht hz hn hsz hzc hbig hps hok (fun r hr=>(hrows r hr).1)
 generalize hrw:(xs.map fun x=>purifyL szs (cellsV (ev fr x)))=rows at hrows hrl hcell0 ⊢
 have hrs:∀ r∈rows,r.length=t.size:=fun r hr=>(hrows r hr).1
 have hg:w.grownBy (w.alloc (.cells cells' E)) none:=World.grownBy_alloc w _ none
 obtain ⟨hS',hp⟩:=hS.grown hg
 refine ⟨_,_,hrun,hg,?_⟩
 have hcell:∀ i j x,at2 rows i j=some x→(w.alloc (.cells cells' E)).cell? ⟨w.heap.size,0+i*t.size+j,none⟩=some (cells'.getD (i*t.size+j) undef)∧VR w σ μ x (cells'.getD (i*t.size+j) undef):=by
  intro i j x hx
  obtain ⟨hlt,hv⟩:=hcell0 i j x hx
  refine ⟨?_,hv⟩
  rw [World.cell?_alloc_new,Nat.zero_add]
  simp [hlt]
 have:=VR.lit (w:=w.alloc (.cells cells' E)) (σ:=σ) (μ:=μ) t.size rows w.heap.size 0 (fun i j=>cells'.getD (i*t.size+j) undef) (by
   rw [hrl];have:len≤len*t.size:=Nat.le_mul_of_pos_right _ hsz
   unfold maxLen;omega) hrs (fun i j x hx=>⟨(hcell i j x hx).1,fun hw=>?_,?_⟩) (fun i j x hx=>(hcell i j x hx).2.mono hp)
 ·rwa [hrl] at this
 ·obtain ⟨id,ob,h5,h6,h7⟩:=hw
  have hd:ob≠.dead:=by rintro rfl;exact h7
  exact absurd (hS.blk_ge h5 hd h6).2 (Nat.lt_irrefl _)
 ·obtain ⟨r,hr,hj⟩:=at2_some hx
  exact (hrows r (List.mem_of_getElem? hr)).2 x (List.mem_of_getElem? hj)
end silent
structure Shows (w:World) (σ:Store) (μ:Mem) (xs:List (List V)) (sz:Nat) (v:Value):Prop where
 rows:∀ r∈xs,r.length=sz
 len:xs.length≤maxLen
 here:(xs=[]∧∃ a,v=.slice a 0 0)∨∃ b off cap,v=.slice (some ⟨b,off,none⟩) xs.length cap ∧
  ∀ i j x,at2 xs i j=some x→x.pure=true∧∃ u,w.cell? ⟨b,off+i*sz+j,none⟩=some u∧VR w σ μ x u
theorem RowsAt.shows {w:World} {σ:Store} {μ:Mem} {xs:List (List V)} {sz b o cap:Nat} {f:Nat→Nat→Value} (h:RowsAt w σ μ xs sz b o f) (hl:xs.length≤maxLen):Shows w σ μ xs sz (.slice (some ⟨b,o,none⟩) xs.length cap) :=
 ⟨h.1,hl,.inr ⟨b,o,cap,rfl,fun i j x hx=>⟨(h.2.1 i j x hx).2.2,f i j,(h.2.1 i j x hx).1,h.2.2 i j x hx⟩⟩⟩
theorem rowsOf_ok {P:Program} {B:Nat} {w0 w:World} {σ:Store} {μ:Mem} (hS:Sim P B w0 w σ μ) {x:V} {v:Value} (h:VR w σ μ x v) {sz:Nat} {xs:List (List V)} (hx:rowsOf σ sz x=some xs):Shows w σ μ xs sz v:=by
 unfold rowsOf at hx
 split at hx
 ·simp only [Option.some.injEq] at hx;subst hx
  exact ⟨by simp,by simp,.inl ⟨rfl,_,h.inv_nil⟩⟩
 ·split at hx<;>simp only [Option.some.injEq,reduceCtorEq] at hx
  rename_i hsz;subst hsz;subst hx
  rcases h.inv_lit with ⟨rfl,rfl⟩ | ⟨b,o,f,rfl,hm,hr⟩
  ·exact ⟨by simp,by simp,.inl ⟨rfl,_,rfl⟩⟩
  ·exact hr.shows hm
 ·split at hx<;>simp only [Option.some.injEq,reduceCtorEq] at hx
  rename_i hsz;subst hsz;subst hx
  rcases h.inv_sl with ⟨rfl,_,rfl⟩ | ⟨b,o,cap,f,rfl,hc,hm,hr⟩
  ·exact ⟨by simp,by simp,.inl ⟨rfl,_,rfl⟩⟩
  ·exact hr.shows (Nat.le_trans hc hm)
 ·rename_i id g
  split at hx
  ·rename_i E sz' by' g' sh xs' ho
   split at hx<;>simp only [Option.some.injEq,reduceCtorEq] at hx
   rename_i hg;obtain ⟨rfl,rfl⟩:=hg;subst hx
   have hv:=h.inv_own ho
   obtain ⟨_,hrow,hr⟩:=hS.rowAt ho
   rcases hr with ⟨hm,hn⟩ | ⟨b,cap,cur,hm,_,hc,hcm,_,hr⟩
   ·subst hn;exact ⟨by simp,by simp,.inl ⟨rfl,_,hv.trans hm⟩⟩
   ·exact ⟨hrow,Nat.le_trans hc hcm,.inr ⟨b,0,cap,hv.trans hm,fun i j x hx=>by rw [Nat.zero_add];exact hr i j x hx⟩⟩
  ·simp at hx
 ·rename_i id g lo hi
  split at hx
  ·rename_i E sz' by' g' sh xs' ho
   split at hx<;>simp only [Option.some.injEq,reduceCtorEq] at hx
   rename_i hg;obtain ⟨rfl,rfl⟩:=hg;subst hx
   obtain ⟨h1,h2,hv⟩:=h.inv_sub ho
   obtain ⟨_,hrow,hr⟩:=hS.rowAt ho
   have hrow':∀ r∈(xs'.drop lo).take (hi - lo),r.length=sz':=fun r hr=>hrow r (List.mem_of_mem_drop (List.mem_of_mem_take hr))
   have hl:((xs'.drop lo).take (hi - lo)).length=hi - lo:=by simp;omega
   rcases hr with ⟨hm,hn⟩ | ⟨b,cap,cur,hm,_,hc,hcm,_,hr⟩
   ·subst hn
    refine ⟨by simp,by simp,.inl ⟨by simp,none,?_⟩⟩
    simp only [List.length_nil] at h2
    rw [hv,hm]
    have h3:lo=0:=by omega
    have h4:hi=0:=by omega
    subst h3;subst h4;rfl
   ·refine ⟨hrow',by rw [hl];omega,?_⟩
    rw [hv,hm]
    by_cases he:cap=lo
    ·have h3:hi - lo=0:=by omega
     refine .inr ⟨b,0,cap - lo,?_,?_⟩
     ·rw [hl];simp [subv,he]
     ·intro i j x hx
      rw [h3] at hx;simp [at2] at hx
    ·refine .inr ⟨b,lo*sz',cap - lo,?_,?_⟩
     ·rw [hl];simp [subv,he,Addr.add_lit]
     ·intro i j x hx
      have:=hr _ _ _ (at2_sub hx)
      rwa [show (lo+i)*sz'+j=lo*sz'+i*sz'+j by rw [Nat.add_mul]] at this
  ·simp at hx
 ·simp at hx
theorem Shows.cells {w:World} {σ:Store} {μ:Mem} {xs:List (List V)} {sz:Nat} {b off n cap:Nat} (h:Shows w σ μ xs sz (.slice (some ⟨b,off,none⟩) n cap)) (hx:∀ i j x,at2 xs i j=some x→cellOK σ x=true) {P:Program} {B:Nat} {w0:World} (hS:Sim P B w0 w σ μ) :
  ∃ vals:List Value,vals.length=xs.length*sz∧(∀ (j:Nat) (u:Value),vals[j]?=some u→w.cell? ((⟨b,off,none⟩:Addr).add j)=some u)∧(∀ u∈vals,u.oneCell'=true)∧RowR w σ μ xs sz vals:=by
 rcases h.here with ⟨rfl,a,he⟩ | ⟨b',off',cap',he,hr⟩
 ·exact ⟨[],by simp,by simp,by simp,by simp,by simp [at2]⟩
 ·simp only [Value.slice.injEq,Option.some.injEq,Addr.mk.injEq,and_true] at he
  obtain ⟨⟨rfl,rfl⟩,rfl,rfl⟩:=he
  have hsz:0<xs.length*sz→0<sz:=fun h=>Nat.pos_of_mul_pos_left h
  let f:Nat→Value:=fun k=>(w.cell? ⟨b,off+k,none⟩).getD undef
  have hk:∀ k,k<xs.length*sz→∃ x,at2 xs (k / sz) (k % sz)=some x∧x.pure=true∧w.cell? ⟨b,off+k,none⟩=some (f k)∧VR w σ μ x (f k):=by
   intro k hk
   have hs:0<sz:=hsz (by omega)
   have h1:k / sz<xs.length:=Nat.div_lt_of_lt_mul (by rw [Nat.mul_comm];exact hk)
   obtain ⟨x,hx⟩:=rows_flat h.rows h1 (Nat.mod_lt k hs)
   obtain ⟨h2,u,h3,h4⟩:=hr _ _ _ hx
   have e:off+k / sz*sz+k % sz=off+k:=by have:=Nat.div_add_mod k sz;rw [Nat.mul_comm] at this;omega
   rw [e] at h3
   have hf:f k=u:=by simp [f,h3]
   exact ⟨x,hx,h2,by rw [hf];exact h3,by rw [hf];exact h4⟩
  refine ⟨(List.range (xs.length*sz)).map f,by simp,fun j u hj=>?_,fun u hu=>?_,h.rows,fun i j x hij=>?_⟩
  ·rw [List.getElem?_map] at hj
   simp only [Option.map_eq_some_iff] at hj
   obtain ⟨k,hk1,rfl⟩:=hj
   have hjl:j<xs.length*sz:=by
    have:=(List.getElem?_eq_some_iff.1 hk1).1;simpa using this
   have:k=j:=by rw [List.getElem?_range hjl] at hk1;simpa using hk1.symm
   subst this
   rw [Addr.add_lit]
   obtain ⟨_,_,_,h3,_⟩:=hk k hjl
   exact h3
  ·simp only [List.mem_map,List.mem_range] at hu
   obtain ⟨k,hkl,rfl⟩:=hu
   obtain ⟨x,h1,_,_,h4⟩:=hk k hkl
   exact (cellOK_one hS h4 (hx _ _ _ h1)).1
  ·obtain ⟨h2,u,h3,h4⟩:=hr _ _ _ hij
   obtain ⟨r,hr1,hr2⟩:=at2_some hij
   have hi:i<xs.length:=(List.getElem?_eq_some_iff.1 hr1).1
   have hj:j<sz:=by rw [← h.rows r (List.mem_of_getElem? hr1)];exact (List.getElem?_eq_some_iff.1 hr2).1
   have hlt:i*sz+j<xs.length*sz:=by
    have:(i+1)*sz≤xs.length*sz:=Nat.mul_le_mul_right _ hi
    rw [Nat.add_mul] at this;omega
   refine ⟨h2,u,?_,h4⟩
   rw [List.getElem?_map,List.getElem?_range hlt]
   have:off+i*sz+j=off+(i*sz+j):=by omega
   rw [this] at h3
   simp [f,h3]
theorem pure_cellOK {σ:Store} {x:V} (h:x.pure=true):cellOK σ x=true:=by cases x<;>simp_all [V.pure,cellOK]
theorem foldl_push (ns:List Int):∀ (s:ByteArray),(ns.foldl (fun (r:ByteArray) n=>r.push (UInt8.ofNat n.toNat)) s).data.toList=s.data.toList++ns.map fun n=>UInt8.ofNat n.toNat:=by
 induction ns with
 | nil=>intro s;simp
 | cons n ns ih=>intro s;rw [List.foldl_cons,ih];simp [ByteArray.push]
theorem bytesOf_nums:∀ (xs:List (List V)) (l:List UInt8),bytesOf xs=some l→∃ ns:List Int,xs=ns.map (fun n=>[V.i .u8 n])∧l=ns.map fun n=>UInt8.ofNat n.toNat
 | [],l,h=>by simp only [bytesOf,Option.some.injEq] at h;subst h;exact ⟨[],rfl,rfl⟩
 | r::rs,l,h=>by
  simp only [bytesOf] at h
  split at h<;>simp only [Option.some.injEq,reduceCtorEq] at h
  rename_i x ys hx hys
  subst h
  obtain ⟨ns,h1,h2⟩:=bytesOf_nums rs ys hys
  unfold byteOfRow at hx
  split at hx<;>simp only [Option.some.injEq,reduceCtorEq] at hx
  rename_i n
  subst hx
  exact ⟨n::ns,by simp [h1],by simp [h2]⟩
section silent
variable {P:Program} {o:Oper} {a:Act} {B:Nat} {w0 w:World} {σ:Store} {μ:Mem} {fr:List V} (hF:FR w σ μ fr a) (hS:Sim P B w0 w σ μ)
include hF hS
theorem y_b2s {s d e:TypeId} {x:Operand} {x':O} (ho:o.op=.convert s d x) (hs:P.underlying s=some (.slice e)) (he:P.underlying e=some (.int .u8)) (hd:P.underlying d=some .string) (hx:cO x=some x')
  {ob:Prop} {y:V} (h:pexec fr σ (.b2s x')=some (ob,y)):Yields P o a w σ μ y:=by
 have h1:=cO_ok hF hx
 simp only [pexec] at h
 split at h
 ·rename_i xs hxs
  split at h
  ·rename_i l hl
   simp only [Option.some.injEq,Prod.mk.injEq] at h
   obtain ⟨_,rfl⟩:=h
   have hsh:=rowsOf_ok hS h1 hxs
   obtain ⟨ns,hns,hln⟩:=bytesOf_nums xs l hl
   have hll:l.length=xs.length:=by rw [hln,hns];simp
   rcases hsh.here with ⟨hx0,a0,hv⟩ | ⟨b,off,cap,hv,hr⟩
   ·subst hx0
    have:l=[]:=List.eq_nil_of_length_eq_zero (by simpa using hll)
    subst this
    refine .pure (v:=.string ByteArray.empty) ?_ (.s _ _ rfl (by simp))
    have h0:(convert s d (.slice a0 0 0)).run P w=.ok (.string ByteArray.empty) w:=by
     cases a0 with
     | none=>exact run_convert_bytes_nil (P:=P) (w:=w) s e hs he 0 0 d hd
     | some a0 =>
      rw [run_convert_bytes_string w s d e _ _ _ hs he hd,run_bytesToString w a0 0 0 [] (run_loadCells_list w a0 [] (by simp))]
      rfl
    simp only [execOp,ho,hv,Sem.run_bind,h0,Result.andThen_ok,Sem.run_pure]
   ·have hcell:∀ j,j<xs.length→w.cell? ((⟨b,off,none⟩:Addr).add j)=some (.int .u8 (ns.getD j 0)):=by
     intro j hj
     have hjn:j<ns.length:=by rw [hns] at hj;simpa using hj
     have hat:at2 xs j 0=some (.i .u8 ns[j]):=by rw [hns];simp [at2,hjn]
     obtain ⟨_,u,h2,h3⟩:=hr j 0 _ hat
     rw [h3.inv_i] at h2
     rw [Addr.add_lit]
     simpa [hjn] using h2
    have hload:=run_loadCells (P:=P) w ⟨b,off,none⟩ xs.length (fun j=>.int .u8 (ns.getD j 0)) hcell
    have hload':(loadCells ⟨b,off,none⟩ xs.length).run P w=.ok (ns.map (Value.int .u8)).toArray w:=by
     rw [hload]
     congr 2
     apply List.ext_getElem?
     intro j
     have hln':xs.length=ns.length:=by rw [hns];simp
     by_cases hj:j<ns.length
     ·rw [List.getElem?_map,List.getElem?_range (by omega),List.getElem?_map,List.getElem?_eq_getElem hj];simp [hj]
     ·rw [List.getElem?_eq_none (by simp;omega),List.getElem?_eq_none (by simp;omega)]
    refine .pure (v:=.string (ns.foldl (fun r n=>r.push (UInt8.ofNat n.toNat)) ByteArray.empty)) ?_ (.s _ _ ?_ (by rw [hll];exact hsh.len))
    ·simp only [execOp,ho,hv,Sem.run_bind,run_convert_bytes_string w s d e _ _ _ hs he hd,run_bytesToString w ⟨b,off,none⟩ xs.length cap ns hload',Result.andThen_ok,Sem.run_pure]
    ·rw [foldl_push,hln];rfl
  ·simp at h
 ·simp at h
end silent
end Go.Pm

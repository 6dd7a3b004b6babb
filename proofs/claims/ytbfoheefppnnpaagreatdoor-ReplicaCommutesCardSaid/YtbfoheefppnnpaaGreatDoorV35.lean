/- A part of the proof of the statement of the last text of this claim: for every two lists of integers ReplicaCommutes returns true and leaves the memory as it was. -/
import Derived.Test.YtbfoheefppnnpaaGreatDoorV1
import Derived.Test.YtbfoheefppnnpaaGreatDoorV12
import Derived.Test.YtbfoheefppnnpaaGreatDoorV17
import Derived.Test.YtbfoheefppnnpaaGreatDoorV18
import Derived.Test.YtbfoheefppnnpaaGreatDoorV20
import Derived.Test.YtbfoheefppnnpaaGreatDoorV33
import Derived.Test.YtbfoheefppnnpaaGreatDoorV34
set_option linter.all false

namespace Go.Proofs.Tryz
open Go Go.Pm Go.Bt Go.RowKit
theorem sortNil_pc (f:Nat) (caps:List V) (σ:Store):PC Tryz.prog 38 [.nil,.fn f caps] σ (fun r σ'=>r=.tup []∧σ'=σ):=by
 refine PC.ofCalls fun w μ vs hv=>?_
 have a0:=(hv.2 0 _ rfl).inv_nil
 have e:vs=#[.slice none 0 0,vs.getD 1 undef]:=by
  obtain ⟨q⟩:=vs
  match q,hv.1 with
  | [u,v],_=>simp at a0 ⊢;exact a0
 rw [e]
 exact ⟨_,AnyF.slices_SortFunc_none Tryz.sortf none 0 _ w,.tup [] #[] rfl (by simp)⟩
theorem first_nil (σ:Store):PC Tryz.prog 72 [.sl 1 []] σ (fun r σ'=>r=.i .i64 0∧σ'=σ):=by
 refine PC.intro Tryz.func72 c72 fun hcl hwf=>wpc_sound ?_
 simp only [p72,SS,seval]
 simp only [VV,seval]
 exact ⟨fun _=>ret_end0 (.inr rfl) rfl ⟨rfl,rfl⟩,fun h=>by simp at h⟩
theorem read_nil (σ:Store):PC Tryz.prog 36 [.sl 1 []] σ (fun r σ'=>r=.tup [.nil,.i .i64 0]∧σ'=σ):=by
 refine PC.intro Tryz.func36 c36 fun hcl hwf=>wpc_sound ?_
 simp only [p36,SS,seval]
 simp only [VV]
 refine PWc.rnd 1 (rnd_step fun R hR=>?_)
 simp only [p36_0,VV,Int.reduceToNat,reduceIte]
 refine ⟨by decide,?_⟩
 refine call_eq (first_nil _) rfl ?_
 simp only [VV,reduceIte,reduceCtorEq]
 exact ret_end0 (.inr rfl) rfl ⟨rfl,rfl⟩
theorem repair_nil (σ:Store):PC Tryz.prog 35 [.sl 1 []] σ (fun r σ'=>r=.sl 1 []∧σ'=σ):=by
 refine PC.intro Tryz.func35 c35 fun hcl hwf=>wpc_sound ?_
 simp only [p35,SS,seval]
 simp only [VV]
 refine call_eq (read_nil _) rfl ?_
 simp only [VV,Int.reduceToNat,reduceIte]
 refine ⟨by decide,?_⟩
 refine call_eq (cloneBytes_pc [] (by decide) _) rfl ?_
 simp only [VV]
 exact ret_end0 (.inr rfl) rfl ⟨rfl,rfl⟩
theorem restart_nil (n:Int) (σ:Store):PC Tryz.prog 19 [.agg (Off.cells ⟨n,0,[],[],0,true⟩)] σ (fun r σ'=>r=.tup [.agg (Off.cells ⟨n,0,[],[],0,false⟩),.i .i64 0]∧σ'=σ):=by
 refine PC.intro Tryz.func19 c19 fun hcl hwf=>wpc_sound ?_
 simp only [p19,SS,seval]
 simp only [Off.cells,bytesV,List.map_nil,VV,Nat.reduceAdd,reduceCtorEq]
 intro X
 refine call_eq (repair_nil _) rfl ?_
 simp only [VV,Nat.reduceAdd,Nat.reduceLeDiff,reduceIte]
 refine call_eq (read_nil _) rfl ?_
 simp only [VV]
 refine PWc.rnd 1 (rnd_step fun R hR=>?_)
 simp only [p19_0,VV,reduceIte]
 refine ⟨fun h=>by simp at h,fun _=>?_⟩
 refine call_eq (sortNil_pc 39 [] _) rfl ?_
 simp only [VV,Nat.reduceAdd]
 refine ret_cvs hcl (.inr rfl) (by simp only [RS,Nat.reduceAdd,reduceIte];rfl) (.cons (Cv.aggs (.cons (.refl _) (.cons (.refl _) (.cons (.nil _) (.cons (.refl _) (.cons (.refl _) (.cons (.refl _) .nil))))))) (.cons (.refl _) .nil)) (by simp only [LW]) ⟨rfl,rfl⟩
def cAt (k n:Nat):Nat→Nat:=fun o=>if o=k then n else 0
theorem counts_at {l:List Opr} {k n:Nat} (hn:n<2^40) (h1:∀ j:Nat,j<n→∃ x∈l,keyNo x=((k:Int),(j:Int)+1)) (h2:∀ x∈l,∃ j:Nat,j<n∧keyNo x=((k:Int),(j:Int)+1)):Counts l (cAt k n):=by
 refine ⟨fun o _=>?_,fun o _ j hj=>?_,fun o _ x hx he=>?_⟩
 ·unfold cAt;split<;>omega
 ·unfold cAt at hj
  split at hj
  ·rename_i h;subst h;exact h1 j hj
  ·omega
 ·obtain ⟨j,hj,h3⟩:=h2 x hx
  rw [h3] at he
  simp only [Prod.mk.injEq] at he
  obtain ⟨h4,h5⟩:=he
  have:k=o:=by omega
  subst this
  simp only [cAt,if_true] at h5
  omega
theorem entry39_pc (s t:Int) (σ:Store):PC Tryz.prog 17 [.i .i64 s,.i .i64 t] σ (fun r σ'=>r=.agg (entryE s t).cells∧σ'=σ):=by
 refine PC.intro Tryz.func17 c17 fun hcl hwf=>wpc_sound ?_
 simp only [p17,SS,seval]
 have hs:=place_range (x:=s) (n:=3) (by decide)
 have ht:=place_range (x:=t) (n:=4) (by decide)
 have e1:at2 [[V.s [83,97,118,101]],[V.s [120]],[V.s [114,101,100]]] (place s 3).toNat 0=some (.s (srcL.getD (place s 3).toNat [])):=by
  rcases (show (place s 3).toNat=0∨(place s 3).toNat=1∨(place s 3).toNat=2 by omega) with h | h | h<;>rw [h]<;>rfl
 have e2:at2 [[V.s [97]],[V.s [98]],[V.s [99]],[V.s [100]]] (place t 4).toNat 0=some (.s (tgtL.getD (place t 4).toNat [])):=by
  rcases (show (place t 4).toNat=0∨(place t 4).toNat=1∨(place t 4).toNat=2∨(place t 4).toNat=3 by omega) with h | h | h | h<;>rw [h]<;>rfl
 simp only [VV,seval]
 refine call_eq (place_pc s 3 (by decide) (by decide) _) rfl ?_
 simp only [e1,V.pure,VV,seval]
 refine ⟨⟨hs.1,hs.2⟩,?_⟩
 refine call_eq (place_pc t 4 (by decide) (by decide) _) rfl ?_
 simp only [e1,e2,V.pure,VV,seval]
 refine ⟨⟨hs.1,hs.2⟩,⟨ht.1,ht.2⟩,?_⟩
 exact ret_cvs hcl (.inr rfl) (by simp only [RS,seval];rfl) (.cons (Cv.aggs (.cons (.lit _ _) (.cons (.lit _ _) (.cons (.refl _) (.cons (.refl _) (.cons (.refl _) (.cons (.refl _) (.cons (.refl _) (.cons (.refl _) .nil))))))))) .nil) (by simp only [LW]) ⟨rfl,rfl⟩
def kX:Opr:=opOf 1 2 1 (entryE 0 0) []
def o2:Off:=⟨2,0,[],[],0,false⟩
def o1:Off:=⟨1,0,[],[],0,false⟩
theorem kX_ok:opErr kX=0:=opOf_ok (by decide) (by decide +kernel) (by simp) (by decide)
theorem kX_small:kX.small:=opOf_small (by simp)
theorem kX_len:(encBody kX).length≤60000:=opOf_le (by simp)
theorem o2_small:o2.small:=⟨by simp [o2],by simp [o2],by simp [o2]⟩
theorem o1_small:o1.small:=⟨by simp [o1],by simp [o1],by simp [o1]⟩
theorem counts_0:Counts [] (cAt 0 0):=counts_at (by decide) (fun j hj=>by omega) (by simp)
theorem put_small {o:Off} {x:Opr} {m:Nat} (ho:o.small) (hx:x.small) (h1:o.ops.length<1000) (h2:o.log.length<1000000) (h3:(encBody x).length≤60000) (hm:m≤o.ops.length):(putOff o x m).small:=by
 refine ⟨fun y hy=>?_,?_,?_⟩
 ·simp only [putOff,List.mem_append,List.mem_cons] at hy
  rcases hy with hy | rfl | hy
  ·exact ho.ops y (List.mem_of_mem_take hy)
  ·exact hx
  ·exact ho.ops y (List.mem_of_mem_drop hy)
 ·simp only [putOff,List.length_append,List.length_take,List.length_cons,List.length_drop];omega
 ·simp only [putOff,List.length_append,recF_len];omega
theorem made_small {o:Off} {x:Opr} {m:Nat} (ho:o.small) (hx:x.small) (h1:o.ops.length<1000) (h2:o.log.length<1000000) (h3:(encBody x).length≤60000) (hm:m≤o.ops.length):(madeOff o x m).small :=
 let h:=put_small ho hx h1 h2 h3 hm
 ⟨h.ops,h.len,h.log⟩
theorem kConfirm_pc (σ:Store):PC Tryz.prog 16 [.agg o2.cells,.agg (entryE 0 0).cells] σ (fun r σ'=>r=.tup [.agg (madeOff o2 kX 0).cells,.agg kX.cells,.i .i64 0]∧σ'=σ) :=
 confirm_ok o2 (entryE 0 0) (entryE_small _ _) (entryE_ok _ _) o2_small rfl (cAt 0 0) counts_0 [] (by decide +kernel) (by decide) (by decide) (by decide) 0 kX_small kX_ok kX_len (by decide) (Nat.le_refl _) (by simp [o2]) σ
theorem kReceive_pc (σ:Store):PC Tryz.prog 9 [.agg o1.cells,.agg kX.cells] σ (fun r σ'=>r=.tup [.agg (putOff o1 kX 0).cells,.i .i64 0]∧σ'=σ) :=
 receive_pc o1 kX 0 o1_small kX_small rfl kX_ok kX_len (by decide) (Nat.le_refl _) (by simp [o1]) (by simp [o1]) (by decide) σ
theorem kPut_small:(putOff o1 kX 0).small:=put_small o1_small kX_small (by decide) (by decide) kX_len (by decide)
theorem kMade_small:(madeOff o2 kX 0).small:=made_small o2_small kX_small (by decide) (by decide) kX_len (by decide)
theorem kSeen_pc (σ:Store):PC Tryz.prog 15 [.agg (putOff o1 kX 0).cells] σ (fun r σ'=>r=.sl 1 (([0,0,1]:List Int).map iRow)∧σ'=σ):=by
 have hk:(putOff o1 kX 0).ops=[kX]:=rfl
 have hc:Counts (putOff o1 kX 0).ops (cAt 2 1):=by
  rw [hk]
  refine counts_at (by decide) (fun j hj=>⟨kX,by simp,?_⟩) (fun x hx=>⟨0,by decide,?_⟩)
  ·obtain rfl:j=0:=by omega
   rfl
  ·simp only [List.mem_cons,List.not_mem_nil,or_false] at hx
   rw [hx];rfl
 have:=seen_pc (putOff o1 kX 0) kPut_small rfl (cAt 2 1) hc σ
 rwa [show vJoin (countL (cAt 2 1)) []=[0,0,1] from by decide +kernel] at this
theorem newI (n:Int) (h:0≤n) (h8:n<8) (σ:Store):PC Tryz.prog 8 [.i .i64 n] σ (fun r σ'=>r=.tup [.agg (Off.cells ⟨n,0,[],[],0,false⟩),.i .i64 0]∧σ'=σ):=by
 have:=new_pc n σ
 rwa [show newOff n=(⟨n,0,[],[],0,false⟩,0) from by rw [newOff,if_neg (by omega)]] at this
theorem kMem:memoryOf []=[]:=by decide +kernel
set_option maxHeartbeats 1000000 in
theorem known39_pc (σ:Store):PC Tryz.prog 5 [] σ (fun r σ'=>r=.b true∧σ'=σ):=by
 refine PC.intro Tryz.func5 c5 fun hcl hwf=>wpc_sound ?_
 have hb:bytesV []=[]:=rfl
 have hk1:kX.stamp.time=1:=rfl
 have hk2:kX.stamp.office=2:=rfl
 have hk3:kX.stamp.number=1:=rfl
 simp only [p5,SS,seval]
 simp only [VV,seval]
 refine call_eq (newI 2 (by decide) (by decide) _) rfl ?_
 simp only [Off.cells,hb,List.map_nil,VV,seval]
 intro X
 refine call_eq (entry39_pc 0 0 _) rfl ?_
 simp only [VV,seval]
 intro X
 refine call_eq (kConfirm_pc _) rfl ?_
 simp only [Off.cells,Opr.cells,Stamp.cells,En.cells,VV,seval]
 refine call_eq (newI 1 (by decide) (by decide) _) rfl ?_
 simp only [Off.cells,hb,List.map_nil,VV,seval]
 refine call_eq (kReceive_pc _) rfl ?_
 simp only [Off.cells,VV,seval]
 refine call_eq (crash_pc (putOff o1 kX 0) kPut_small rfl rfl _) rfl ?_
 simp only [Off.cells,hb,List.map_nil,VV,seval]
 refine call_eq (restart_nil (putOff o1 kX 0).number _) rfl ?_
 simp only [Off.cells,hb,List.map_nil,hk1,hk2,hk3,cellsEq,scalEq,VV,seval]
 refine callg_eq (by simp only [VV,seval]<;>rfl) (fun _=>memory_pc (putOff o1 kX 0) kPut_small rfl _) rfl ?_
 simp only [VV,seval]
 refine callg_eq (by simp only [VV,seval]<;>rfl) (fun _=>memory_pc (madeOff o2 kX 0) kMade_small rfl _) rfl ?_
 simp only [VV,seval]
 refine callg_eq (by simp only [VV,seval]<;>rfl) (fun _=>r16SameEntries_pc (memoryOf (putOff o1 kX 0).ops) (memoryOf (madeOff o2 kX 0).ops) _) rfl ?_
 have hee:ensEq (memoryOf (putOff o1 kX 0).ops) (memoryOf (madeOff o2 kX 0).ops)=true:=ensEq_iff.2 rfl
 simp only [hee,VV,seval]
 refine callg_eq (by simp only [VV,seval]<;>rfl) (fun _=>memory_pc ⟨(putOff o1 kX 0).number,0,[],[],0,false⟩ ⟨by simp,by simp,by simp⟩ rfl _) rfl ?_
 simp only [kMem,List.map_nil,V.pure,VV,seval]
 refine callg_eq (by simp only [VV,seval]<;>rfl) (fun _=>kSeen_pc _) rfl ?_
 simp only [V.pure,VV,seval]
 refine callg_eq (by simp only [VV,seval]<;>rfl) (fun _=>PC.wk (args':=[.sl 1 (([0,0,1]:List Int).map iRow),.sl 1 (([0,0,1]:List Int).map iRow)]) (Wk.cvs (.cons (.refl _) (.cons (.lit _ _) .nil))) (r3SameInts_pc [0,0,1] [0,0,1] _)) rfl ?_
 simp only [VV,seval]
 refine ret_end hcl (.inr rfl) (by simp only [RS,seval];rfl) (by simp only [LW]) ⟨?_,rfl⟩
 rfl
theorem op_snocC (n:List Opr) (o:Opr):n.map Opr.cells++[[.i .i64 o.stamp.time,.i .i64 o.stamp.office,.i .i64 o.stamp.number,.i .i64 o.kind,.sl 3 (o.entry.source.map It.cells),.sl 3 (o.entry.target.map It.cells),.s o.entry.previous,.s o.entry.next,.s o.entry.author,.s o.entry.project,.i .i64 o.entry.created,.i .i64 o.entry.origin,.sl 1 (o.seen.map iRow)]]=(n++[o]).map Opr.cells:=by
 simp [Opr.cells,Stamp.cells,En.cells]
def opB (x:Opr):Ob:=.box 35 x.cells
def ofO (o:Off):Ob:=.box 38 o.cells
theorem cl_row {σ:Store} {g:Nat} {sh:Bool} {m:List Opr} {x:Opr} (h:Closed σ):Closed (σ++[opRow g sh m,opB x]):=by
 refine closed_add h ?_
 simp [opRow,opB,op_cells_lt]
set_option maxRecDepth 4000 in
set_option maxHeartbeats 1000000 in
theorem loop3_0 {σ:Store} {K:Exit→St→Prop} (hcl:Closed σ) (order:List Int) (ops:List Opr) (i:Nat) (x:Opr) (m:List Opr) (g:Nat) (hml:m.length<2^40):∀ (rest pre:List Opr) (acc:Bool),m=pre++rest →
  (∀ j0 j2 j3 j4 j6 j9 j10 j11 j12 j13 j14 j15 j16 j17 j18 j19 j20 j21 j22 j23 j24 j25 j26 j27 j28 j29 j30 j34 j35 j36 j37 j38 j39 j40 j41 j42 j43 j44 j45 j46 j47 j48 j49 j50 j51 j52 j53 j54 j55 j56 j57 j58 j59 j60 j61 j62 j63 j64 j65 j66 j67 j68 j69 j70 j71 j72 j73 j74 j75 j76 j77 j78 j79 j80 j81 j82 j83 j84 j85 j86 j87 j88 j89 j90 j91 j92 j93 j94 j95 j96 j97 j98 j99 j100 j101 j102 j103 j104 j105 j106 j107 j108 j109 j110 j111 j112 j113 j114 j115 j116 j117 j118 j119 j120 j121 j122 j123 j124 j125 j126 j127 j128 j129 j130 j131 j132 j133 j134 j135 j136 j137 j138 j139 j140 j141 j142 j143 j144 j145 j146 j147 j148 j149 j150 j151 j152 j153 j154 j155 j156 j157 j158 j159 j160 j161 j162 j163 j164 j165 j166 j167,K (.exit 2) ⟨[j0,.sl 1 (order.map iRow),j2,j3,j4,.own σ.length g,j6,.ptr (σ.length+1) 0,.b (or acc (rest.any (sameNo x))),j9,j10,j11,j12,j13,j14,j15,j16,j17,j18,j19,j20,j21,j22,j23,j24,j25,j26,j27,j28,j29,j30,.sl 13 (ops.map Opr.cells),.i .i64 ops.length,.i .i64 i,j34,j35,j36,j37,j38,j39,j40,j41,j42,j43,j44,j45,j46,j47,j48,j49,j50,j51,j52,j53,j54,j55,j56,j57,j58,j59,j60,j61,j62,j63,j64,j65,j66,j67,j68,j69,j70,j71,j72,j73,j74,j75,j76,j77,j78,j79,j80,j81,j82,j83,j84,j85,j86,j87,j88,j89,j90,j91,j92,j93,j94,j95,j96,j97,j98,j99,j100,j101,j102,j103,j104,j105,j106,j107,j108,j109,j110,j111,j112,j113,j114,j115,j116,j117,j118,j119,j120,j121,j122,j123,j124,j125,j126,j127,j128,j129,j130,j131,j132,j133,j134,j135,j136,j137,j138,j139,j140,j141,j142,j143,j144,j145,j146,j147,j148,j149,j150,j151,j152,j153,j154,j155,j156,j157,j158,j159,j160,j161,j162,j163,j164,j165,j166,j167],σ++[opRow g false m,opB x]⟩) →
  Rnd σ.length Tryz.prog p3_0 K (rest.length+1) ⟨[.u,.sl 1 (order.map iRow),.u,.u,.u,.own σ.length g,.u,.ptr (σ.length+1) 0,.b acc,.u,.u,.u,.u,.u,.u,.u,.u,.u,.u,.u,.u,.u,.u,.u,.u,.u,.u,.u,.u,.u,.u,.sl 13 (ops.map Opr.cells),.i .i64 ops.length,.i .i64 i,.u,.u,.u,.u,.u,.u,.u,.own σ.length g,.i .i64 m.length,.i .i64 pre.length,.u,.u,.u,.u,.u,.u,.u,.u,.u,.u,.u,.u,.u,.u,.u,.u,.u,.u,.u,.u,.u,.u,.u,.u,.u,.u,.u,.u,.u,.u,.u,.u,.u,.u,.u,.u,.u,.u,.u,.u,.u,.u,.u,.u,.u,.u,.u,.u,.u,.u,.u,.u,.u,.u,.u,.u,.u,.u,.u,.u,.u,.u,.u,.u,.u,.u,.u,.u,.u,.u,.u,.u,.u,.u,.u,.u,.u,.u,.u,.u,.u,.u,.u,.u,.u,.u,.u,.u,.u,.u,.u,.u,.u,.u,.u,.u,.u,.u,.u,.u,.u,.u,.u,.u,.u,.u,.u,.u,.u,.u,.u,.u,.u,.u,.u,.u,.u,.u,.u,.u,.u,.u,.u,.u],σ++[opRow g false m,opB x]⟩:=by
 intro rest
 induction rest with
 | nil =>
  intro pre acc he h1
  have he:m=pre:=by simpa using he
  subst he
  simp only [List.any_nil,Bool.or_false] at h1
  refine rnd_step fun R hR=>?_
  simp only [p3_0,VV,seval]
  exact ⟨fun h=>by simp at h,fun _=>h1 ..⟩
 | cons y rest ih =>
  intro pre acc he h1
  have hl:m.length=pre.length+(rest.length+1):=by rw [he];simp
  have hw:IntKind.i64.wrap ((pre.length:Int)+1)=(((pre++[y]).length:Nat):Int):=by
   rw [wrap_succ (by omega)];simp
  have hat:(List.map Opr.cells m).getD pre.length []=y.cells:=by rw [he];exact row_at
  have hd:decide ((pre.length:Int)<(m.length:Int))=true:=by simp;omega
  have hs:(acc||(y::rest).any (sameNo x))=((acc||(x.stamp.office==y.stamp.office&&x.stamp.number==y.stamp.number))||rest.any (sameNo x)):=by
   rw [List.any_cons,Bool.or_assoc];rfl
  rw [hs] at h1
  refine rnd_step fun R hR=>?_
  simp only [p3_0,opRow,opB,Int.toNat_natCast,hat,hd,hw,List.length_map,Opr.cells,Stamp.cells,En.cells,VV,seval]
  refine ⟨⟨by omega,by omega⟩,hR _ (rnd_drop [opRow g false m,opB x] [_] (cl_row hcl) ?_ ?_ (ih (pre++[y]) _ (by rw [he];simp) h1))⟩
  ·repeat first | exact .nil | refine .cons (.refl _) ?_ | refine .cons (.forget _) ?_
  ·simp only [LW,List.length_cons,List.length_nil,Nat.zero_add]
   omega
set_option maxRecDepth 4000 in
set_option maxHeartbeats 1000000 in
theorem loop3_1 {σ:Store} {K:Exit→St→Prop} (hcl:Closed σ) (order:List Int) (ops:List Opr) (hlen:ops.length<2^39):∀ (rest pre m:List Opr) (g:Nat),ops=pre++rest→m.length≤pre.length →
  (∀ g,(∀ j0 j2 j3 j4 j6 j7 j8 j9 j10 j11 j12 j13 j14 j15 j16 j17 j18 j19 j20 j21 j22 j23 j24 j25 j26 j27 j28 j29 j30 j31 j32 j33 j34 j35 j36 j37 j38 j39 j40 j41 j42 j43 j44 j45 j46 j47 j48 j49 j50 j51 j52 j53 j54 j55 j56 j57 j58 j59 j60 j61 j62 j63 j64 j65 j66 j67 j68 j69 j70 j71 j72 j73 j74 j75 j76 j77 j78 j79 j80 j81 j82 j83 j84 j85 j86 j87 j88 j89 j90 j91 j92 j93 j94 j95 j96 j97 j98 j99 j100 j101 j102 j103 j104 j105 j106 j107 j108 j109 j110 j111 j112 j113 j114 j115 j116 j117 j118 j119 j120 j121 j122 j123 j124 j125 j126 j127 j128 j129 j130 j131 j132 j133 j134 j135 j136 j137 j138 j139 j140 j141 j142 j143 j144 j145 j146 j147 j148 j149 j150 j151 j152 j153 j154 j155 j156 j157 j158 j159 j160 j161 j162 j163 j164 j165 j166 j167,K (.exit 0) ⟨[j0,.sl 1 (order.map iRow),j2,j3,j4,.own σ.length g,j6,j7,j8,j9,j10,j11,j12,j13,j14,j15,j16,j17,j18,j19,j20,j21,j22,j23,j24,j25,j26,j27,j28,j29,j30,j31,j32,j33,j34,j35,j36,j37,j38,j39,j40,j41,j42,j43,j44,j45,j46,j47,j48,j49,j50,j51,j52,j53,j54,j55,j56,j57,j58,j59,j60,j61,j62,j63,j64,j65,j66,j67,j68,j69,j70,j71,j72,j73,j74,j75,j76,j77,j78,j79,j80,j81,j82,j83,j84,j85,j86,j87,j88,j89,j90,j91,j92,j93,j94,j95,j96,j97,j98,j99,j100,j101,j102,j103,j104,j105,j106,j107,j108,j109,j110,j111,j112,j113,j114,j115,j116,j117,j118,j119,j120,j121,j122,j123,j124,j125,j126,j127,j128,j129,j130,j131,j132,j133,j134,j135,j136,j137,j138,j139,j140,j141,j142,j143,j144,j145,j146,j147,j148,j149,j150,j151,j152,j153,j154,j155,j156,j157,j158,j159,j160,j161,j162,j163,j164,j165,j166,j167],σ++[opRow g false (rest.foldl keepM m)]⟩)) →
  Rnd σ.length Tryz.prog p3_1 K (rest.length+1) ⟨[.u,.sl 1 (order.map iRow),.u,.u,.u,.own σ.length g,.u,.u,.u,.u,.u,.u,.u,.u,.u,.u,.u,.u,.u,.u,.u,.u,.u,.u,.u,.u,.u,.u,.u,.u,.u,.sl 13 (ops.map Opr.cells),.i .i64 ops.length,.i .i64 pre.length,.u,.u,.u,.u,.u,.u,.u,.u,.u,.u,.u,.u,.u,.u,.u,.u,.u,.u,.u,.u,.u,.u,.u,.u,.u,.u,.u,.u,.u,.u,.u,.u,.u,.u,.u,.u,.u,.u,.u,.u,.u,.u,.u,.u,.u,.u,.u,.u,.u,.u,.u,.u,.u,.u,.u,.u,.u,.u,.u,.u,.u,.u,.u,.u,.u,.u,.u,.u,.u,.u,.u,.u,.u,.u,.u,.u,.u,.u,.u,.u,.u,.u,.u,.u,.u,.u,.u,.u,.u,.u,.u,.u,.u,.u,.u,.u,.u,.u,.u,.u,.u,.u,.u,.u,.u,.u,.u,.u,.u,.u,.u,.u,.u,.u,.u,.u,.u,.u,.u,.u,.u,.u,.u,.u,.u,.u,.u,.u,.u,.u,.u,.u,.u,.u],σ++[opRow g false m]⟩:=by
 intro rest
 induction rest with
 | nil =>
  intro pre m g he hm h1
  have he:ops=pre:=by simpa using he
  subst he
  refine rnd_step fun R hR=>?_
  simp only [p3_1,VV,seval]
  exact ⟨fun h=>by simp at h,fun _=>h1 g ..⟩
 | cons x rest ih =>
  intro pre m g he hm h1
  have hl:ops.length=pre.length+(rest.length+1):=by rw [he];simp
  have hw:IntKind.i64.wrap ((pre.length:Int)+1)=(((pre++[x]).length:Nat):Int):=by
   rw [wrap_succ (by omega)];simp
  have hat:(List.map Opr.cells ops).getD pre.length []=x.cells:=by rw [he];exact row_at
  have hd:decide ((pre.length:Int)<(ops.length:Int))=true:=by simp;omega
  have hk:=keepM_len m x
  rw [List.foldl_cons] at h1
  have next:=ih (pre++[x]) (keepM m x)
  refine rnd_step fun R hR=>?_
  simp only [p3_1,opRow,Int.toNat_natCast,hat,hd,List.length_map,Opr.cells,Stamp.cells,En.cells,VV,seval]
  refine ⟨⟨by omega,by omega⟩,?_⟩
  refine PWc.rnd_cvs (fr':=[.u,.sl 1 (order.map iRow),.u,.u,.u,.own σ.length g,.u,.ptr (σ.length+1) 0,.b (x.stamp.office==0),.u,.u,.u,.u,.u,.u,.u,.u,.u,.u,.u,.u,.u,.u,.u,.u,.u,.u,.u,.u,.u,.u,.sl 13 (ops.map Opr.cells),.i .i64 ops.length,.i .i64 pre.length,.u,.u,.u,.u,.u,.u,.u,.own σ.length g,.i .i64 m.length,.i .i64 (([]:List Opr).length:Nat),.u,.u,.u,.u,.u,.u,.u,.u,.u,.u,.u,.u,.u,.u,.u,.u,.u,.u,.u,.u,.u,.u,.u,.u,.u,.u,.u,.u,.u,.u,.u,.u,.u,.u,.u,.u,.u,.u,.u,.u,.u,.u,.u,.u,.u,.u,.u,.u,.u,.u,.u,.u,.u,.u,.u,.u,.u,.u,.u,.u,.u,.u,.u,.u,.u,.u,.u,.u,.u,.u,.u,.u,.u,.u,.u,.u,.u,.u,.u,.u,.u,.u,.u,.u,.u,.u,.u,.u,.u,.u,.u,.u,.u,.u,.u,.u,.u,.u,.u,.u,.u,.u,.u,.u,.u,.u,.u,.u,.u,.u,.u,.u,.u,.u,.u,.u,.u,.u,.u,.u,.u,.u,.u,.u]) (by repeat first | exact .nil | refine .cons (.refl _) ?_ | refine .cons (.forget _) ?_) (m.length+1) (loop3_0 hcl order ops pre.length x m g (by omega) m [] (x.stamp.office==0) rfl ?_)
  intros
  simp only [opRow,opB,Opr.cells,Stamp.cells,En.cells,hw,VV,seval]
  have hml:(m.length+1)*184≤2^47∧m.length+1≤maxLen:=by simp only [maxLen];omega
  refine ⟨fun h=>⟨by simpa using hml,?_⟩,fun h=>?_⟩
  ·have e:keepM m x=m++[x]:=if_neg (by simpa using h)
   rw [e] at h1
   rw [op_snocC]
   refine hR _ (rnd_drop [opRow (g+1) false (m++[x])] [opB x] (closed_add hcl (by simp [opRow])) ?_ ?_ (ih (pre++[x]) (m++[x]) (g+1) (by rw [he];simp) (by simp;omega) h1))
   ·repeat first | exact .nil | refine .cons (.refl _) ?_ | refine .cons (.forget _) ?_
   ·simp only [LW,List.length_cons,List.length_nil,Nat.zero_add]
    omega
  ·have e:keepM m x=m:=if_pos (by cases hq:(x.stamp.office==0||m.any (sameNo x)) with | true=>rfl | false=>rw [hq] at h;cases h)
   rw [e] at h1
   refine hR _ (rnd_drop [opRow g false m] [opB x] (closed_add hcl (by simp [opRow])) ?_ ?_ (ih (pre++[x]) m g (by rw [he];simp) (by simp;omega) h1))
   ·repeat first | exact .nil | refine .cons (.refl _) ?_ | refine .cons (.forget _) ?_
   ·simp only [LW,List.length_cons,List.length_nil,Nat.zero_add]
    omega
theorem off_cells_lt (n:Nat) (o:Off):AllLt n o.cells:=by
 simp only [Off.cells,LW]
theorem cl_off {σ:Store} {a b:Off} (h:Closed σ):Closed (σ++[ofO a,ofO b]):=by
 refine closed_add h ?_
 simp [ofO,off_cells_lt]
set_option maxRecDepth 4000 in
set_option maxHeartbeats 1000000 in
theorem loop3_2 {σ:Store} {K:Exit→St→Prop} (hcl:Closed σ) (order:List Int) (m:List Opr) (hM:Pool m) (b:Off):∀ (rest pre:List Opr) (a:Off),m=pre++rest→Recv m a →
  (∀ j0 j2 j3 j4 j6 j7 j8 j9 j10 j12 j14 j15 j16 j17 j18 j19 j20 j21 j22 j23 j24 j25 j26 j27 j28 j29 j30 j31 j32 j33 j34 j35 j36 j37 j38 j39 j40 j41 j42 j43 j44 j45 j46 j47 j48 j49 j50 j51 j52 j53 j54 j55 j56 j57 j58 j59 j60 j61 j62 j63 j64 j65 j66 j67 j68 j69 j70 j71 j72 j73 j74 j75 j76 j77 j78 j79 j80 j81 j82 j83 j84 j85 j86 j87 j88 j89 j90 j91 j92 j93 j94 j95 j96 j97 j98 j99 j100 j101 j102 j103 j104 j105 j106 j107 j108 j109 j110 j111 j112 j113 j114 j115 j116 j117 j118 j119 j120 j121 j122 j123 j124 j125 j126 j127 j128 j129 j130 j131 j132 j133 j134 j135 j136 j137 j138 j139 j140 j141 j142 j143 j144 j145 j146 j147 j148 j149 j150 j151 j152 j153 j154 j155 j156 j157 j158 j159 j160 j161 j162 j163 j164 j165 j166 j167,K (.exit 4) ⟨[j0,.sl 1 (order.map iRow),j2,j3,j4,.sl 13 (m.map Opr.cells),j6,j7,j8,j9,j10,.ptr σ.length 0,j12,.ptr (σ.length+1) 0,j14,j15,j16,j17,j18,j19,j20,j21,j22,j23,j24,j25,j26,j27,j28,j29,j30,j31,j32,j33,j34,j35,j36,j37,j38,j39,j40,j41,j42,j43,j44,j45,j46,j47,j48,j49,j50,j51,j52,j53,j54,j55,j56,j57,j58,j59,j60,j61,j62,j63,j64,j65,j66,j67,j68,j69,j70,j71,j72,j73,j74,j75,j76,j77,j78,j79,j80,j81,j82,j83,j84,j85,j86,j87,j88,j89,j90,j91,j92,j93,j94,j95,j96,j97,j98,j99,j100,j101,j102,j103,j104,j105,j106,j107,j108,j109,j110,j111,j112,j113,j114,j115,j116,j117,j118,j119,j120,j121,j122,j123,j124,j125,j126,j127,j128,j129,j130,j131,j132,j133,j134,j135,j136,j137,j138,j139,j140,j141,j142,j143,j144,j145,j146,j147,j148,j149,j150,j151,j152,j153,j154,j155,j156,j157,j158,j159,j160,j161,j162,j163,j164,j165,j166,j167],σ++[ofO (rest.foldl recvO a),ofO b]⟩) →
  Rnd σ.length Tryz.prog p3_2 K (rest.length+1) ⟨[.u,.sl 1 (order.map iRow),.u,.u,.u,.sl 13 (m.map Opr.cells),.u,.u,.u,.u,.u,.ptr σ.length 0,.u,.ptr (σ.length+1) 0,.u,.u,.u,.u,.u,.u,.u,.u,.u,.u,.u,.u,.u,.u,.u,.u,.u,.u,.u,.u,.u,.u,.u,.u,.u,.u,.u,.u,.u,.u,.u,.u,.u,.u,.u,.u,.u,.u,.u,.u,.u,.u,.u,.u,.u,.u,.u,.u,.u,.u,.u,.u,.u,.u,.u,.u,.u,.u,.u,.u,.u,.u,.u,.u,.u,.u,.u,.u,.sl 13 (m.map Opr.cells),.i .i64 m.length,.i .i64 pre.length,.u,.u,.u,.u,.u,.u,.u,.u,.u,.u,.u,.u,.u,.u,.u,.u,.u,.u,.u,.u,.u,.u,.u,.u,.u,.u,.u,.u,.u,.u,.u,.u,.u,.u,.u,.u,.u,.u,.u,.u,.u,.u,.u,.u,.u,.u,.u,.u,.u,.u,.u,.u,.u,.u,.u,.u,.u,.u,.u,.u,.u,.u,.u,.u,.u,.u,.u,.u,.u,.u,.u,.u,.u,.u,.u,.u,.u,.u,.u,.u,.u,.u,.u],σ++[ofO a,ofO b]⟩:=by
 intro rest
 induction rest with
 | nil =>
  intro pre a he ha h1
  have he:m=pre:=by simpa using he
  refine rnd_step fun R hR=>?_
  simp only [p3_2,he,VV,seval]
  rw [he] at h1
  exact ⟨fun h=>by simp at h,fun _=>h1 ..⟩
 | cons x rest ih =>
  intro pre a he ha h1
  have hml:=hM.len
  have hx:x∈m:=by rw [he];simp
  have hl:m.length=pre.length+(rest.length+1):=by rw [he];simp
  have hw:IntKind.i64.wrap ((pre.length:Int)+1)=(((pre++[x]).length:Nat):Int):=by
   rw [wrap_succ (by omega)];simp
  have hat:(List.map Opr.cells m).getD pre.length []=x.cells:=by rw [he];exact row_at
  have hd:decide ((pre.length:Int)<(m.length:Int))=true:=by simp;omega
  rw [List.foldl_cons] at h1
  refine rnd_step fun R hR=>?_
  simp only [p3_2,ofO,Off.cells,Int.toNat_natCast,hat,hd,List.length_map,Opr.cells,Stamp.cells,En.cells,VV,seval]
  refine ⟨⟨by omega,by omega⟩,?_⟩
  refine call_eq (receive_any hM ha hx _) rfl ?_
  simp only [Off.cells,hw,VV,seval]
  refine hR _ (rnd_drop [ofO (recvO a x),ofO b] [_,_] (cl_off hcl) ?_ ?_ (ih (pre++[x]) (recvO a x) (by rw [he];simp) (recv_inv hM ha hx) h1))
  ·repeat first | exact .nil | refine .cons (.refl _) ?_ | refine .cons (.forget _) ?_
  ·simp only [LW,List.length_cons,List.length_nil,Nat.zero_add]
   omega
set_option maxRecDepth 4000 in
set_option maxHeartbeats 1000000 in
theorem loop3_3 {σ:Store} {K:Exit→St→Prop} (hcl:Closed σ) (order:List Int) (hlen:order.length<2^63) (m:List Opr) (hM:Pool m) (a:Off):∀ (rest pre:List Int) (b:Off),order=pre++rest→Recv m b →
  (∀ j0 j1 j2 j3 j4 j6 j7 j8 j9 j10 j12 j14 j15 j16 j17 j18 j19 j20 j21 j22 j23 j24 j25 j26 j27 j28 j29 j30 j31 j32 j33 j34 j35 j36 j37 j38 j39 j40 j41 j42 j43 j44 j45 j46 j47 j48 j49 j50 j51 j52 j53 j54 j55 j56 j57 j58 j59 j60 j61 j62 j63 j64 j65 j66 j67 j68 j69 j70 j71 j72 j73 j74 j75 j76 j77 j78 j79 j80 j81 j82 j83 j84 j85 j86 j87 j88 j89 j90 j91 j92 j93 j94 j95 j96 j97 j98 j99 j100 j101 j102 j103 j104 j105 j106 j107 j108 j109 j110 j111 j112 j113 j114 j115 j116 j117 j118 j119 j120 j121 j122 j123 j124 j125 j126 j127 j128 j129 j130 j131 j132 j133 j134 j135 j136 j137 j138 j139 j140 j141 j142 j143 j144 j145 j146 j147 j148 j149 j150 j151 j152 j153 j154 j155 j156 j157 j158 j159 j160 j161 j162 j163 j164 j165 j166 j167,K (.exit 6) ⟨[j0,j1,j2,j3,j4,.sl 13 (m.map Opr.cells),j6,j7,j8,j9,j10,.ptr σ.length 0,j12,.ptr (σ.length+1) 0,j14,j15,j16,j17,j18,j19,j20,j21,j22,j23,j24,j25,j26,j27,j28,j29,j30,j31,j32,j33,j34,j35,j36,j37,j38,j39,j40,j41,j42,j43,j44,j45,j46,j47,j48,j49,j50,j51,j52,j53,j54,j55,j56,j57,j58,j59,j60,j61,j62,j63,j64,j65,j66,j67,j68,j69,j70,j71,j72,j73,j74,j75,j76,j77,j78,j79,j80,j81,j82,j83,j84,j85,j86,j87,j88,j89,j90,j91,j92,j93,j94,j95,j96,j97,j98,j99,j100,j101,j102,j103,j104,j105,j106,j107,j108,j109,j110,j111,j112,j113,j114,j115,j116,j117,j118,j119,j120,j121,j122,j123,j124,j125,j126,j127,j128,j129,j130,j131,j132,j133,j134,j135,j136,j137,j138,j139,j140,j141,j142,j143,j144,j145,j146,j147,j148,j149,j150,j151,j152,j153,j154,j155,j156,j157,j158,j159,j160,j161,j162,j163,j164,j165,j166,j167],σ++[ofO a,ofO ((picks m rest).foldl recvO b)]⟩) →
  Rnd σ.length Tryz.prog p3_3 K (rest.length+1) ⟨[.u,.u,.u,.u,.u,.sl 13 (m.map Opr.cells),.u,.u,.u,.u,.u,.ptr σ.length 0,.u,.ptr (σ.length+1) 0,.u,.u,.u,.u,.u,.u,.u,.u,.u,.u,.u,.u,.u,.u,.u,.u,.u,.u,.u,.u,.u,.u,.u,.u,.u,.u,.u,.u,.u,.u,.u,.u,.u,.u,.u,.u,.u,.u,.u,.u,.u,.u,.u,.u,.u,.u,.u,.u,.u,.u,.u,.u,.u,.u,.u,.u,.u,.u,.u,.u,.u,.u,.u,.u,.u,.u,.u,.u,.u,.u,.u,.u,.u,.u,.u,.u,.u,.u,.u,.u,.u,.u,.u,.u,.sl 1 (order.map iRow),.i .i64 order.length,.i .i64 pre.length,.u,.u,.u,.u,.u,.u,.u,.u,.u,.u,.u,.u,.u,.u,.u,.u,.u,.u,.u,.u,.u,.u,.u,.u,.u,.u,.u,.u,.u,.u,.u,.u,.u,.u,.u,.u,.u,.u,.u,.u,.u,.u,.u,.u,.u,.u,.u,.u,.u,.u,.u,.u,.u,.u,.u,.u,.u,.u,.u,.u,.u,.u,.u,.u,.u,.u,.u],σ++[ofO a,ofO b]⟩:=by
 intro rest
 induction rest with
 | nil =>
  intro pre b he hb h1
  have he:order=pre:=by simpa using he
  have e:picks m []=[]:=by simp [picks]
  rw [e] at h1
  subst he
  refine rnd_step fun R hR=>?_
  simp only [p3_3,VV,seval]
  exact ⟨fun h=>by simp at h,fun _=>h1 ..⟩
 | cons i rest ih =>
  intro pre b he hb h1
  have hml:=hM.len
  have hl:order.length=pre.length+(rest.length+1):=by rw [he];simp
  have hw:IntKind.i64.wrap ((pre.length:Int)+1)=(((pre++[i]).length:Nat):Int):=by
   rw [wrap_succ (by omega)];simp
  have hat:at2 (List.map iRow order) pre.length 0=some (.i .i64 i):=by rw [he];exact at2_at
  have hd:decide ((pre.length:Int)<(order.length:Int))=true:=by simp;omega
  refine rnd_step fun R hR=>?_
  simp only [p3_3,ofO,Off.cells,Int.toNat_natCast,hat,hd,hw,List.length_map,VV,seval]
  refine ⟨⟨by omega,by omega⟩,fun h=>?_,fun h=>?_⟩
  ·have h0:0<m.length:=by have:=of_decide_eq_true h;omega
   have e:picks m (i::rest)=m.getD (place i m.length).toNat zeroOp::picks m rest:=by
    simp only [picks,List.map_cons,if_neg (show ¬ m.length=0 by omega)]
   have hr:=place_range (x:=i) (n:=(m.length:Int)) (by omega)
   have hmem:=pick_mem (m:=m) (by omega) i
   have hrow:(m.map Opr.cells).getD (place i m.length).toNat []=(m.getD (place i m.length).toNat zeroOp).cells:=by
    simp [List.getD_eq_getElem?_getD,show (place i m.length).toNat<m.length by omega]
   generalize m.getD (place i m.length).toNat zeroOp=y at e hmem hrow
   rw [e,List.foldl_cons] at h1
   refine call_eq (place_pc i m.length (by omega) (by omega) _) rfl ?_
   simp only [hrow,List.length_map,Opr.cells,Stamp.cells,En.cells,VV,seval]
   refine ⟨⟨by omega,by omega⟩,?_⟩
   refine call_eq (receive_any hM hb hmem _) rfl ?_
   simp only [Off.cells,hw,VV,seval]
   refine hR _ (rnd_cvs (fr':=[.u,.u,.u,.u,.u,.sl 13 (m.map Opr.cells),.u,.u,.u,.u,.u,.ptr σ.length 0,.u,.ptr (σ.length+1) 0,.u,.u,.u,.u,.u,.u,.u,.u,.u,.u,.u,.u,.u,.u,.u,.u,.u,.u,.u,.u,.u,.u,.u,.u,.u,.u,.u,.u,.u,.u,.u,.u,.u,.u,.u,.u,.u,.u,.u,.u,.u,.u,.u,.u,.u,.u,.u,.u,.u,.u,.u,.u,.u,.u,.u,.u,.u,.u,.u,.u,.u,.u,.u,.u,.u,.u,.u,.u,.u,.u,.u,.u,.u,.u,.u,.u,.u,.u,.u,.u,.u,.u,.u,.u,.sl 1 (order.map iRow),.i .i64 order.length,.i .i64 (pre++[i]).length,.u,.u,.u,.u,.u,.u,.u,.u,.u,.u,.u,.u,.u,.u,.u,.u,.u,.u,.u,.u,.u,.u,.u,.u,.u,.u,.u,.u,.u,.u,.u,.u,.u,.u,.u,.u,.u,.u,.u,.u,.u,.u,.u,.u,.u,.u,.u,.u,.u,.u,.u,.u,.u,.u,.u,.u,.u,.u,.u,.u,.u,.u,.u,.u,.u,.u,.u]) ?_ (ih (pre++[i]) (recvO b y) (by rw [he];simp) (recv_inv hM hb hmem) h1))
   repeat first | exact .nil | refine .cons (.refl _) ?_ | refine .cons (.forget _) ?_
  ·have h0:m.length=0:=by have:=of_decide_eq_false h;omega
   have e:picks m (i::rest)=picks m rest:=by simp only [picks,if_pos h0]
   rw [e] at h1
   refine hR _ (rnd_cvs (fr':=[.u,.u,.u,.u,.u,.sl 13 (m.map Opr.cells),.u,.u,.u,.u,.u,.ptr σ.length 0,.u,.ptr (σ.length+1) 0,.u,.u,.u,.u,.u,.u,.u,.u,.u,.u,.u,.u,.u,.u,.u,.u,.u,.u,.u,.u,.u,.u,.u,.u,.u,.u,.u,.u,.u,.u,.u,.u,.u,.u,.u,.u,.u,.u,.u,.u,.u,.u,.u,.u,.u,.u,.u,.u,.u,.u,.u,.u,.u,.u,.u,.u,.u,.u,.u,.u,.u,.u,.u,.u,.u,.u,.u,.u,.u,.u,.u,.u,.u,.u,.u,.u,.u,.u,.u,.u,.u,.u,.u,.u,.sl 1 (order.map iRow),.i .i64 order.length,.i .i64 (pre++[i]).length,.u,.u,.u,.u,.u,.u,.u,.u,.u,.u,.u,.u,.u,.u,.u,.u,.u,.u,.u,.u,.u,.u,.u,.u,.u,.u,.u,.u,.u,.u,.u,.u,.u,.u,.u,.u,.u,.u,.u,.u,.u,.u,.u,.u,.u,.u,.u,.u,.u,.u,.u,.u,.u,.u,.u,.u,.u,.u,.u,.u,.u,.u,.u,.u,.u,.u,.u]) ?_ (ih (pre++[i]) b (by rw [he];simp) hb h1))
   repeat first | exact .nil | refine .cons (.refl _) ?_ | refine .cons (.forget _) ?_
set_option maxRecDepth 4000 in
set_option maxHeartbeats 1000000 in
theorem loop3_4 {σ:Store} {K:Exit→St→Prop} (hcl:Closed σ) (m:List Opr) (hM:Pool m) (a:Off):∀ (j:Nat) (b:Off),j≤m.length→Recv m b →
  (∀ j0 j1 j2 j3 j4 j5 j6 j7 j8 j9 j10 j12 j14 j15 j16 j17 j18 j19 j20 j21 j22 j23 j24 j25 j26 j27 j28 j29 j30 j31 j32 j33 j34 j35 j36 j37 j38 j39 j40 j41 j42 j43 j44 j45 j46 j47 j48 j49 j50 j51 j52 j53 j54 j55 j56 j57 j58 j59 j60 j61 j62 j63 j64 j65 j66 j67 j68 j69 j70 j71 j72 j73 j74 j75 j76 j77 j78 j79 j80 j81 j82 j83 j84 j85 j86 j87 j88 j89 j90 j91 j92 j93 j94 j95 j96 j97 j98 j99 j100 j101 j102 j103 j104 j105 j106 j107 j108 j109 j110 j111 j112 j113 j114 j115 j116 j117 j118 j119 j120 j121 j122 j123 j124 j125 j126 j127 j128 j129 j130 j131 j132 j133 j134 j135 j136 j137 j138 j139 j140 j141 j142 j143 j144 j145 j146 j147 j148 j149 j150 j151 j152 j153 j154 j155 j156 j157 j158 j159 j160 j161 j162 j163 j164 j165 j166 j167,K (.exit 8) ⟨[j0,j1,j2,j3,j4,j5,j6,j7,j8,j9,j10,.ptr σ.length 0,j12,.ptr (σ.length+1) 0,j14,j15,j16,j17,j18,j19,j20,j21,j22,j23,j24,j25,j26,j27,j28,j29,j30,j31,j32,j33,j34,j35,j36,j37,j38,j39,j40,j41,j42,j43,j44,j45,j46,j47,j48,j49,j50,j51,j52,j53,j54,j55,j56,j57,j58,j59,j60,j61,j62,j63,j64,j65,j66,j67,j68,j69,j70,j71,j72,j73,j74,j75,j76,j77,j78,j79,j80,j81,j82,j83,j84,j85,j86,j87,j88,j89,j90,j91,j92,j93,j94,j95,j96,j97,j98,j99,j100,j101,j102,j103,j104,j105,j106,j107,j108,j109,j110,j111,j112,j113,j114,j115,j116,j117,j118,j119,j120,j121,j122,j123,j124,j125,j126,j127,j128,j129,j130,j131,j132,j133,j134,j135,j136,j137,j138,j139,j140,j141,j142,j143,j144,j145,j146,j147,j148,j149,j150,j151,j152,j153,j154,j155,j156,j157,j158,j159,j160,j161,j162,j163,j164,j165,j166,j167],σ++[ofO a,ofO ((m.take j).reverse.foldl recvO b)]⟩) →
  Rnd σ.length Tryz.prog p3_4 K (j+1) ⟨[.u,.u,.u,.u,.u,.sl 13 (m.map Opr.cells),.u,.u,.u,.u,.u,.ptr σ.length 0,.u,.ptr (σ.length+1) 0,.u,.u,.u,.u,.u,.u,.u,.i .i64 ((j:Int) - 1),.u,.u,.u,.u,.u,.u,.u,.u,.u,.u,.u,.u,.u,.u,.u,.u,.u,.u,.u,.u,.u,.u,.u,.u,.u,.u,.u,.u,.u,.u,.u,.u,.u,.u,.u,.u,.u,.u,.u,.u,.u,.u,.u,.u,.u,.u,.u,.u,.u,.u,.u,.u,.u,.u,.u,.u,.u,.u,.u,.u,.u,.u,.u,.u,.u,.u,.u,.u,.u,.u,.u,.u,.u,.u,.u,.u,.u,.u,.u,.u,.u,.u,.u,.u,.u,.u,.u,.u,.u,.u,.u,.u,.u,.u,.u,.u,.u,.u,.u,.u,.u,.u,.u,.u,.u,.u,.u,.u,.u,.u,.u,.u,.u,.u,.u,.u,.u,.u,.u,.u,.u,.u,.u,.u,.u,.u,.u,.u,.u,.u,.u,.u,.u,.u,.u,.u,.u,.u,.u,.u,.u,.u,.u,.u,.u,.u],σ++[ofO a,ofO b]⟩:=by
 intro j
 induction j with
 | zero =>
  intro b hj hb h1
  have e1:decide ((0:Int)≤((0:Nat):Int) - 1)=false:=rfl
  simp only [List.take_zero,List.reverse_nil,List.foldl_nil] at h1
  refine rnd_step fun R hR=>?_
  simp only [p3_4,e1,VV,Nat.reduceAdd,reduceIte,reduceCtorEq]
  exact h1 ..
 | succ j ih =>
  intro b hj hb h1
  have hml:=hM.len
  have hjl:j<m.length:=by omega
  have e0:((j+1:Nat):Int) - 1=(j:Int):=by omega
  have hw:IntKind.i64.wrap ((j:Int) - 1)=(j:Int) - 1:=IntWalk.i64_in _ (by omega)
  have hd:decide ((0:Int)≤(j:Int))=true:=by simp
  have hrow:(m.map Opr.cells).getD j []=m[j].cells:=by simp [List.getD_eq_getElem?_getD,hjl]
  rw [List.take_succ_eq_append_getElem hjl,List.reverse_append,List.reverse_cons,List.reverse_nil,List.nil_append,List.singleton_append,List.foldl_cons] at h1
  rw [e0]
  refine rnd_step fun R hR=>?_
  simp only [p3_4,ofO,Off.cells,Int.toNat_natCast,hd,hrow,Opr.cells,Stamp.cells,En.cells,List.length_map,VV,Nat.reduceAdd,reduceIte,reduceCtorEq]
  refine ⟨⟨by omega,by omega⟩,fun X=>?_⟩
  refine call_eq (receive_any hM hb (List.getElem_mem hjl) _) rfl ?_
  simp only [Off.cells,hw,VV,Int.reduceBNe,Nat.reduceAdd,reduceIte,reduceCtorEq]
  refine hR _ (rnd_drop [ofO a,ofO (recvO b m[j])] [_] (cl_off hcl) ?_ ?_ (ih (recvO b m[j]) (by omega) (recv_inv hM hb (List.getElem_mem hjl)) h1))
  ·repeat first | exact .nil | refine .cons (.refl _) ?_ | refine .cons (.forget _) ?_
  ·simp only [LW,List.length_cons,List.length_nil,Nat.zero_add]
   omega
set_option maxRecDepth 20000 in
set_option maxHeartbeats 4000000 in
theorem replicaCommutes_pc (l order:List Int) (σ:Store):PC Tryz.prog 3 [.sl 1 (l.map iRow),.sl 1 (order.map iRow)] σ (fun r σ'=>r=.b true∧σ'=σ):=by
 refine PC.intro Tryz.func3 c3 fun hcl hwf=>?_
 have hlen:=wf_sl (hwf 1 _ rfl).1
 rw [List.length_map] at hlen
 simp only [p3,SS,seval]
 refine PWc.cut fun R hR=>?_
 simp only [VV]
 refine hR _ ?_
 clear hR R
 refine PWc.cut fun R hR=>?_
 simp only [V.pure,VV]
 refine call_cv (zs:=[.sl 1 ([l,order].map liRow)]) (.cons (.lit _ _) .nil) (long_pc [l,order] _) ?_
 simp only [VV]
 refine ⟨fun _=>?_,fun _=>?_⟩
 ·refine call_eq (known39_pc _) rfl ?_
  simp only [VV]
  exact ret_end0 (.inr rfl) (by simp only [RS];rfl) ⟨rfl,rfl⟩
 refine hR _ (PWc.cvs (fr':=[.sl 1 (l.map iRow),.sl 1 (order.map iRow),.u,.u,.u,.u,.u,.u,.u,.u,.u,.u,.u,.u,.u,.u,.u,.u,.u,.u,.u,.u,.u,.u,.u,.u,.u,.u,.u,.u,.u,.u,.u,.u,.u,.u,.u,.u,.u,.u,.u,.u,.u,.u,.u,.u,.u,.u,.u,.u,.u,.u,.u,.u,.u,.u,.u,.u,.u,.u,.u,.u,.u,.u,.u,.u,.u,.u,.u,.u,.u,.u,.u,.u,.u,.u,.u,.u,.u,.u,.u,.u,.u,.u,.u,.u,.u,.u,.u,.u,.u,.u,.u,.u,.u,.u,.u,.u,.u,.u,.u,.u,.u,.u,.u,.u,.u,.u,.u,.u,.u,.u,.u,.u,.u,.u,.u,.u,.u,.u,.u,.u,.u,.u,.u,.u,.u,.u,.u,.u,.u,.u,.u,.u,.u,.u,.u,.u,.u,.u,.u,.u,.u,.u,.u,.u,.u,.u,.u,.u,.u,.u,.u,.u,.u,.u,.u,.u,.u,.u,.u,.u,.u,.u,.u,.u,.u,.u]) ?_ (by repeat first | exact .nil | refine .cons (.refl _) ?_ | refine .cons (.forget _) ?_))
 clear hR R
 refine PWc.cut fun R hR=>?_
 simp only [VV]
 refine hR _ ?_
 clear hR R
 refine PWc.cut fun R hR=>?_
 simp only [VV]
 refine call_eq (from_pc l _) rfl ?_
 simp only [VV]
 rw [nst_new]
 refine call_ex (ops_pc (σ++[.dead]) σ.length (by simp) l 0 (by decide) 10 (by decide)) rfl ?_
 rintro _ _ ⟨ops,k',rfl,ho,hol,rfl⟩
 rw [← nst_new]
 simp only [List.length_map,VV]
 have hM:Pool (poolOf ops):=pool_of ho hol
 obtain ⟨ra,rb,e1,e2⟩:=commute_same hM order
 have hml:=hM.len
 have hl1:AllLt σ.length [.u,.sl 1 (order.map iRow),.u,.u,.u,.nil,.u,.u,.u,.u,.u,.u,.u,.u,.u,.u,.u,.u,.u,.u,.u,.u,.u,.u,.u,.u,.u,.u,.u,.u,.u,.sl 13 (ops.map Opr.cells),.i .i64 ops.length,.i .i64 (([]:List Opr).length:Nat),.u,.u,.u,.u,.u,.u,.u,.u,.u,.u,.u,.u,.u,.u,.u,.u,.u,.u,.u,.u,.u,.u,.u,.u,.u,.u,.u,.u,.u,.u,.u,.u,.u,.u,.u,.u,.u,.u,.u,.u,.u,.u,.u,.u,.u,.u,.u,.u,.u,.u,.u,.u,.u,.u,.u,.u,.u,.u,.u,.u,.u,.u,.u,.u,.u,.u,.u,.u,.u,.u,.u,.u,.u,.u,.u,.u,.u,.u,.u,.u,.u,.u,.u,.u,.u,.u,.u,.u,.u,.u,.u,.u,.u,.u,.u,.u,.u,.u,.u,.u,.u,.u,.u,.u,.u,.u,.u,.u,.u,.u,.u,.u,.u,.u,.u,.u,.u,.u,.u,.u,.u,.u,.u,.u,.u,.u,.u,.u,.u,.u,.u,.u,.u,.u]:=by simp only [LW]
 refine PWc.wk ((((Wk.cvs (ys:=[.u,.sl 1 (order.map iRow),.u,.u,.u,.nil,.u,.u,.u,.u,.u,.u,.u,.u,.u,.u,.u,.u,.u,.u,.u,.u,.u,.u,.u,.u,.u,.u,.u,.u,.u,.sl 13 (ops.map Opr.cells),.i .i64 ops.length,.i .i64 (([]:List Opr).length:Nat),.u,.u,.u,.u,.u,.u,.u,.u,.u,.u,.u,.u,.u,.u,.u,.u,.u,.u,.u,.u,.u,.u,.u,.u,.u,.u,.u,.u,.u,.u,.u,.u,.u,.u,.u,.u,.u,.u,.u,.u,.u,.u,.u,.u,.u,.u,.u,.u,.u,.u,.u,.u,.u,.u,.u,.u,.u,.u,.u,.u,.u,.u,.u,.u,.u,.u,.u,.u,.u,.u,.u,.u,.u,.u,.u,.u,.u,.u,.u,.u,.u,.u,.u,.u,.u,.u,.u,.u,.u,.u,.u,.u,.u,.u,.u,.u,.u,.u,.u,.u,.u,.u,.u,.u,.u,.u,.u,.u,.u,.u,.u,.u,.u,.u,.u,.u,.u,.u,.u,.u,.u,.u,.u,.u,.u,.u,.u,.u,.u,.u,.u,.u,.u,.u]) (by repeat first | exact .nil | refine .cons (.refl _) ?_ | refine .cons (.forget _) ?_)).trans (Wk.drop0 (Nat.le_refl _) hcl (allLt_iff.1 hl1))).trans (Wk.promote (P:=Tryz.prog) (k:=5) ti_opR rfl)).trans (Wk.cvs (ys:=[.u,.sl 1 (order.map iRow),.u,.u,.u,.own σ.length 0,.u,.u,.u,.u,.u,.u,.u,.u,.u,.u,.u,.u,.u,.u,.u,.u,.u,.u,.u,.u,.u,.u,.u,.u,.u,.sl 13 (ops.map Opr.cells),.i .i64 ops.length,.i .i64 (([]:List Opr).length:Nat),.u,.u,.u,.u,.u,.u,.u,.u,.u,.u,.u,.u,.u,.u,.u,.u,.u,.u,.u,.u,.u,.u,.u,.u,.u,.u,.u,.u,.u,.u,.u,.u,.u,.u,.u,.u,.u,.u,.u,.u,.u,.u,.u,.u,.u,.u,.u,.u,.u,.u,.u,.u,.u,.u,.u,.u,.u,.u,.u,.u,.u,.u,.u,.u,.u,.u,.u,.u,.u,.u,.u,.u,.u,.u,.u,.u,.u,.u,.u,.u,.u,.u,.u,.u,.u,.u,.u,.u,.u,.u,.u,.u,.u,.u,.u,.u,.u,.u,.u,.u,.u,.u,.u,.u,.u,.u,.u,.u,.u,.u,.u,.u,.u,.u,.u,.u,.u,.u,.u,.u,.u,.u,.u,.u,.u,.u,.u,.u,.u,.u,.u,.u,.u,.u]) ?_))
  (PWc.rnd (ops.length+1) (loop3_1 hcl order ops (by omega) ops [] [] 0 rfl (Nat.le_refl _) ?_))
 ·simp only [VV]
  repeat first | exact .nil | refine .cons (.refl _) ?_ | refine .cons (.forget _) ?_
 intro g
 intros
 rw [show ops.foldl keepM []=poolOf ops from rfl]
 generalize poolOf ops=m at *
 simp only [VV]
 have hl2:AllLt σ.length [.u,.sl 1 (order.map iRow),.u,.u,.u,.sl 13 (m.map Opr.cells),.u,.u,.u,.u,.u,.u,.u,.u,.u,.u,.u,.u,.u,.u,.u,.u,.u,.u,.u,.u,.u,.u,.u,.u,.u,.u,.u,.u,.u,.u,.u,.u,.u,.u,.u,.u,.u,.u,.u,.u,.u,.u,.u,.u,.u,.u,.u,.u,.u,.u,.u,.u,.u,.u,.u,.u,.u,.u,.u,.u,.u,.u,.u,.u,.u,.u,.u,.u,.u,.u,.u,.u,.u,.u,.u,.u,.u,.u,.u,.u,.u,.u,.u,.u,.u,.u,.u,.u,.u,.u,.u,.u,.u,.u,.u,.u,.u,.u,.u,.u,.u,.u,.u,.u,.u,.u,.u,.u,.u,.u,.u,.u,.u,.u,.u,.u,.u,.u,.u,.u,.u,.u,.u,.u,.u,.u,.u,.u,.u,.u,.u,.u,.u,.u,.u,.u,.u,.u,.u,.u,.u,.u,.u,.u,.u,.u,.u,.u,.u,.u,.u,.u,.u,.u,.u,.u,.u,.u,.u,.u,.u,.u]:=by simp only [LW]
 refine hR _ (PWc.wk ((Wk.fz σ.length (E:=35) (sz:=13) (by':=184) (g:=g) (sh:=false) (rows:=m.map Opr.cells) (by rw [base_get0];rfl)).trans (Wk.cvs (ys:=[.u,.sl 1 (order.map iRow),.u,.u,.u,.sl 13 (m.map Opr.cells),.u,.u,.u,.u,.u,.u,.u,.u,.u,.u,.u,.u,.u,.u,.u,.u,.u,.u,.u,.u,.u,.u,.u,.u,.u,.u,.u,.u,.u,.u,.u,.u,.u,.u,.u,.u,.u,.u,.u,.u,.u,.u,.u,.u,.u,.u,.u,.u,.u,.u,.u,.u,.u,.u,.u,.u,.u,.u,.u,.u,.u,.u,.u,.u,.u,.u,.u,.u,.u,.u,.u,.u,.u,.u,.u,.u,.u,.u,.u,.u,.u,.u,.u,.u,.u,.u,.u,.u,.u,.u,.u,.u,.u,.u,.u,.u,.u,.u,.u,.u,.u,.u,.u,.u,.u,.u,.u,.u,.u,.u,.u,.u,.u,.u,.u,.u,.u,.u,.u,.u,.u,.u,.u,.u,.u,.u,.u,.u,.u,.u,.u,.u,.u,.u,.u,.u,.u,.u,.u,.u,.u,.u,.u,.u,.u,.u,.u,.u,.u,.u,.u,.u,.u,.u,.u,.u,.u,.u,.u,.u,.u,.u]) ?_)) ?_)
 ·simp only [List.map_cons,List.map_nil,fz,fz1,and_self,if_true]
  repeat first | exact .nil | refine .cons (.refl _) ?_ | refine .cons (.forget _) ?_
 clear hR R
 simp only [base_set0,opRow,List.set_cons_zero]
 refine PWc.wk (Wk.drop0 (Nat.le_refl _) hcl (allLt_iff.1 hl2)) ?_
 refine PWc.cut fun R hR=>?_
 simp only [VV]
 refine call_eq (newI 0 (by decide) (by decide) _) rfl ?_
 simp only [Off.cells,List.map_nil,VV,Nat.reduceAdd]
 refine hR _ (PWc.cvs (fr':=[.u,.sl 1 (order.map iRow),.u,.u,.u,.sl 13 (m.map Opr.cells),.u,.u,.u,.u,.u,.ptr σ.length 0,.u,.u,.u,.u,.u,.u,.u,.u,.u,.u,.u,.u,.u,.u,.u,.u,.u,.u,.u,.u,.u,.u,.u,.u,.u,.u,.u,.u,.u,.u,.u,.u,.u,.u,.u,.u,.u,.u,.u,.u,.u,.u,.u,.u,.u,.u,.u,.u,.u,.u,.u,.u,.u,.u,.u,.u,.u,.u,.u,.u,.u,.u,.u,.u,.u,.u,.u,.u,.u,.u,.u,.u,.u,.u,.u,.u,.u,.u,.u,.u,.u,.u,.u,.u,.u,.u,.u,.u,.u,.u,.u,.u,.u,.u,.u,.u,.u,.u,.u,.u,.u,.u,.u,.u,.u,.u,.u,.u,.u,.u,.u,.u,.u,.u,.u,.u,.u,.u,.u,.u,.u,.u,.u,.u,.u,.u,.u,.u,.u,.u,.u,.u,.u,.u,.u,.u,.u,.u,.u,.u,.u,.u,.u,.u,.u,.u,.u,.u,.u,.u,.u,.u,.u,.u,.u,.u]) ?_ (by repeat first | exact .nil | refine .cons (.refl _) ?_ | refine .cons (.forget _) ?_))
 clear hR R
 refine PWc.cut fun R hR=>?_
 simp only [VV]
 refine call_eq (newI 0 (by decide) (by decide) _) rfl ?_
 simp only [Off.cells,List.map_nil,VV,Nat.reduceAdd]
 refine hR _ (PWc.cvs (fr':=[.u,.sl 1 (order.map iRow),.u,.u,.u,.sl 13 (m.map Opr.cells),.u,.u,.u,.u,.u,.ptr σ.length 0,.u,.ptr (σ.length+1) 0,.u,.u,.u,.u,.u,.u,.u,.u,.u,.u,.u,.u,.u,.u,.u,.u,.u,.u,.u,.u,.u,.u,.u,.u,.u,.u,.u,.u,.u,.u,.u,.u,.u,.u,.u,.u,.u,.u,.u,.u,.u,.u,.u,.u,.u,.u,.u,.u,.u,.u,.u,.u,.u,.u,.u,.u,.u,.u,.u,.u,.u,.u,.u,.u,.u,.u,.u,.u,.u,.u,.u,.u,.u,.u,.u,.u,.u,.u,.u,.u,.u,.u,.u,.u,.u,.u,.u,.u,.u,.u,.u,.u,.u,.u,.u,.u,.u,.u,.u,.u,.u,.u,.u,.u,.u,.u,.u,.u,.u,.u,.u,.u,.u,.u,.u,.u,.u,.u,.u,.u,.u,.u,.u,.u,.u,.u,.u,.u,.u,.u,.u,.u,.u,.u,.u,.u,.u,.u,.u,.u,.u,.u,.u,.u,.u,.u,.u,.u,.u,.u,.u,.u,.u,.u]) ?_ (by repeat first | exact .nil | refine .cons (.refl _) ?_ | refine .cons (.forget _) ?_))
 clear hR R
 refine PWc.cut fun R hR=>?_
 simp only [List.length_map,VV]
 refine PWc.rnd_cvs (by repeat first | exact .nil | refine .cons (.refl _) ?_ | refine .cons (.forget _) ?_) (m.length+1) (loop3_2 hcl order m hM offZ m [] offZ rfl (recv_offZ m) ?_)
 intros
 simp only [VV]
 refine hR _ (PWc.cvs (fr':=[.u,.sl 1 (order.map iRow),.u,.u,.u,.sl 13 (m.map Opr.cells),.u,.u,.u,.u,.u,.ptr σ.length 0,.u,.ptr (σ.length+1) 0,.u,.u,.u,.u,.u,.u,.u,.u,.u,.u,.u,.u,.u,.u,.u,.u,.u,.u,.u,.u,.u,.u,.u,.u,.u,.u,.u,.u,.u,.u,.u,.u,.u,.u,.u,.u,.u,.u,.u,.u,.u,.u,.u,.u,.u,.u,.u,.u,.u,.u,.u,.u,.u,.u,.u,.u,.u,.u,.u,.u,.u,.u,.u,.u,.u,.u,.u,.u,.u,.u,.u,.u,.u,.u,.u,.u,.u,.u,.u,.u,.u,.u,.u,.u,.u,.u,.u,.u,.u,.u,.u,.u,.u,.u,.u,.u,.u,.u,.u,.u,.u,.u,.u,.u,.u,.u,.u,.u,.u,.u,.u,.u,.u,.u,.u,.u,.u,.u,.u,.u,.u,.u,.u,.u,.u,.u,.u,.u,.u,.u,.u,.u,.u,.u,.u,.u,.u,.u,.u,.u,.u,.u,.u,.u,.u,.u,.u,.u,.u,.u,.u,.u,.u,.u]) ?_ (by repeat first | exact .nil | refine .cons (.refl _) ?_ | refine .cons (.forget _) ?_))
 clear hR R
 refine PWc.cut fun R hR=>?_
 simp only [List.length_map,VV]
 refine PWc.rnd_cvs (by repeat first | exact .nil | refine .cons (.refl _) ?_ | refine .cons (.forget _) ?_) (order.length+1) (loop3_3 hcl order hlen m hM (m.foldl recvO offZ) order [] offZ rfl (recv_offZ m) ?_)
 intros
 simp only [VV]
 refine hR _ (PWc.cvs (fr':=[.u,.u,.u,.u,.u,.sl 13 (m.map Opr.cells),.u,.u,.u,.u,.u,.ptr σ.length 0,.u,.ptr (σ.length+1) 0,.u,.u,.u,.u,.u,.u,.u,.u,.u,.u,.u,.u,.u,.u,.u,.u,.u,.u,.u,.u,.u,.u,.u,.u,.u,.u,.u,.u,.u,.u,.u,.u,.u,.u,.u,.u,.u,.u,.u,.u,.u,.u,.u,.u,.u,.u,.u,.u,.u,.u,.u,.u,.u,.u,.u,.u,.u,.u,.u,.u,.u,.u,.u,.u,.u,.u,.u,.u,.u,.u,.u,.u,.u,.u,.u,.u,.u,.u,.u,.u,.u,.u,.u,.u,.u,.u,.u,.u,.u,.u,.u,.u,.u,.u,.u,.u,.u,.u,.u,.u,.u,.u,.u,.u,.u,.u,.u,.u,.u,.u,.u,.u,.u,.u,.u,.u,.u,.u,.u,.u,.u,.u,.u,.u,.u,.u,.u,.u,.u,.u,.u,.u,.u,.u,.u,.u,.u,.u,.u,.u,.u,.u,.u,.u,.u,.u,.u,.u,.u,.u,.u,.u,.u,.u]) ?_ (by repeat first | exact .nil | refine .cons (.refl _) ?_ | refine .cons (.forget _) ?_))
 clear hR R
 have rp:=(recv_all hM (picks m order) (recv_offZ m) (picks_mem order)).1
 have hw:IntKind.i64.wrap ((m.length:Int) - 1)=(m.length:Int) - 1:=IntWalk.i64_in _ (by omega)
 refine PWc.cut fun R hR=>?_
 simp only [List.length_map,hw,VV,reduceIte]
 refine PWc.rnd_cvs (by repeat first | exact .nil | refine .cons (.refl _) ?_ | refine .cons (.forget _) ?_) (m.length+1) (loop3_4 hcl m hM (m.foldl recvO offZ) m.length ((picks m order).foldl recvO offZ) (Nat.le_refl _) rp ?_)
 intros
 rw [List.take_length]
 simp only [VV]
 refine hR _ (PWc.cvs (fr':=[.u,.u,.u,.u,.u,.u,.u,.u,.u,.u,.u,.ptr σ.length 0,.u,.ptr (σ.length+1) 0,.u,.u,.u,.u,.u,.u,.u,.u,.u,.u,.u,.u,.u,.u,.u,.u,.u,.u,.u,.u,.u,.u,.u,.u,.u,.u,.u,.u,.u,.u,.u,.u,.u,.u,.u,.u,.u,.u,.u,.u,.u,.u,.u,.u,.u,.u,.u,.u,.u,.u,.u,.u,.u,.u,.u,.u,.u,.u,.u,.u,.u,.u,.u,.u,.u,.u,.u,.u,.u,.u,.u,.u,.u,.u,.u,.u,.u,.u,.u,.u,.u,.u,.u,.u,.u,.u,.u,.u,.u,.u,.u,.u,.u,.u,.u,.u,.u,.u,.u,.u,.u,.u,.u,.u,.u,.u,.u,.u,.u,.u,.u,.u,.u,.u,.u,.u,.u,.u,.u,.u,.u,.u,.u,.u,.u,.u,.u,.u,.u,.u,.u,.u,.u,.u,.u,.u,.u,.u,.u,.u,.u,.u,.u,.u,.u,.u,.u,.u,.u,.u,.u,.u,.u,.u]) ?_ (by repeat first | exact .nil | refine .cons (.refl _) ?_ | refine .cons (.forget _) ?_))
 clear hR R
 generalize m.foldl recvO offZ=a at *
 generalize m.reverse.foldl recvO ((picks m order).foldl recvO offZ)=b at *
 obtain ⟨c,hc⟩:=counts_ex a.ops fun x hx=>(op_time (hM.gen x (ra.sub x hx)).ok).2.2
 have sa:=ra.small hM
 have sb:=rb.small hM
 have da:=ra.down
 have db:=rb.down
 have hops:opsEq a.ops b.ops=true:=opsEq_iff.2 e1
 have hee:ensEq (memoryOf a.ops) (memoryOf b.ops)=true:=ensEq_iff.2 (by rw [e1])
 have hcb:Counts b.ops c:=e1▸hc
 have q2:(a.clock==b.clock)=true:=by rw [e2];exact beq_self_eq_true _
 refine wpc_sound ?_
 simp only [ofO,Off.cells,VV]
 refine call_eq (r36SameOps_pc a.ops b.ops _) rfl ?_
 simp only [hops,q2,VV,Nat.reduceAdd,reduceIte]
 refine callg_eq (by simp only [VV]<;>rfl) (fun _=>memory_pc a sa da _) rfl ?_
 simp only [VV,Nat.reduceAdd]
 refine callg_eq (by simp only [VV]<;>rfl) (fun _=>memory_pc b sb db _) rfl ?_
 simp only [VV]
 refine callg_eq (by simp only [VV]<;>rfl) (fun _=>r16SameEntries_pc (memoryOf a.ops) (memoryOf b.ops) _) rfl ?_
 simp only [hee,VV,Nat.reduceAdd]
 refine callg_eq (by simp only [VV]<;>rfl) (fun _=>seen_pc a sa da c hc _) rfl ?_
 simp only [VV,Nat.reduceAdd]
 refine callg_eq (by simp only [VV]<;>rfl) (fun _=>seen_pc b sb db c hcb _) rfl ?_
 simp only [VV]
 refine callg_eq (by simp only [VV]<;>rfl) (fun _=>r3SameInts_pc (vJoin (countL c) []) (vJoin (countL c) []) _) rfl ?_
 simp only [VV]
 refine callg_eq (by simp only [VV]<;>rfl) (fun _=>known39_pc _) rfl ?_
 simp only [VV]
 exact ret_end hcl (.inr rfl) (by simp only [RS];rfl) (by simp only [LW]) ⟨rfl,rfl⟩
end Go.Proofs.Tryz

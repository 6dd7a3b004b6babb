/- A part of the proof of the statement of the last text of this claim: for every two lists of integers ReplicaCommutes returns true and leaves the memory as it was. -/
import Derived.IntWalk
import Derived.Test.YtbfoheefppnnpaaGreatDoorV11
set_option linter.all false

namespace Go.Pm
open Go Go.RowKit
def rndR (R:St→Prop) (K:Exit→St→Prop):Exit→St→Prop
 | .normal=>R
 | e=>K e
theorem rndR_normal {R:St→Prop} {K:Exit→St→Prop}:rndR R K .normal=R:=rfl
theorem rndR_ret {R:St→Prop} {K:Exit→St→Prop}:rndR R K .ret=K .ret:=rfl
theorem rndR_exit {R:St→Prop} {K:Exit→St→Prop} {id:Nat}:rndR R K (.exit id)=K (.exit id):=rfl
theorem rnd_step {n:Nat} {P:Program} {c:PCode} {K:Exit→St→Prop} {N:Nat} {st:St} (h:∀ R:St→Prop,(∀ st',Rnd n P c K N st'→R st')→wpc n P c (rndR R K) st):Rnd n P c K (N+1) st:=by
 refine rnd_succ ?_
 have:=h (Rnd n P c K N) fun _ h=>h
 have e:rndR (Rnd n P c K N) K=rndK n P c K N:=by funext e;cases e<;>rfl
 rw [← e];exact this
theorem rnd_wk {n:Nat} {P:Program} {c:PCode} {K:Exit→St→Prop} {N:Nat} {fr fr':List V} {σ σ':Store} (h:Wk P n fr σ fr' σ') (k:Rnd n P c K N ⟨fr',σ'⟩):Rnd n P c K N ⟨fr,σ⟩:=by
 cases N with
 | zero=>exact k.elim
 | succ N=>exact PWc.wk h k
theorem rnd_back {n:Nat} {P:Program} {c:PCode} {K:Exit→St→Prop} {N:Nat} {fr fr':List V} {σ loc:Store} (hn:n≤σ.length) (hcl:Closed σ) (hc:Cvs fr fr') (hl:AllLt σ.length fr') (k:Rnd n P c K N ⟨fr',σ⟩):Rnd n P c K N ⟨fr,σ++loc⟩ :=
 rnd_wk ((Wk.cvs hc).trans (Wk.drop0 hn hcl (allLt_iff.1 hl))) k
theorem rnd_cvs {n:Nat} {P:Program} {c:PCode} {K:Exit→St→Prop} {N:Nat} {fr fr':List V} {σ:Store} (hc:Cvs fr fr') (k:Rnd n P c K N ⟨fr',σ⟩):Rnd n P c K N ⟨fr,σ⟩ :=
 rnd_wk (Wk.cvs hc) k
theorem wrap_nat {n:Nat} (h:n<2^63):IntKind.i64.wrap (n:Int)=n:=IntWalk.i64_in _ (by omega)
theorem wrap_succ {n:Nat} (h:n+1<2^63):IntKind.i64.wrap ((n:Int)+1)=((n+1:Nat):Int):=by rw [IntWalk.i64_in _ (by omega)];omega
theorem row_at {α:Type} {f:α→List V} {pre rest:List α} {x:α} {d:List V}:(List.map f (pre++x::rest)).getD pre.length d=f x:=by
 simp [List.getD_eq_getElem?_getD]
theorem at2_at {α:Type} {f:α→List V} {pre rest:List α} {x:α} {j:Nat}:at2 (List.map f (pre++x::rest)) pre.length j=(f x)[j]?:=by
 simp [at2]
theorem ret_end0 {P:Program} {rs:List Rs} {Q:V→Store→Prop} {e:Exit} {fr:List V} {σ:Store} {xs:List V} (he:e=.normal∨e=.ret) (hx:resVs ⟨fr,σ⟩ rs=some xs) (hQ:Q (one xs) σ) :
  retK P σ.length rs Q e ⟨fr,σ⟩:=ret_wk he hx (Wk.refl _ _) rfl hQ
theorem wf_sl {sz:Nat} {xs:List (List V)} (h:(V.sl sz xs).Wf):xs.length<2^63:=by
 cases h with
 | sl _ _ h=>simp only [maxLen] at h;omega
theorem wf_s {l:List UInt8} (h:(V.s l).Wf):l.length<2^63:=by
 cases h with
 | s _ h=>simp only [maxLen] at h;omega
theorem PWc.rnd_cvs {n:Nat} {P:Program} {c:PCode} {K:Exit→St→Prop} {fr fr':List V} {σ:Store} (hc:Cvs fr fr') (N:Nat) (h:Rnd n P c K N ⟨fr',σ⟩):PWc n P (.loop c) K ⟨fr,σ⟩ :=
 PWc.wk (Wk.cvs hc) (PWc.rnd N h)
theorem cond_or {a b:Bool}:(bif a then true else b)=(a||b):=by cases a<;>rfl
theorem cond_and {a b:Bool}:(bif a then b else false)=(a&&b):=by cases a<;>rfl
theorem s_at {pre rest:List UInt8} {x:UInt8} {d:UInt8}:(pre++x::rest).getD pre.length d=x:=by
 simp [List.getD_eq_getElem?_getD]
theorem call_wk {P:Program} {d:Option Nat} {f:Nat} {args:List O} {K:St→Prop} {fr:List V} {σ σ1 σ2:Store} {zs:List V} {v:V} (hw:Wk P σ.length (args.map (ev fr)) σ zs σ1) (h:PC P f zs σ1 (fun r σ'=>r=v∧σ'=σ2)) (hK:K ⟨setd fr d v,σ2⟩) :
  gI P ⟨d,[],.call f args⟩ K ⟨fr,σ⟩ :=
 call_eq (PC.wk hw h) rfl hK
theorem call_cv {P:Program} {d:Option Nat} {f:Nat} {args:List O} {K:St→Prop} {fr:List V} {σ σ2:Store} {zs:List V} {v:V} (hw:Cvs (args.map (ev fr)) zs) (h:PC P f zs σ (fun r σ'=>r=v∧σ'=σ2)) (hK:K ⟨setd fr d v,σ2⟩) :
  gI P ⟨d,[],.call f args⟩ K ⟨fr,σ⟩ :=
 call_eq (PC.wk (Wk.cvs hw) h) rfl hK
def iRow (n:Int):List V:=[.i .i64 n]
theorem chk_some {p:Prop} {v w:V}:(∃ ob,some (p,v)=some (ob,w)∧ob)=(v=w∧p):=by
 simp only [Option.some.injEq,Prod.mk.injEq,eq_iff_iff]
 exact ⟨fun ⟨_,⟨h1,h2⟩,h3⟩=>⟨h2,h1.2 h3⟩,fun ⟨h1,h2⟩=>⟨p,⟨Iff.rfl,h1⟩,h2⟩⟩
theorem chk_none {p:Prop} {v:V}:(∃ ob r,some (p,v)=some (ob,r)∧ob)=p:=by
 simp only [Option.some.injEq,Prod.mk.injEq,eq_iff_iff]
 exact ⟨fun ⟨_,_,⟨h1,_⟩,h3⟩=>h1.2 h3,fun h=>⟨p,v,⟨Iff.rfl,rfl⟩,h⟩⟩
theorem at2_iRow {l:List Int} {i:Nat} (h:i<l.length):at2 (l.map iRow) i 0=some (.i .i64 (l.getD i 0)):=by
 simp [at2,iRow,h]
theorem ret_fz {P:Program} {rs:List Rs} {Q:V→Store→Prop} {e:Exit} {fr:List V} {σ loc:Store} {xs:List V} (k:Nat) {E sz by' g:Nat} {sh:Bool} {rows:List (List V)} (hcl:Closed σ) (he:e=.normal∨e=.ret) (hx:resVs ⟨fr,σ++loc⟩ rs=some xs)
  (hk:loc[k]?=some (.row E sz by' g sh rows)) (hl:AllLt σ.length (xs.map (fz (σ.length+k) g sz rows))) (hQ:Q (one (xs.map (fz (σ.length+k) g sz rows))) σ):retK P σ.length rs Q e ⟨fr,σ++loc⟩:=by
 refine ret_wk he hx ((Wk.fz (σ.length+k) (by rw [base_get];exact hk)).trans ?_) (by simp) hQ
 rw [base_set]
 exact Wk.end0 hcl hl
def tiB (P:Program) (E sz by':Nat):Bool :=
 match P.info? E with
 | some t=>match t.zero with
  | some z=>decide (0<sz)&&(t.size==sz&&(t.bytes==by'&&z.cells.size==sz))
  | none=>false
 | none=>false
theorem tiB_ok {P:Program} {E sz by':Nat} (h:tiB P E sz by'=true):Ti P E sz by':=by
 unfold tiB at h
 split at h
 ·rename_i t ht
  split at h
  ·rename_i z hz
   simp only [Bool.and_eq_true,decide_eq_true_eq,beq_iff_eq] at h
   exact ⟨h.1,t,z,ht,hz,h.2.1,h.2.2.1,h.2.2.2⟩
  ·simp at h
 ·simp at h
theorem PC.ofCalls {P:Program} {f:Nat} {args:List V} {σ:Store} {v:V} (h:∀ (w:World) (μ:Mem) (vs:Array Value),VRs w σ μ args vs→∃ u,Calls P f vs w (fun e w'=>e=.returned u∧w'=w)∧VR w σ μ v u) :
  PC P f args σ (fun r σ'=>r=v∧σ'=σ):=by
 intro B w0 w μ vs hS hv
 obtain ⟨u,h1,h2⟩:=h w μ vs hv
 refine h1.mono ?_
 rintro e w' ⟨rfl,rfl⟩
 exact ⟨v,u,σ,μ,rfl,⟨rfl,rfl⟩,hS,h2,Keep.refl _ _ _⟩
theorem vs1 {vs:Array Value} (h:vs.size=1):vs=#[vs.getD 0 undef]:=by
 apply Array.ext
 ·simpa using h
 ·intro i h1 h2
  have:i=0:=by omega
  subst this;simp [h1]
theorem vs2 {vs:Array Value} (h:vs.size=2):vs=#[vs.getD 0 undef,vs.getD 1 undef]:=by
 apply Array.ext
 ·simpa using h
 ·intro i h1 h2
  have:i=0∨i=1:=by omega
  rcases this with rfl | rfl<;>simp [h1]
theorem closed_add {σ l:Store} (h:Closed σ) (hl:∀ o∈l,match o with | .box _ cs=>AllLt (σ.length+l.length) cs | _=>True):Closed (σ++l):=by
 intro id T cs hid j x hx
 rw [List.length_append]
 rcases Nat.lt_or_ge id σ.length with hlt | hge
 ·rw [List.getElem?_append_left hlt] at hid
  exact (h id T cs hid j x hx).mono (Nat.le_add_right _ _)
 ·rw [List.getElem?_append_right hge] at hid
  have:=hl _ (List.mem_of_getElem? hid)
  simp only at this
  exact allLt_iff.1 this j x hx
theorem rnd_drop {P:Program} {c:PCode} {K:Exit→St→Prop} {N:Nat} {fr fr':List V} {σ:Store} (l loc:Store) (hcl:Closed (σ++l)) (hc:Cvs fr fr') (hl:AllLt (σ.length+l.length) fr') (k:Rnd σ.length P c K N ⟨fr',σ++l⟩):Rnd σ.length P c K N ⟨fr,σ++(l++loc)⟩:=by
 rw [← List.append_assoc]
 exact rnd_wk ((Wk.cvs hc).trans (Wk.drop0 (by simp) hcl (by rw [List.length_append];exact allLt_iff.1 hl))) k
theorem Wk.promote_at {P:Program} {n:Nat} {xs:List V} {σ:Store} (loc:Store) {k E sz by':Nat} (hT:Ti P E sz by') (hk:xs[k]?=some .nil):Wk P n xs (σ++loc) (xs.set k (.own (σ.length+loc.length) 0)) (σ++(loc++[.row E sz by' 0 false []])):=by
 have:=Wk.promote (P:=P) (n:=n) (σ:=σ++loc) hT hk
 rwa [List.length_append,List.append_assoc] at this
theorem bytesOf_bytesV:∀ (l:List UInt8),bytesOf (bytesV l)=some l
 | []=>rfl
 | c::l=>by
  have ih:=bytesOf_bytesV l
  simp only [bytesV,List.map_cons,bytesOf,byteOfRow] at ih ⊢
  rw [ih]
  simp
theorem bytesV_append {a b:List UInt8}:bytesV a++bytesV b=bytesV (a++b):=by simp [bytesV]
theorem bytesV_length {a:List UInt8}:(bytesV a).length=a.length:=by simp [bytesV]
def unV:UnOp→V→Option (Prop×V)
 | .not,.b p=>some (True,.b (!p))
 | .neg,.i k n=>some (True,.i k (k.wrap (0 - n)))
 | _,_=>none
theorem px_un (fr:List V) (σ:Store) (op:UnOp) (x:O):pexec fr σ (.un op x)=unV op (ev fr x):=by
 show (match op,ev fr x with
  | .not,.b p=>some (True,V.b (!p))
  | .neg,.i k n=>some (True,V.i k (k.wrap (0 - n)))
  | _,_=>none)=_
 rfl
set_option linter.defProp false in
def EV:=(And.intro (And.intro (And.intro (And.intro (And.intro (And.intro @pexec.eq_1 @pexec.eq_2) (And.intro @pexec.eq_3 @pexec.eq_4)) (And.intro (And.intro @pexec.eq_5 @pexec.eq_6) (And.intro @pexec.eq_7 @pexec.eq_8))) (And.intro (And.intro (And.intro @pexec.eq_9 @px_un) (And.intro @unV.eq_1 (And.intro @unV.eq_2 @unV.eq_3))) (And.intro (And.intro @pexec.eq_13 @pexec.eq_14) (And.intro @pexec.eq_15 (And.intro @pexec.eq_16 @pexec.eq_17))))) (And.intro (And.intro (And.intro (And.intro @pexec.eq_18 @pexec.eq_19) (And.intro @pexec.eq_20 @pexec.eq_21)) (And.intro (And.intro @pexec.eq_22 @pexec.eq_23) (And.intro @pexec.eq_24 @pexec.eq_25))) (And.intro (And.intro (And.intro @pexec.eq_26 @pexec.eq_27) (And.intro @pexec.eq_28 @pexec.eq_29)) (And.intro (And.intro @pexec.eq_30 @pexec.eq_31) (And.intro @pexec.eq_32 (And.intro @xexec.eq_1 @xexec.eq_2)))))) (And.intro (And.intro (And.intro (And.intro (And.intro @xexec.eq_3 @xexec.eq_4) (And.intro @xexec.eq_5 @xexec.eq_6)) (And.intro (And.intro @xexec.eq_7 @xexec.eq_8) (And.intro @xexec.eq_9 @xexec.eq_10))) (And.intro (And.intro (And.intro @binV.eq_1 @binV.eq_2) (And.intro @binV.eq_3 @binV.eq_4)) (And.intro (And.intro @binV.eq_5 @binV.eq_6) (And.intro @binV.eq_7 (And.intro @binV.eq_8 @binV.eq_9))))) (And.intro (And.intro (And.intro (And.intro @binV.eq_10 @binV.eq_11) (And.intro @binV.eq_12 @binV.eq_13)) (And.intro (And.intro @binV.eq_14 @binV.eq_15) (And.intro @binV.eq_16 @binV.eq_17))) (And.intro (And.intro (And.intro @binV.eq_18 @binV.eq_19) (And.intro @binV.eq_20 @binV.eq_21)) (And.intro (And.intro @binV.eq_22 @binV.eq_23) (And.intro @binV.eq_24 (And.intro @binV.eq_25 @binV.eq_26)))))))
set_option linter.defProp false in
def W:=And.intro EV <| And.intro (And.intro (And.intro @zm.eq_1 @zl.eq_1) (And.intro (And.intro @zL.eq_1 @zf.eq_1) (And.intro @z.eq_1 @zs.eq_1))) (And.intro (And.intro (And.intro (And.intro (And.intro (And.intro (And.intro @wpc.eq_1
 (And.intro @wpc.eq_2
 @wpc.eq_3))
 (And.intro (And.intro @wpc.eq_4
 @wpc.eq_5)
 (And.intro @wpc.eq_6
 @wpc.eq_7)))
 (And.intro (And.intro (And.intro @wpc.eq_8
 (And.intro @wpc.eq_9 (And.intro (And.intro @wpc.eq_10 @dregK.eq_1) (And.intro (And.intro (And.intro @wpc.eq_11 @allX.eq_1) (And.intro @allX.eq_2 (And.intro (And.intro @runF_nil (And.intro @runF_late @runF_cons)) (And.intro (And.intro @runJ.eq_1 @silJ.eq_1) (And.intro @silK.eq_1 @lastJ.eq_1))))) (And.intro (And.intro @bxOf_nil @bxOf_cons) (And.intro (And.intro @deads_nil @deads_cons) (And.intro @setF_nil @setF_cons)))))))
 (And.intro @runC_cons
 @runC_nil))
 (And.intro (And.intro @runD_cons
 @runD_nil)
 (And.intro @seqK_normal
 @seqK_ret))))
 (And.intro (And.intro (And.intro (And.intro @seqK_exit
 @blkK_normal)
 (And.intro @blkK_ret
 @blkK_same))
 (And.intro (And.intro @blkK_exit
 @rndR_normal)
 (And.intro @rndR_ret
 @rndR_exit)))
 (And.intro (And.intro (And.intro @gI_mov
 @gI_pick)
 (And.intro @gI_build
 @gI_bslice))
 (And.intro (And.intro @gI_load
 @gI_nilck)
 (And.intro @gI_bin
 @gI_beq)))))
 (And.intro (And.intro (And.intro (And.intro @gI_bbq
 (And.intro @gI_un
 @gI_cvi))
 (And.intro (And.intro @gI_b2s
 @gI_slice)
 (And.intro @gI_sslice
 @gI_fld)))
 (And.intro (And.intro (And.intro @gI_idx
 @gI_sidx)
 (And.intro @gI_ext
 @gI_len))
 (And.intro (And.intro @gI_max2
 @gI_min2)
 (And.intro @gI_look
 @gI_mlen))))
 (And.intro (And.intro (And.intro (And.intro @gI_box
 @gI_alloc)
 (And.intro @gI_store
 @gI_app))
 (And.intro (And.intro @gI_apps
 (And.intro @gI_mk @gI_bown))
 (And.intro @gI_mkmap
 (And.intro (And.intro @gI_clo (And.intro @gI_aidx @gI_asl)) (And.intro @gI_mupd (And.intro @keyOb_0 (And.intro @keyOb_1 @keyOb_3)))))))
 (And.intro (And.intro (And.intro @gg_mov
 @gg_pick)
 (And.intro @gg_build
 @gg_bslice))
 (And.intro (And.intro @gg_load
 @gg_nilck)
 (And.intro @gg_bin
 @gg_beq))))))
 (And.intro (And.intro (And.intro (And.intro (And.intro @gg_bbq
 (And.intro @gg_un
 @gg_cvi))
 (And.intro (And.intro @gg_b2s
 @gg_slice)
 (And.intro @gg_sslice
 @gg_fld)))
 (And.intro (And.intro (And.intro @gg_idx
 @gg_sidx)
 (And.intro @gg_ext
 @gg_len))
 (And.intro (And.intro @gg_max2
 @gg_min2)
 (And.intro @gg_look
 @gg_mlen))))
 (And.intro (And.intro (And.intro (And.intro @V.pure.eq_1
 @V.pure.eq_2)
 (And.intro @V.pure.eq_3
 @V.pure.eq_4))
 (And.intro (And.intro @V.pure.eq_5
 @chkK.eq_1)
 (And.intro @chkF.eq_1
 @chk_some)))
 (And.intro (And.intro (And.intro @chk_none
 @pI_some)
 (And.intro @xI_some
 @qI_some))
 (And.intro (And.intro @gX.eq_1
 @gX.eq_2)
 (And.intro @chainB.eq_1
 @chainB.eq_2)))))
 (And.intro (And.intro (And.intro (And.intro @pexec.eq_1
 (And.intro @pexec.eq_2
 @pexec.eq_3))
 (And.intro (And.intro @pexec.eq_4
 @pexec.eq_5)
 (And.intro @pexec.eq_6
 @pexec.eq_7)))
 (And.intro (And.intro (And.intro @pexec.eq_8
 @pexec.eq_9)
 (And.intro @px_un
 @unV.eq_1))
 (And.intro (And.intro (And.intro @unV.eq_2 @unV.eq_3)
 @pexec.eq_13)
 (And.intro @pexec.eq_14
 @pexec.eq_15))))
 (And.intro (And.intro (And.intro (And.intro @pexec.eq_16
 @pexec.eq_17)
 (And.intro @pexec.eq_18
 @pexec.eq_19))
 (And.intro (And.intro @pexec.eq_20
 @pexec.eq_21)
 (And.intro @pexec.eq_22
 @pexec.eq_23)))
 (And.intro (And.intro (And.intro @pexec.eq_24
 @pexec.eq_25)
 (And.intro @pexec.eq_26
 @pexec.eq_27))
 (And.intro (And.intro @pexec.eq_28
 @pexec.eq_29)
 (And.intro @xexec.eq_1
 @xexec.eq_2)))))))
 (And.intro (And.intro (And.intro (And.intro (And.intro (And.intro @xexec.eq_3
 (And.intro @xexec.eq_4
 @xexec.eq_5))
 (And.intro (And.intro @xexec.eq_6
 @xexec.eq_7)
 (And.intro @xexec.eq_8
 @xexec.eq_9)))
 (And.intro (And.intro (And.intro @ev.eq_1
 @ev.eq_2)
 (And.intro @setd.eq_1
 @setd.eq_2))
 (And.intro (And.intro @clr.eq_1
 @List.foldl_nil.{0,0})
 (And.intro @List.foldl_cons.{0,0}
 @List.getD_cons_zero.{0}))))
 (And.intro (And.intro (And.intro (And.intro @List.getD_cons_succ.{0}
 @List.set_cons_zero.{0})
 (And.intro @List.set_cons_succ.{0}
 @cellsV.eq_1))
 (And.intro (And.intro @cellsV.eq_2
 @okCells.eq_1)
 (And.intro @okCells.eq_2
 @cellOK.eq_1)))
 (And.intro (And.intro (And.intro @cellOK.eq_2
 @cellOK.eq_3)
 (And.intro @cellOK.eq_4
 @cellOK.eq_5))
 (And.intro (And.intro @cellOK.eq_6
 @cellOK.eq_7)
 (And.intro @purifyL.eq_1
 @purifyL.eq_2)))))
 (And.intro (And.intro (And.intro (And.intro @purifyAt.eq_1
 (And.intro @purifyAt.eq_2
 @purifyAt.eq_3))
 (And.intro (And.intro @fillV.eq_1
 @fillV.eq_2)
 (And.intro @List.all_cons.{0}
 @List.all_nil.{0})))
 (And.intro (And.intro (And.intro @Bool.and_self
 @Bool.and_true)
 (And.intro @Bool.true_and
 @true_and))
 (And.intro (And.intro @and_true
 @and_self)
 (And.intro @base_get0
 @base_get))))
 (And.intro (And.intro (And.intro (And.intro @base_set0
 @base_set)
 (And.intro @base_len
 @List.length_cons.{0}))
 (And.intro (And.intro @List.length_nil.{0}
 @List.getElem?_cons_zero.{0})
 (And.intro @List.getElem?_cons_succ.{0}
 @List.getElem?_nil.{0})))
 (And.intro (And.intro (And.intro @Nat.add_zero
 @Nat.zero_add)
 (And.intro @Nat.le_refl
 @binV.eq_1))
 (And.intro (And.intro @binV.eq_2
 @binV.eq_3)
 (And.intro @binV.eq_4
 @binV.eq_5))))))
 (And.intro (And.intro (And.intro (And.intro (And.intro @binV.eq_6
 (And.intro @binV.eq_7
 @binV.eq_8))
 (And.intro (And.intro @binV.eq_9
 @binV.eq_10)
 (And.intro @binV.eq_11
 @binV.eq_12)))
 (And.intro (And.intro (And.intro @binV.eq_13
 @binV.eq_14)
 (And.intro @binV.eq_15
 @binV.eq_16))
 (And.intro (And.intro @binV.eq_17
 @binV.eq_18)
 (And.intro @binV.eq_19
 @binV.eq_20))))
 (And.intro (And.intro (And.intro (And.intro @binV.eq_21
 @binV.eq_22)
 (And.intro @binV.eq_23
 @binV.eq_24))
 (And.intro (And.intro @binV.eq_25
 @binV.eq_26)
 (And.intro @Int.toNat_natCast
 @List.take_zero.{0})))
 (And.intro (And.intro (And.intro @List.take_nil.{0}
 @List.take_succ_cons.{0})
 (And.intro @List.drop_zero.{0}
 @List.drop_nil.{0}))
 (And.intro (And.intro @List.drop_succ_cons.{0}
 @List.nil_append.{0})
 (And.intro @List.cons_append.{0}
 @List.append_nil.{0})))))
 (And.intro (And.intro (And.intro (And.intro @List.append_assoc.{0}
 (And.intro @List.map_cons.{0,0}
 @List.map_nil.{0,0}))
 (And.intro (And.intro (And.intro @forall_const.{0} @forall_const.{1})
 @imp_self)
 (And.intro @beq_self_eq_true.{0}
 @List.forall_mem_cons.{0})))
 (And.intro (And.intro (And.intro @eq_self.{1}
 @List.not_mem_nil.{0})
 (And.intro @false_imp_iff
 (And.intro @implies_true.{0} @implies_true.{1})))
 (And.intro (And.intro @Bool.not_true
 @Bool.not_false)
 (And.intro @cond_true.{1}
 @cond_false.{1}))))
 (And.intro (And.intro (And.intro (And.intro @cond_or
 @cond_and)
 (And.intro @s_at
 @row_at))
 (And.intro (And.intro @at2_at
 @rowsOf.eq_1)
 (And.intro @rowsOf.eq_2
 @rowsOf.eq_3)))
 (And.intro (And.intro (And.intro @rowsOf.eq_4
 @rowsOf.eq_5)
 (And.intro @rowsOf.eq_6
 @appOb.eq_1))
 (And.intro (And.intro @appOb.eq_2
 @appOb.eq_3)
 (And.intro @appOb.eq_4
 @appOb.eq_5))))))))
set_option linter.defProp false in
def VV:=And.intro W (And.intro (And.intro (And.intro @xexec.eq_10 (And.intro @Bool.true_or @Bool.false_or)) (And.intro (And.intro @Bool.or_true @Bool.or_false) (And.intro @Bool.and_false @Bool.false_and)))
 (And.intro (And.intro @Nat.sub_zero (And.intro @bytesOf.eq_1 @bytesOf.eq_2)) (And.intro @byteOfRow.eq_1 (And.intro @byteOfRow.eq_2 @UInt8.ofNat_toNat))))
set_option linter.defProp false in
def SS:=(And.intro (And.intro @List.length_cons.{0} (And.intro @List.length_nil.{0} @List.replicate_zero.{0})) (And.intro @List.replicate_succ.{0} (And.intro @List.cons_append.{0} @List.nil_append.{0})))
set_option linter.defProp false in
def RS:=And.intro (And.intro (And.intro @resVs.eq_1 @resVs.eq_2) (And.intro @resV.eq_1 @resV.eq_2)) VV
set_option linter.defProp false in
def LW:=(And.intro (And.intro (And.intro (And.intro @AllLt.eq_1 (And.intro @AllLt.eq_2 @List.getD_cons_zero.{0})) (And.intro @List.getD_cons_succ.{0} (And.intro @lt_u @lt_b))) (And.intro (And.intro @lt_i (And.intro @lt_s @lt_nil)) (And.intro @lt_lit (And.intro @lt_sl @lt_ep)))) (And.intro (And.intro (And.intro @lt_nilmap (And.intro @lt_nilptr @lt_own)) (And.intro @lt_sub (And.intro @lt_ptr @lt_rp))) (And.intro (And.intro @lt_mp (And.intro @lt_agg @lt_tup)) (And.intro @and_true (And.intro @true_and @and_self)))))
theorem VR.moved {w:World} {σ:Store} {μ:Mem} {σ':Store} {μ':Mem} {x:V} {v:Value} (h:VR w σ μ x v) {m:Nat} (hm:m≤σ'.length)
  (hw:∀ b off,wr σ' μ' b off→wr σ μ b off) (hat:∀ id,id<m→σ'[id]?=σ[id]?) (hmu:∀ id,id<m→μ' id=μ id) (hx:x.Lt m):VR w σ' μ' x v:=by
 induction h with
 | u v=>exact .u v
 | b x=>exact .b x
 | i k n=>exact .i k n
 | s l x hl hm=>exact .s l x hl hm
 | nil=>exact .nil
 | sl0 sz=>exact .sl0 sz
 | sle sz a=>exact .sle sz a
 | sl sz xs b o cap f hlen hcap hrow hc hv ih =>
  exact .sl sz xs b o cap f hlen hcap hrow (fun i j x hx=>⟨(hc i j x hx).1,fun h=>(hc i j x hx).2.1 (hw _ _ h),(hc i j x hx).2.2⟩) (fun i j x hx=>ih i j x hx (pure_lt (hc i j x hx).2.2 m))
 | lit0 sz=>exact .lit0 sz
 | lit sz xs b o f hcap hrow hc hv ih =>
  exact .lit sz xs b o f hcap hrow (fun i j x hx=>⟨(hc i j x hx).1,fun h=>(hc i j x hx).2.1 (hw _ _ h),(hc i j x hx).2.2⟩) (fun i j x hx=>ih i j x hx (pure_lt (hc i j x hx).2.2 m))
 | own id g v hid h =>
  cases hx with
  | own _ _ hl=>exact .own id g v (by omega) fun E sz by' g' sh xs ho=>by rw [hmu id hl];exact h E sz by' g' sh xs (hat id hl▸ho)
 | sub id g lo hi v hid h =>
  cases hx with
  | sub _ _ _ _ hl=>exact .sub id g lo hi v (by omega) fun E sz by' g' sh xs ho=>by rw [hmu id hl];exact h E sz by' g' sh xs (hat id hl▸ho)
 | ptr id off b h hm =>
  cases hx with
  | ptr _ _ hl =>
   obtain ⟨T,cs,h1⟩:=h
   exact .ptr id off b ⟨T,cs,(hat id hl).trans h1⟩ ((hmu id hl).trans hm)
 | ep sz xs i off b o f hi hrow hc hv ih =>
  exact .ep sz xs i off b o f hi hrow (fun j x hx=>⟨(hc j x hx).1,fun h=>(hc j x hx).2.1 (hw _ _ h),(hc j x hx).2.2⟩) (fun j x hx=>ih j x hx (pure_lt (hc j x hx).2.2 m))
 | rp id g i off v hid h =>
  cases hx with
  | rp _ _ _ _ hl=>exact .rp id g i off v (by omega) fun E sz by' g' sh xs ho=>by rw [hmu id hl];exact h E sz by' g' sh xs (hat id hl▸ho)
 | mp id r h hm =>
  cases hx with
  | mp _ hl =>
   obtain ⟨K,E,es,h1⟩:=h
   exact .mp id r ⟨K,E,es,(hat id hl).trans h1⟩ ((hmu id hl).trans hm)
 | nilmap=>exact .nilmap
 | nilptr=>exact .nilptr
 | fn f caps vs hl hv ih =>
  cases hx with
  | fn _ _ h=>exact .fn f caps vs hl fun i x hx=>ih i x hx (h i x hx)
 | agg xs vs hl hv ih =>
  cases hx with
  | agg _ h=>exact .agg xs vs hl fun i x hx=>ih i x hx (h i x hx)
 | tup xs vs hl hv ih =>
  cases hx with
  | tup _ h=>exact .tup xs vs hl fun i x hx=>ih i x hx (h i x hx)
def mv1 (n k:Nat):V→V
 | .own id g=>if id=n+k then .own n 0 else .own id g
 | .mp id=>.mp (if id=n+k then n else id)
 | x=>x
def Ob.gen:Ob→Nat
 | .row _ _ _ g _ _=>g
 | _=>0
def Ob.fresh:Ob→Ob
 | .row E sz by' _ sh xs=>.row E sz by' 0 sh xs
 | o=>o
def mvOK (n k g0:Nat):V→Prop
 | .own id g=>(id=n+k∧g=g0)∨id<n
 | .mp id=>id=n+k∨id<n
 | x=>x.Lt n
def Ob.flat:Ob→Bool
 | .row _ _ _ _ _ _ | .map _ _ _=>true
 | _=>false
theorem Wk.keep1 {P:Program} {xs:List V} {σ loc:Store} (k:Nat) {o:Ob} (hcl:Closed σ) (hk:loc[k]?=some o) (ho:o.flat=true) (hx:∀ x∈xs,mvOK σ.length k o.gen x) :
  Wk P σ.length xs (σ++loc) (xs.map (mv1 σ.length k)) (σ++[o.fresh]):=by
 intro B w0 w μ vs hS hC
 have hkl:k<loc.length:=(List.getElem?_eq_some_iff.1 hk).1
 let μ':Mem:=fun j=>if j=σ.length then μ (σ.length+k) else μ j
 have hmu:∀ id,id<σ.length→μ' id=μ id:=fun id h=>by simp only [μ'];rw [if_neg (by omega)]
 have hmu0:μ' σ.length=μ (σ.length+k):=by simp [μ']
 have hat:∀ id,id<σ.length→(σ++[o.fresh])[id]?=(σ++loc)[id]?:=fun id h=>by rw [List.getElem?_append_left h,List.getElem?_append_left h]
 have h0:(σ++[o.fresh])[σ.length]?=some o.fresh:=by simp
 have hk':(σ++loc)[σ.length+k]?=some o:=by rw [List.getElem?_append_right (by omega),Nat.add_sub_cancel_left];exact hk
 have cases0:∀ {id o'},(σ++[o.fresh])[id]?=some o'→(id<σ.length∧(σ++loc)[id]?=some o'∧μ' id=μ id)∨(id=σ.length∧o'=o.fresh):=by
  intro id o' h
  rcases Nat.lt_or_ge id σ.length with hl | hg
  ·exact .inl ⟨hl,hat id hl▸h,hmu id hl⟩
  ·right
   have hlt:=(List.getElem?_eq_some_iff.1 h).1
   simp at hlt
   have:id=σ.length:=by omega
   subst this
   rw [h0] at h
   exact ⟨rfl,(Option.some.inj h).symm⟩
 have hw:∀ b off,wr (σ++[o.fresh]) μ' b off→wr (σ++loc) μ b off:=by
  rintro b off ⟨id,o',h1,h2,h3⟩
  rcases cases0 h1 with ⟨h4,h5,h6⟩ | ⟨rfl,rfl⟩
  ·exact ⟨id,o',h5,h6▸h2,h3⟩
  ·exact ⟨σ.length+k,o,hk',hmu0▸h2,by cases o<;>exact h3⟩
 have mv:∀ {x v},VR w (σ++loc) μ x v→x.Lt σ.length→VR w (σ++[o.fresh]) μ' x v:=fun h hl=>h.moved (m:=σ.length) (by simp) hw hat hmu hl
 refine ⟨μ',⟨hS.below,hS.base,fun id o' ho'=>?_,fun i j oi oj b hi hj h1 h2 h3 h4=>?_⟩,⟨by simp [hC.1],fun i y hy=>?_⟩,fun x v hv hl=>mv hv hl⟩
 ·rcases cases0 ho' with ⟨h4,h5,h6⟩ | ⟨rfl,rfl⟩
  ·have hob:=hS.obj id o' h5
   rw [h6]
   cases o' with
   | dead=>trivial
   | box T cs =>
    obtain ⟨b,us,h1,h2,h3,h4',h5'⟩:=hob
    have hcs:=hcl id T cs (by rwa [List.getElem?_append_left h4] at h5)
    exact ⟨b,us,h1,h2,h3,h4',fun j x hj=>let ⟨u,h6,h7⟩:=h5' j x hj;⟨u,h6,mv h7 (hcs j x hj)⟩⟩
   | row E sz by' g sh rows =>
    obtain ⟨h1,vals,h2,h3⟩:=hob
    exact ⟨h1,vals,h2,h3.1,fun i j x hj=>let ⟨h4,u,h5,h6⟩:=h3.2 i j x hj;⟨h4,u,h5,mv h6 (pure_lt h4 _)⟩⟩
   | map K E es =>
    obtain ⟨r,ents,clock,h1,h2,h3,h4⟩:=hob
    exact ⟨r,ents,clock,h1,h2,h3,h4.1,fun i k x hi=>let ⟨h5,h6,e,h7,h8,h9⟩:=h4.2.1 i k x hi;⟨h5,h6,e,h7,mv h8 (mkey_lt h5 _),mv h9 (mval_lt h6 _)⟩,h4.2.2⟩
  ·have hob:=hS.obj (σ.length+k) o hk'
   rw [hmu0]
   cases o with
   | dead=>trivial
   | box T cs=>simp [Ob.flat] at ho
   | row E sz by' g sh rows =>
    obtain ⟨h1,vals,h2,h3⟩:=hob
    exact ⟨h1,vals,h2,h3.1,fun i j x hj=>let ⟨h4,u,h5,h6⟩:=h3.2 i j x hj;⟨h4,u,h5,mv h6 (pure_lt h4 _)⟩⟩
   | map K E es =>
    obtain ⟨r,ents,clock,h1,h2,h3,h4⟩:=hob
    exact ⟨r,ents,clock,h1,h2,h3,h4.1,fun i k x hi=>let ⟨h5,h6,e,h7,h8,h9⟩:=h4.2.1 i k x hi;⟨h5,h6,e,h7,mv h8 (mkey_lt h5 _),mv h9 (mval_lt h6 _)⟩,h4.2.2⟩
 ·rcases cases0 hi with ⟨i1,i2,i3⟩ | ⟨rfl,rfl⟩<;>rcases cases0 hj with ⟨j1,j2,j3⟩ | ⟨rfl,rfl⟩
  ·exact hS.sep i j oi oj b i2 j2 h1 h2 (i3▸h3) (j3▸h4)
  ·have:=hS.sep i (σ.length+k) oi o b i2 hk' h1 (by rintro rfl;exact h2 rfl) (i3▸h3) (hmu0▸h4)
   omega
  ·have:=hS.sep (σ.length+k) j o oj b hk' j2 (by rintro rfl;exact h1 rfl) h2 (hmu0▸h3) (j3▸h4)
   omega
  ·rfl
 ·rw [List.getElem?_map,Option.map_eq_some_iff] at hy
  obtain ⟨x,hx1,rfl⟩:=hy
  have hv:=hC.2 i x hx1
  have hok:=hx x (List.mem_of_getElem? hx1)
  cases x with
  | own id g =>
   simp only [mv1]
   split
   ·rename_i e
    subst e
    have hg:g=o.gen:=by
     simp only [mvOK,true_and] at hok
     omega
    cases o with
    | row E sz by' g' sh rows =>
     have hvv:g'=g:=hg.symm
     subst hvv
     have h1:=hv.inv_own hk'
     refine .own _ _ _ (by simp) fun E2 sz2 by2 g2 sh2 xs2 ho'=>?_
     rw [h0] at ho'
     simp only [Ob.fresh,Option.some.injEq,Ob.row.injEq] at ho'
     rw [hmu0]
     exact ⟨Nat.zero_le _,fun _=>h1⟩
    | _=>exact .own _ _ _ (by simp) fun E2 sz2 by2 g2 sh2 xs2 ho'=>by rw [h0] at ho';simp [Ob.fresh] at ho'
   ·rename_i e
    simp only [mvOK,e,false_and,false_or] at hok
    exact mv hv (.own _ _ hok)
  | mp id =>
   simp only [mv1]
   split
   ·rename_i e
    subst e
    obtain ⟨r,h1,h2,K,E,es,h3⟩:=hv.inv_mp
    rw [h1]
    refine .mp _ r ⟨K,E,es,?_⟩ (hmu0.trans h2)
    rw [h0]
    have h4:=hk'.symm.trans h3
    simp only [Option.some.injEq] at h4
    subst h4
    rfl
   ·rename_i e
    simp only [mvOK,e,false_or] at hok
    exact mv hv (.mp _ hok)
  | _=>exact mv hv hok
theorem ret_own {P:Program} {rs:List Rs} {Q:V→Store→Prop} {e:Exit} {fr:List V} {σ loc:Store} {xs:List V} (k:Nat) {o:Ob} (hcl:Closed σ) (he:e=.normal∨e=.ret) (hx:resVs ⟨fr,σ++loc⟩ rs=some xs)
  (hk:loc[k]?=some o) (ho:o.flat=true) (hl:∀ x∈xs,mvOK σ.length k o.gen x) (hQ:Q (one (xs.map (mv1 σ.length k))) (σ++[o.fresh])):retK P σ.length rs Q e ⟨fr,σ++loc⟩ :=
 ret_wk he hx (Wk.keep1 k hcl hk ho hl) (by simp) hQ
theorem PC.post {P:Program} {f:Nat} {args:List V} {σ σ0 σ1:Store} {r0 r1:V} (h:PC P f args σ (fun r σ'=>r=r0∧σ'=σ0)) (hw:Wk P σ.length [r0] σ0 [r1] σ1):PC P f args σ (fun r σ'=>r=r1∧σ'=σ1):=by
 intro B w0 w μ vs hS hv
 have hin:∀ x u,VR w σ μ x u→x.Lt σ.length:=fun x u h=>h.lt
 refine (h B w0 w μ vs hS hv).mono ?_
 rintro e w' ⟨r,v,σ',μ',he,⟨rfl,rfl⟩,h1,h2,h3⟩
 obtain ⟨μ2,h4,h5,h6⟩:=hw B w0 w' μ' #[v] h1 ⟨rfl,fun i x hx=>by
  cases i with
  | zero=>simp only [List.getElem?_cons_zero,Option.some.injEq] at hx;subst hx;simpa using h2
  | succ i=>simp at hx⟩
 exact ⟨r1,v,σ1,μ2,he,⟨rfl,rfl⟩,h4,by have:=h5.2 0 r1 rfl;simpa using this,fun x u hx=>h6 x u (h3 x u hx) (hin x u hx)⟩
theorem PC.fz {P:Program} {f:Nat} {args:List V} {σ:Store} {E sz by' g:Nat} {sh:Bool} {rows:List (List V)} (hcl:Closed σ)
  (h:PC P f args σ (fun r σ'=>r=.own σ.length g∧σ'=σ++[.row E sz by' g sh rows])):PC P f args σ (fun r σ'=>r=.sl sz rows∧σ'=σ):=by
 refine h.post ?_
 refine (Wk.fz σ.length (by simp;exact ⟨rfl,rfl,rfl,rfl,rfl,rfl⟩)).trans ?_
 rw [List.set_append_right _ _ (Nat.le_refl _),Nat.sub_self]
 simp only [List.map_cons,List.map_nil,Pm.fz,fz1,and_self,if_true]
 exact Wk.end0 hcl (by simp only [AllLt,lt_sl,and_self])
theorem call_fz {P:Program} {d:Option Nat} {f:Nat} {args:List O} {K:St→Prop} {fr:List V} {σ σ2:Store} {zs:List V} {v:V} (id:Nat) {E sz by' g:Nat} {sh:Bool} {rows:List (List V)} (ho:σ[id]?=some (.row E sz by' g sh rows))
  (h:PC P f zs (σ.set id (.row E sz by' g true rows)) (fun r σ'=>r=v∧σ'=σ2)) (hz:(args.map (ev fr)).map (fz id g sz rows)=zs) (hK:K ⟨setd fr d v,σ2⟩) :
  gI P ⟨d,[],.call f args⟩ K ⟨fr,σ⟩:=by
 subst hz
 exact call_eq (PC.wk (Wk.fz id ho) h) rfl hK
theorem PC.closed {P:Program} {f:Nat} {args:List V} {σ:Store} {Q:V→Store→Prop} (h:Closed σ→PC P f args σ Q):PC P f args σ Q :=
 fun B w0 w μ vs hS hv=>h hS.closed B w0 w μ vs hS hv
theorem Wk.cell {P:Program} {n:Nat} {xs:List V} {σ:Store} {id T j:Nat} {cs:List V} {x y:V} (hid:σ[id]?=some (.box T cs)) (hj:cs[j]?=some x)
  (hv:∀ (w:World) (μ:Mem) (v:Value),(∀ i o,σ[i]?=some o→∃ P B,ObOK P B w σ μ (μ i) o)→VR w σ μ x v→VR w σ μ y v):Wk P n xs σ xs (σ.set id (.box T (cs.set j y))):=by
 intro B w0 w μ vs hS hC
 have hlt:id<σ.length:=(List.getElem?_eq_some_iff.1 hid).1
 have hjl:j<cs.length:=(List.getElem?_eq_some_iff.1 hj).1
 have h:=hS.update (w':=w) (σ':=σ.set id (.box T (cs.set j y))) (μ':=μ) id none (grownBy_refl w none) (by simp) (by simp) (fun k hk=>List.getElem?_set_ne (fun e=>hk e.symm)) (fun k hk=>rfl)
  (fun b hb=>.inl ⟨_,hid,by simp,hb⟩)
  (fun b off v o ho hd hb hc hw=>⟨hc,fun o' ho' hb' ha=>hw ⟨id,o,ho,hb,by
   rw [hid] at ho;cases ho;trivial⟩⟩)
  (fun T' cs' h=>by rw [hid] at h;cases h;exact ⟨⟨_,by rw [List.getElem?_set_self hlt]⟩,rfl⟩)
  (fun K E es h=>by rw [hid] at h;cases h)
  (fun E sz by' g' sh ys _ h=>by rw [List.getElem?_set_self hlt] at h;simp at h)
  (fun hp o ho=>by
   rw [List.getElem?_set_self hlt] at ho
   simp only [Option.some.injEq] at ho
   subst ho
   obtain ⟨b,us,h1,h2,h3,h4,h5⟩:=hS.obj id _ hid
   refine ⟨b,us,h1,h2,h3,by simpa using h4,fun k z hz=>?_⟩
   by_cases hk:j=k
   ·subst hk
    rw [List.getElem?_set_self hjl] at hz
    simp only [Option.some.injEq] at hz
    subst hz
    obtain ⟨u,h6,h7⟩:=h5 j x hj
    exact ⟨u,h6,(hv w μ u (fun i o ho=>⟨P,B,hS.obj i o ho⟩) h7).mono hp⟩
   ·rw [List.getElem?_set_ne hk] at hz
    obtain ⟨u,h6,h7⟩:=h5 k z hz
    exact ⟨u,h6,h7.mono hp⟩)
 exact ⟨μ,h.1,⟨hC.1,fun i x hx=>(hC.2 i x hx).mono h.2⟩,h.2.keep.toN⟩
theorem Wk.renil {P:Program} {n:Nat} {xs:List V} {σ:Store} {id T j idr E sz by' g:Nat} {cs:List V} {sh:Bool} {rows:List (List V)} (hid:σ[id]?=some (.box T cs)) (hj:cs[j]?=some .nil) (hr:σ[idr]?=some (.row E sz by' g sh rows)) :
  Wk P n xs σ xs ((σ.set idr (.row E sz by' (g+1) false [])).set id (.box T (cs.set j (.own idr (g+1))))):=by
 have hne:id≠idr:=fun e=>by subst e;rw [hid] at hr;cases hr
 intro B w0 w μ vs hS hC
 have hlr:idr<σ.length:=(List.getElem?_eq_some_iff.1 hr).1
 obtain ⟨hT,_⟩:=hS.obj idr _ hr
 have h:=hS.update (w':=w) (σ':=σ.set idr (.row E sz by' (g+1) false [])) (μ':=upd μ idr (.slice none 0 0)) idr none (grownBy_refl w none) (by simp) (by simp) (fun k hk=>List.getElem?_set_ne (fun e=>hk e.symm)) (fun k hk=>upd_other _ _ _ _ hk)
  (fun b hb=>by rw [upd_same] at hb;simp [blk] at hb)
  (fun b off v o ho hd hb hc hw=>⟨hc,fun o' ho' hb'=>by rw [upd_same] at hb';simp [blk] at hb'⟩)
  (fun T' cs' h=>by rw [hr] at h;cases h)
  (fun K E es h=>by rw [hr] at h;cases h)
  (fun E2 sz2 by2 g' sh2 ys _ h=>by
   rw [List.getElem?_set_self hlr] at h
   simp only [Option.some.injEq,Ob.row.injEq] at h
   obtain ⟨rfl,rfl,rfl,rfl,rfl,rfl⟩:=h
   exact ⟨g,sh,rows,hr,by omega,fun e=>by omega⟩)
  (fun hp o ho=>by
   rw [List.getElem?_set_self hlr] at ho
   simp only [Option.some.injEq] at ho
   subst ho
   rw [upd_same]
   exact ⟨hT,[],World.ownsRow_nil w B E sz,by simp,by simp [at2]⟩)
 have hid2:(σ.set idr (.row E sz by' (g+1) false []))[id]?=some (.box T cs):=by rw [List.getElem?_set_ne (fun e=>hne e.symm)];exact hid
 have hr2:(σ.set idr (.row E sz by' (g+1) false []))[idr]?=some (.row E sz by' (g+1) false []):=by rw [List.getElem?_set_self hlr]
 have hlt2:id<(σ.set idr (.row E sz by' (g+1) false [])).length:=(List.getElem?_eq_some_iff.1 hid2).1
 have hjl:j<cs.length:=(List.getElem?_eq_some_iff.1 hj).1
 have h2:=h.1.update (w':=w) (σ':=(σ.set idr (.row E sz by' (g+1) false [])).set id (.box T (cs.set j (.own idr (g+1))))) (μ':=upd μ idr (.slice none 0 0)) id none (grownBy_refl w none) (by simp) (by simp) (fun k hk=>List.getElem?_set_ne (fun e=>hk e.symm)) (fun k hk=>rfl)
  (fun b hb=>.inl ⟨_,hid2,by simp,hb⟩)
  (fun b off v o ho hd hb hc hw=>⟨hc,fun o' ho' hb' ha=>hw ⟨id,o,ho,hb,by
   rw [hid2] at ho;cases ho;trivial⟩⟩)
  (fun T' cs' h=>by rw [hid2] at h;cases h;exact ⟨⟨_,by rw [List.getElem?_set_self hlt2]⟩,rfl⟩)
  (fun K E es h=>by rw [hid2] at h;cases h)
  (fun E sz by' g' sh ys _ h=>by rw [List.getElem?_set_self hlt2] at h;simp at h)
  (fun hp o ho=>by
   rw [List.getElem?_set_self hlt2] at ho
   simp only [Option.some.injEq] at ho
   subst ho
   obtain ⟨b,us,h1,h2,h3,h4,h5⟩:=h.1.obj id _ hid2
   refine ⟨b,us,h1,h2,h3,by simpa using h4,fun k z hz=>?_⟩
   by_cases hk:j=k
   ·subst hk
    rw [List.getElem?_set_self hjl] at hz
    simp only [Option.some.injEq] at hz
    subst hz
    obtain ⟨u,h6,h7⟩:=h5 j .nil hj
    have hu:=h7.inv_nil
    subst hu
    have:=(VR.ownNow (w:=w) (μ:=upd μ idr (.slice none 0 0)) hr2)
    rw [upd_same] at this
    exact ⟨_,h6,this.mono hp⟩
   ·rw [List.getElem?_set_ne hk] at hz
    obtain ⟨u,h6,h7⟩:=h5 k z hz
    exact ⟨u,h6,h7.mono hp⟩)
 exact ⟨_,h2.1,⟨hC.1,fun i x hx=>((hC.2 i x hx).mono h.2).mono h2.2⟩,fun x v hv hl=>(hv.mono h.2).mono h2.2⟩
theorem Wk.fieldnil {P:Program} {n:Nat} {xs:List V} {σ:Store} {id T j E sz by':Nat} {cs:List V} (hT:Ti P E sz by') (hid:σ[id]?=some (.box T cs)) (hj:cs[j]?=some .nil) :
  Wk P n xs σ xs ((σ.set id (.box T (cs.set j (.own σ.length 0))))++[.row E sz by' 0 false []]):=by
 intro B w0 w μ vs hS hC
 have hlt:id<σ.length:=(List.getElem?_eq_some_iff.1 hid).1
 have hn:=hS.newOb (w':=w) (.row E sz by' 0 false []) (.slice none 0 0) (grownBy_refl w none) (by simp [blk]) (fun _=>⟨hT,[],World.ownsRow_nil w B E sz,by simp,by simp [at2]⟩)
 have hr:(σ++[.row E sz by' 0 false []])[σ.length]?=some (.row E sz by' 0 false []):=by simp
 have hid2:(σ++[.row E sz by' 0 false []])[id]?=some (.box T cs):=by rw [List.getElem?_append_left hlt];exact hid
 have hlt2:id<(σ++[Ob.row E sz by' 0 false []]).length:=by simp;omega
 have hjl:j<cs.length:=(List.getElem?_eq_some_iff.1 hj).1
 have he:(σ.set id (.box T (cs.set j (.own σ.length 0))))++[Ob.row E sz by' 0 false []]=(σ++[Ob.row E sz by' 0 false []]).set id (.box T (cs.set j (.own σ.length 0))):=by rw [List.set_append_left _ _ hlt]
 rw [he]
 have h2:=hn.1.update (w':=w) (σ':=(σ++[Ob.row E sz by' 0 false []]).set id (.box T (cs.set j (.own σ.length 0)))) (μ':=upd μ σ.length (.slice none 0 0)) id none (grownBy_refl w none) (by simp) (by simp) (fun k hk=>List.getElem?_set_ne (fun e=>hk e.symm)) (fun k hk=>rfl)
  (fun b hb=>.inl ⟨_,hid2,by simp,hb⟩)
  (fun b off v o ho hd hb hc hw=>⟨hc,fun o' ho' hb' ha=>hw ⟨id,o,ho,hb,by
   rw [hid2] at ho;cases ho;trivial⟩⟩)
  (fun T' cs' h=>by rw [hid2] at h;cases h;exact ⟨⟨_,by rw [List.getElem?_set_self hlt2]⟩,rfl⟩)
  (fun K E es h=>by rw [hid2] at h;cases h)
  (fun E sz by' g' sh ys _ h=>by rw [List.getElem?_set_self hlt2] at h;simp at h)
  (fun hp o ho=>by
   rw [List.getElem?_set_self hlt2] at ho
   simp only [Option.some.injEq] at ho
   subst ho
   obtain ⟨b,us,h1,h2,h3,h4,h5⟩:=hn.1.obj id _ hid2
   refine ⟨b,us,h1,h2,h3,by simpa using h4,fun k z hz=>?_⟩
   by_cases hk:j=k
   ·subst hk
    rw [List.getElem?_set_self hjl] at hz
    simp only [Option.some.injEq] at hz
    subst hz
    obtain ⟨u,h6,h7⟩:=h5 j .nil hj
    have hu:=h7.inv_nil
    subst hu
    have:=(VR.ownNow (w:=w) (μ:=upd μ σ.length (.slice none 0 0)) hr)
    rw [upd_same] at this
    exact ⟨_,h6,this.mono hp⟩
   ·rw [List.getElem?_set_ne hk] at hz
    obtain ⟨u,h6,h7⟩:=h5 k z hz
    exact ⟨u,h6,h7.mono hp⟩)
 exact ⟨_,h2.1,⟨hC.1,fun i x hx=>((hC.2 i x hx).mono hn.2).mono h2.2⟩,fun x v hv hl=>(hv.mono hn.2).mono h2.2⟩
theorem PWc.cut {n:Nat} {P:Program} {a b:PCode} {K:Exit→St→Prop} {st:St} (h:∀ R:St→Prop,(∀ st',PWc n P b K st'→R st')→wpc n P a (rndR R K) st):PWc n P (.seq a b) K st:=by
 refine PWc.seq ?_
 refine (wpc_sound (h (PWc n P b K) fun _ h=>h)).mono fun e st' hk=>?_
 cases e<;>exact hk
theorem PWc.cvs {n:Nat} {P:Program} {c:PCode} {K:Exit→St→Prop} {fr fr':List V} {σ:Store} (k:PWc n P c K ⟨fr',σ⟩) (hc:Cvs fr fr'):PWc n P c K ⟨fr,σ⟩:=PWc.wk (Wk.cvs hc) k
theorem PWc.drop {n:Nat} {P:Program} {c:PCode} {K:Exit→St→Prop} {fr fr':List V} {σ:Store} (l loc:Store) (hn:n≤σ.length+l.length) (hcl:Closed (σ++l)) (hc:Cvs fr fr') (hl:AllLt (σ.length+l.length) fr') (k:PWc n P c K ⟨fr',σ++l⟩):PWc n P c K ⟨fr,σ++(l++loc)⟩:=by
 rw [← List.append_assoc]
 exact PWc.wk ((Wk.cvs hc).trans (Wk.drop0 (by rw [List.length_append];exact hn) hcl (by rw [List.length_append];exact allLt_iff.1 hl))) k
theorem closed_swap {σ l l':Store} (h:Closed (σ++l)) (hl:l.length≤l'.length) (hb:∀ o∈l',match o with | .box _ cs=>AllLt (σ.length+l'.length) cs | _=>True):Closed (σ++l'):=by
 intro id T cs hid j x hx
 rw [List.length_append]
 rcases Nat.lt_or_ge id σ.length with hlt | hge
 ·rw [List.getElem?_append_left hlt] at hid
  have:=h id T cs (by rw [List.getElem?_append_left hlt];exact hid) j x hx
  rw [List.length_append] at this
  exact this.mono (by omega)
 ·rw [List.getElem?_append_right hge] at hid
  have:=hb _ (List.mem_of_getElem? hid)
  simp only at this
  exact allLt_iff.1 this j x hx
inductive Mv (n:Nat) (loc:Store) (ks:List Nat):V→V→Prop
 | own (i k E sz by' g:Nat) (sh:Bool) (rows:List (List V)) (hk:ks[i]?=some k) (ho:loc[k]?=some (.row E sz by' g sh rows)):Mv n loc ks (.own (n+k) g) (.own (n+i) 0)
 | keep (x:V) (h:x.Lt n):Mv n loc ks x x
 | forget (x:V):Mv n loc ks x .u
 | agg (xs ys:List V) (hl:ys.length=xs.length) (h:∀ (i:Nat) (x y:V),xs[i]?=some x→ys[i]?=some y→Mv n loc ks x y):Mv n loc ks (.agg xs) (.agg ys)
inductive Mvs (n:Nat) (loc:Store) (ks:List Nat):List V→List V→Prop
 | nil:Mvs n loc ks [] []
 | cons {x y xs ys} (h:Mv n loc ks x y) (t:Mvs n loc ks xs ys):Mvs n loc ks (x::xs) (y::ys)
theorem Mvs.at {n:Nat} {loc:Store} {ks:List Nat} {xs ys:List V} (h:Mvs n loc ks xs ys):ys.length=xs.length∧∀ (i:Nat) (x y:V),xs[i]?=some x→ys[i]?=some y→Mv n loc ks x y:=by
 induction h with
 | nil=>simp
 | cons h t ih =>
  refine ⟨by simp [ih.1],fun i x y hx hy=>?_⟩
  cases i with
  | zero=>simp only [List.getElem?_cons_zero,Option.some.injEq] at hx hy;subst hx;subst hy;exact h
  | succ i=>exact ih.2 i x y (by simpa using hx) (by simpa using hy)
theorem Wk.keepL {P:Program} {xs ys:List V} {σ loc os:Store} (ks:List Nat) (hcl:Closed σ) (hnd:ks.Nodup) (hlen:os.length=ks.length)
  (hos:∀ (i k:Nat),ks[i]?=some k→∃ o,loc[k]?=some o∧o.flat=true∧os[i]?=some o.fresh) (hx:Mvs σ.length loc ks xs ys):Wk P σ.length xs (σ++loc) ys (σ++os):=by
 intro B w0 w μ vs hS hC
 let μ':Mem:=fun j=>if j<σ.length then μ j else μ (σ.length+ks.getD (j - σ.length) 0)
 have hmu:∀ id,id<σ.length→μ' id=μ id:=fun id h=>by simp only [μ'];rw [if_pos h]
 have hmuk:∀ i k,ks[i]?=some k→μ' (σ.length+i)=μ (σ.length+k):=fun i k hk=>by
  simp only [μ']
  rw [if_neg (by omega),Nat.add_sub_cancel_left,List.getD_eq_getElem?_getD,hk];rfl
 have hat:∀ id,id<σ.length→(σ++os)[id]?=(σ++loc)[id]?:=fun id h=>by rw [List.getElem?_append_left h,List.getElem?_append_left h]
 have hat1:∀ i,(σ++os)[σ.length+i]?=os[i]?:=fun i=>by rw [List.getElem?_append_right (by omega),Nat.add_sub_cancel_left]
 have hat2:∀ i,(σ++loc)[σ.length+i]?=loc[i]?:=fun i=>by rw [List.getElem?_append_right (by omega),Nat.add_sub_cancel_left]
 have cases0:∀ {id o'},(σ++os)[id]?=some o'→(id<σ.length∧(σ++loc)[id]?=some o'∧μ' id=μ id) ∨
   (∃ i k o,id=σ.length+i∧ks[i]?=some k∧(σ++loc)[σ.length+k]?=some o∧o.flat=true∧o'=o.fresh∧μ' id=μ (σ.length+k)):=by
  intro id o' h
  rcases Nat.lt_or_ge id σ.length with hl | hg
  ·exact .inl ⟨hl,hat id hl▸h,hmu id hl⟩
  ·right
   obtain ⟨i,rfl⟩:∃ i,id=σ.length+i:=⟨id - σ.length,by omega⟩
   rw [hat1] at h
   have hi:i<ks.length:=by rw [← hlen];exact (List.getElem?_eq_some_iff.1 h).1
   obtain ⟨k,hk⟩:∃ k,ks[i]?=some k:=⟨_,List.getElem?_eq_getElem hi⟩
   obtain ⟨o,h1,h2,h3⟩:=hos i k hk
   rw [h] at h3
   exact ⟨i,k,o,rfl,hk,by rw [hat2];exact h1,h2,Option.some.inj h3,hmuk i k hk⟩
 have hw:∀ b off,wr (σ++os) μ' b off→wr (σ++loc) μ b off:=by
  rintro b off ⟨id,o',h1,h2,h3⟩
  rcases cases0 h1 with ⟨h4,h5,h6⟩ | ⟨i,k,o,rfl,_,h5,h6,rfl,h7⟩
  ·exact ⟨id,o',h5,h6▸h2,h3⟩
  ·exact ⟨σ.length+k,o,h5,h7▸h2,by cases o<;>exact h3⟩
 have mv:∀ {x v},VR w (σ++loc) μ x v→x.Lt σ.length→VR w (σ++os) μ' x v:=fun h hl=>h.moved (m:=σ.length) (by simp) hw hat hmu hl
 obtain ⟨hxl,hxm⟩:=hx.at
 refine ⟨μ',⟨hS.below,hS.base,fun id o' ho'=>?_,fun i j oi oj b hi hj h1 h2 h3 h4=>?_⟩,⟨by rw [hxl];exact hC.1,fun i y hy=>?_⟩,fun x v hv hl=>mv hv hl⟩
 ·rcases cases0 ho' with ⟨h4,h5,h6⟩ | ⟨i,k,o,rfl,_,h5,h6,rfl,h7⟩
  ·have hob:=hS.obj id o' h5
   rw [h6]
   cases o' with
   | dead=>trivial
   | box T cs =>
    obtain ⟨b,us,h1,h2,h3,h4',h5'⟩:=hob
    have hcs:=hcl id T cs (by rwa [List.getElem?_append_left h4] at h5)
    exact ⟨b,us,h1,h2,h3,h4',fun j x hj=>let ⟨u,h6,h7⟩:=h5' j x hj;⟨u,h6,mv h7 (hcs j x hj)⟩⟩
   | row E sz by' g sh rows =>
    obtain ⟨h1,vals,h2,h3⟩:=hob
    exact ⟨h1,vals,h2,h3.1,fun i j x hj=>let ⟨h4,u,h5,h6⟩:=h3.2 i j x hj;⟨h4,u,h5,mv h6 (pure_lt h4 _)⟩⟩
   | map K E es =>
    obtain ⟨r,ents,clock,h1,h2,h3,h4⟩:=hob
    exact ⟨r,ents,clock,h1,h2,h3,h4.1,fun i k x hi=>let ⟨h5,h6,e,h7,h8,h9⟩:=h4.2.1 i k x hi;⟨h5,h6,e,h7,mv h8 (mkey_lt h5 _),mv h9 (mval_lt h6 _)⟩,h4.2.2⟩
  ·have hob:=hS.obj (σ.length+k) o h5
   rw [h7]
   cases o with
   | dead=>trivial
   | box T cs=>simp [Ob.flat] at h6
   | row E sz by' g sh rows =>
    obtain ⟨h1,vals,h2,h3⟩:=hob
    exact ⟨h1,vals,h2,h3.1,fun i j x hj=>let ⟨h4,u,h5,h6⟩:=h3.2 i j x hj;⟨h4,u,h5,mv h6 (pure_lt h4 _)⟩⟩
   | map K E es =>
    obtain ⟨r,ents,clock,h1,h2,h3,h4⟩:=hob
    exact ⟨r,ents,clock,h1,h2,h3,h4.1,fun i k x hi=>let ⟨h5,h6,e,h7,h8,h9⟩:=h4.2.1 i k x hi;⟨h5,h6,e,h7,mv h8 (mkey_lt h5 _),mv h9 (mval_lt h6 _)⟩,h4.2.2⟩
 ·have nd:∀ {o:Ob},o.fresh≠.dead→o≠.dead:=fun h e=>h (by rw [e];rfl)
  rcases cases0 hi with ⟨i1,i2,i3⟩ | ⟨i',k,o,rfl,ik,i5,_,rfl,i7⟩<;>rcases cases0 hj with ⟨j1,j2,j3⟩ | ⟨j',k',o',rfl,jk,j5,_,rfl,j7⟩
  ·exact hS.sep i j oi oj b i2 j2 h1 h2 (i3▸h3) (j3▸h4)
  ·have:=hS.sep i (σ.length+k') oi o' b i2 j5 h1 (nd h2) (i3▸h3) (j7▸h4)
   omega
  ·have:=hS.sep (σ.length+k) j o oj b i5 j2 (nd h1) h2 (i7▸h3) (j3▸h4)
   omega
  ·have e:=hS.sep (σ.length+k) (σ.length+k') o o' b i5 j5 (nd h1) (nd h2) (i7▸h3) (j7▸h4)
   have e:k=k':=by omega
   subst e
   have e2:i'=j':=by
    obtain ⟨l1,g1⟩:=List.getElem?_eq_some_iff.1 ik
    obtain ⟨l2,g2⟩:=List.getElem?_eq_some_iff.1 jk
    exact (List.getElem_inj hnd).1 (g1.trans g2.symm)
   rw [e2]
 ·have hil:i<xs.length:=by rw [← hxl];exact (List.getElem?_eq_some_iff.1 hy).1
  obtain ⟨x,hx1⟩:∃ x,xs[i]?=some x:=⟨_,List.getElem?_eq_getElem hil⟩
  have hv:=hC.2 i x hx1
  have hm:=hxm i x y hx1 hy
  clear hx1 hy hil
  generalize vs.getD i undef=v at hv ⊢
  induction hm generalizing v with
  | own i' k E sz by' g sh rows hk ho =>
   have hk':(σ++loc)[σ.length+k]?=some (.row E sz by' g sh rows):=by rw [hat2];exact ho
   have h1:=hv.inv_own hk'
   have hi':i'<os.length:=by rw [hlen];exact (List.getElem?_eq_some_iff.1 hk).1
   obtain ⟨o,q1,_,q3⟩:=hos i' k hk
   rw [ho] at q1
   simp only [Option.some.injEq] at q1
   subst q1
   refine .own _ _ _ (by simp;omega) fun E2 sz2 by2 g2 sh2 xs2 ho'=>?_
   rw [hat1,q3] at ho'
   simp only [Ob.fresh,Option.some.injEq,Ob.row.injEq] at ho'
   rw [hmuk i' k hk]
   exact ⟨Nat.zero_le _,fun _=>h1⟩
  | keep x h=>exact mv hv h
  | forget x=>exact .u _
  | agg as bs hl h ih =>
   obtain ⟨us,rfl,h1,h2⟩:=hv.inv_agg
   refine .agg bs us (by rw [hl,h1]) fun j y hj=>?_
   have hjl:j<as.length:=by rw [← hl];exact (List.getElem?_eq_some_iff.1 hj).1
   exact ih j _ y (List.getElem?_eq_getElem hjl) hj _ (h2 j _ (List.getElem?_eq_getElem hjl))
theorem Mv.aggs {n:Nat} {loc:Store} {ks:List Nat} {xs ys:List V} (h:Mvs n loc ks xs ys):Mv n loc ks (.agg xs) (.agg ys):=.agg xs ys h.at.1 h.at.2
theorem Sim.back {P:Program} {B:Nat} {w0 w:World} {σ loc:Store} {μ:Mem} (hcl:Closed σ) (hS:Sim P B w0 w (σ++loc) μ):Sim P B w0 w σ μ:=by
 have hat:∀ {id:Nat} {o:Ob},σ[id]?=some o→id<σ.length∧(σ++loc)[id]?=some o:=by
  intro id o h
  have hl:=(List.getElem?_eq_some_iff.1 h).1
  exact ⟨hl,by rw [List.getElem?_append_left hl];exact h⟩
 have tk:∀ {x:V} {v:Value},VR w (σ++loc) μ x v→x.Lt σ.length→VR w σ μ x v:=fun h hl=>by
  have:=h.take (m:=σ.length) (by simp) hl
  simpa using this
 refine ⟨hS.below,hS.base,fun id o ho=>?_,fun i j oi oj b hi hj h1 h2 h3 h4=>hS.sep i j oi oj b (hat hi).2 (hat hj).2 h1 h2 h3 h4⟩
 obtain ⟨hid,ho'⟩:=hat ho
 have hob:=hS.obj id o ho'
 cases o with
 | dead=>trivial
 | box T cs =>
  obtain ⟨b,us,h1,h2,h3,h4,h5⟩:=hob
  exact ⟨b,us,h1,h2,h3,h4,fun j x hj=>let ⟨u,h6,h7⟩:=h5 j x hj;⟨u,h6,tk h7 (hcl id T cs ho j x hj)⟩⟩
 | row E sz by' g sh rows =>
  obtain ⟨h1,vals,h2,h3⟩:=hob
  exact ⟨h1,vals,h2,h3.1,fun i j x hj=>let ⟨h4,u,h5,h6⟩:=h3.2 i j x hj;⟨h4,u,h5,tk h6 (pure_lt h4 _)⟩⟩
 | map K E es =>
  obtain ⟨r,ents,clock,h1,h2,h3,h4⟩:=hob
  exact ⟨r,ents,clock,h1,h2,h3,h4.1,fun i k x hi=>let ⟨h5,h6,e,h7,h8,h9⟩:=h4.2.1 i k x hi;⟨h5,h6,e,h7,tk h8 (mkey_lt h5 _),tk h9 (mval_lt h6 _)⟩,h4.2.2⟩
inductive Bv (n k:Nat) (cs:List V):V→V→Prop
 | ptr (off:Nat):Bv n k cs (.ptr (n+k) off) (.ep cs.length [cs] 0 off)
 | keep (x:V) (h:x.Lt n):Bv n k cs x x
 | forget (x:V):Bv n k cs x .u
inductive Bvs (n k:Nat) (cs:List V):List V→List V→Prop
 | nil:Bvs n k cs [] []
 | cons {x y xs ys} (h:Bv n k cs x y) (t:Bvs n k cs xs ys):Bvs n k cs (x::xs) (y::ys)
theorem Bvs.at {n k:Nat} {cs xs ys:List V} (h:Bvs n k cs xs ys):ys.length=xs.length∧∀ (i:Nat) (x y:V),xs[i]?=some x→ys[i]?=some y→Bv n k cs x y:=by
 induction h with
 | nil=>simp
 | cons h t ih =>
  refine ⟨by simp [ih.1],fun i x y hx hy=>?_⟩
  cases i with
  | zero=>simp only [List.getElem?_cons_zero,Option.some.injEq] at hx hy;subst hx;subst hy;exact h
  | succ i=>exact ih.2 i x y (by simpa using hx) (by simpa using hy)
theorem Wk.boxEp {P:Program} {n T:Nat} {xs ys cs:List V} {σ loc:Store} (k:Nat) (hn:n≤σ.length) (hcl:Closed σ) (hk:loc[k]?=some (.box T cs)) (hp:∀ c∈cs,c.pure=true) (hx:Bvs σ.length k cs xs ys):Wk P n xs (σ++loc) ys σ:=by
 intro B w0 w μ vs hS hC
 have tk:∀ {x:V} {v:Value},VR w (σ++loc) μ x v→x.Lt σ.length→VR w σ μ x v:=fun h hl=>by
  have:=h.take (m:=σ.length) (by simp) hl
  simpa using this
 obtain ⟨hxl,hxm⟩:=hx.at
 refine ⟨μ,hS.back hcl,⟨by rw [hxl];exact hC.1,fun i y hy=>?_⟩,fun x v hv hl=>tk hv (hl.mono hn)⟩
 have hil:i<xs.length:=by rw [← hxl];exact (List.getElem?_eq_some_iff.1 hy).1
 have hx1:=List.getElem?_eq_getElem hil
 have hv:=hC.2 i _ hx1
 generalize xs[i]=x at hx1 hv
 have hm:=hxm i x y hx1 hy
 cases hm with
 | keep _ h=>exact tk hv h
 | forget _=>exact .u _
 | ptr off =>
  obtain ⟨b,hmu,hve,_⟩:=hv.inv_ptr
  have hid:(σ++loc)[σ.length+k]?=some (.box T cs):=by rw [List.getElem?_append_right (by omega),Nat.add_sub_cancel_left];exact hk
  obtain ⟨b',us,h1,h2,h3,h4,h5⟩:=hS.obj _ _ hid
  rw [hmu] at h1
  simp only [Value.pointer.injEq,Option.some.injEq,Addr.mk.injEq,and_true] at h1
  subst h1
  rw [hve]
  have hat:∀ j x,at2 [cs] 0 j=some x→cs[j]?=some x:=fun j x h=>by simpa [at2] using h
  have:=VR.ep (w:=w) (σ:=σ) (μ:=μ) cs.length [cs] 0 off b 0 (fun j=>us.getD j undef) (by simp) (by simp)
   (fun j x hj=>by
    have hj:=hat j x hj
    obtain ⟨u,h6,h7⟩:=h5 j x hj
    refine ⟨?_,?_,hp x (List.mem_of_getElem? hj)⟩
    ·have:us.getD j undef=u:=by simp [Array.getD_eq_getD_getElem?,h6]
     rw [this]
     simp [World.cell?,h3,h6]
    ·rintro ⟨id,o,q1,q2,q3⟩
     have hl:=(List.getElem?_eq_some_iff.1 q1).1
     have:=hS.sep id (σ.length+k) o (.box T cs) b (by rw [List.getElem?_append_left hl];exact q1) hid (by rintro rfl;exact q3) (by simp) q2 (by simp [hmu,blk])
     omega)
   (fun j x hj=>by
    have hj:=hat j x hj
    obtain ⟨u,h6,h7⟩:=h5 j x hj
    have:us.getD j undef=u:=by simp [Array.getD_eq_getD_getElem?,h6]
    rw [this]
    exact tk h7 (pure_lt (hp x (List.mem_of_getElem? hj)) _))
  simpa using this
theorem rnd_stepW {n:Nat} {P:Program} {c:PCode} {K:Exit→St→Prop} {N:Nat} {st:St} (h:∀ R:St→Prop,(∀ st',Rnd n P c K N st'→R st')→PWc n P c (rndR R K) st):Rnd n P c K (N+1) st:=by
 simp only [Rnd]
 exact (h (Rnd n P c K N) fun _ h=>h).mono fun e st' hk=>by cases e<;>exact hk
theorem PWc.cutW {n:Nat} {P:Program} {a b:PCode} {K:Exit→St→Prop} {st:St} (h:∀ R:St→Prop,(∀ st',PWc n P b K st'→R st')→PWc n P a (rndR R K) st):PWc n P (.seq a b) K st:=by
 refine PWc.seq ?_
 refine (h (PWc n P b K) fun _ h=>h).mono fun e st' hk=>?_
 cases e<;>exact hk
theorem PWc.blk {n:Nat} {P:Program} {id:Nat} {c:PCode} {K:Exit→St→Prop} {st:St} (h:PWc n P c (blkK id K) st):PWc n P (.block id c) K st :=
 PWc.block (h.mono fun e st' hk=>by
  cases e with
  | exit id' =>
   simp only [blkK] at hk
   simp only [blockK]
   split at hk<;>rename_i h1<;>simp only [h1,if_true,if_false]<;>exact hk
  | _=>exact hk)
theorem PWc.iteT {n:Nat} {P:Program} {c:O} {x y:PCode} {K:Exit→St→Prop} {st:St} (hb:ev st.fr c=.b true) (h:PWc n P x K st):PWc n P (.ite c x y) K st :=
 PWc.ite hb (fun _=>h) (fun h=>by cases h)
theorem PWc.iteF {n:Nat} {P:Program} {c:O} {x y:PCode} {K:Exit→St→Prop} {st:St} (hb:ev st.fr c=.b false) (h:PWc n P y K st):PWc n P (.ite c x y) K st :=
 PWc.ite hb (fun h=>by cases h) (fun _=>h)
end Go.Pm
namespace Go.Pm
open Go
inductive CutAt:PCode→PCode→PCode→Prop
 | one (a b:PCode):CutAt (.seq a b) a b
 | more {a b c r:PCode} (h:CutAt b c r):CutAt (.seq a b) (.seq a c) r
theorem PWc.cutAt0 {n:Nat} {P:Program} {c a b:PCode} {K:Exit→St→Prop} (hc:CutAt c a b):∀ {st:St},wpc n P a (rndR (PWc n P b K) K) st→PWc n P c K st:=by
 induction hc with
 | one a b =>
  intro st h
  refine PWc.seq (PWc.mono (wpc_sound h) fun e st' hk=>?_)
  cases e<;>exact hk
 | more _ ih =>
  intro st h
  simp only [wpc] at h
  refine PWc.seq (PWc.mono (wpc_sound h) fun e st' hk=>?_)
  cases e with
  | normal=>exact ih hk
  | _=>exact hk
theorem PWc.cutAt {n:Nat} {P:Program} {c a b:PCode} {K:Exit→St→Prop} {st:St} (hc:CutAt c a b) (h:∀ R:St→Prop,(∀ st',PWc n P b K st'→R st')→wpc n P a (rndR R K) st):PWc n P c K st :=
 PWc.cutAt0 hc (h _ fun _ h=>h)
end Go.Pm
namespace Go.Pm
open Go Go.RowKit
theorem set_id_same {σ:Store} {id:Nat} {o:Ob} (h:σ[id]?=some o):σ.set id o=σ:=by
 apply List.ext_getElem?
 intro j
 by_cases hj:id=j
 ·subst hj
  rw [List.getElem?_set_self (List.getElem?_eq_some_iff.1 h).1,h]
 ·rw [List.getElem?_set_ne hj]
theorem PC.fzs {P:Program} {f:Nat} {args zs:List V} {σ:Store} {v:V} (id:Nat) {E sz by' g:Nat} {rows:List (List V)} (ho:σ[id]?=some (.row E sz by' g true rows))
  (h:PC P f zs σ (fun r σ'=>r=v∧σ'=σ)) (hz:args.map (Pm.fz id g sz rows)=zs):PC P f args σ (fun r σ'=>r=v∧σ'=σ):=by
 have hw:=Wk.fz (P:=P) (n:=σ.length) (xs:=args) id ho
 rw [set_id_same ho,hz] at hw
 exact PC.wk hw h
theorem Wk.share0 {P:Program} {n:Nat} {xs:List V} {σ:Store} {E sz by' g:Nat} {sh:Bool} {rows:List (List V)}:Wk P n xs (σ++[.row E sz by' g sh rows]) xs (σ++[.row E sz by' g true rows]):=by
 have:=Wk.share (P:=P) (n:=n) (xs:=xs) (σ:=σ++[.row E sz by' g sh rows]) (id:=σ.length) (E:=E) (sz:=sz) (by':=by') (g:=g) (sh:=sh) (rows:=rows) (by simp)
 rwa [List.set_append_right _ _ (Nat.le_refl _),Nat.sub_self] at this
end Go.Pm
namespace Go.Bt
open Go Go.Pm
section
variable {α β:Type} [DecidableEq α]
def findA (a:α):List (α×β)→Nat→Option (Nat×β)
 | [],_=>none
 | p::l,k=>if a=p.1 then some (k,p.2) else findA a l (k+1)
def getA (a:α) (l:List (α×β)):Option β:=(findA a l 0).map (·.2)
def updA (l:List (α×β)) (a:α) (b:β):List (α×β) :=
 match l with
 | []=>[(a,b)]
 | p::l=>if a=p.1 then (a,b)::l else p::updA l a b
def emap (ke:α→V) (ve:β→V) (l:List (α×β)):List (V×V):=l.map fun p=>(ke p.1,ve p.2)
theorem findA_shift (a:α):∀ (l:List (α×β)) (k:Nat),(findA a l k).map (·.2)=getA a l
 | [],_=>rfl
 | p::l,k=>by
  simp only [getA,findA]
  split
  ·rfl
  ·rw [findA_shift a l (k+1),findA_shift a l (0+1)]
theorem getA_nil (a:α):getA a ([]:List (α×β))=none:=rfl
theorem getA_cons (a:α) (p:α×β) (l:List (α×β)):getA a (p::l)=if a=p.1 then some p.2 else getA a l:=by
 simp only [getA,findA]
 split
 ·rfl
 ·rw [findA_shift a l (0+1)];rfl
theorem getA_upd (l:List (α×β)) (a:α) (b:β) (x:α):getA x (updA l a b)=if x=a then some b else getA x l:=by
 induction l with
 | nil=>simp only [updA,getA_cons,getA_nil]
 | cons p l ih =>
  simp only [updA]
  split
  ·rename_i h
   simp only [getA_cons]
   by_cases hx:x=a
   ·simp [hx]
   ·have:¬ x=p.1:=fun h2=>hx (h2.trans h.symm)
    simp [hx,this]
  ·rename_i h
   simp only [getA_cons,ih]
   by_cases hx:x=p.1
   ·have:¬ x=a:=fun h2=>h (h2.symm.trans hx)
    simp only [hx,if_true]
    split
    ·rename_i h3;exact absurd h3.symm h
    ·rfl
   ·simp [hx]
theorem updA_len (l:List (α×β)) (a:α) (b:β):(updA l a b).length≤l.length+1:=by
 induction l with
 | nil=>simp [updA]
 | cons p l ih =>
  simp only [updA]
  split<;>simp<;>omega
theorem updA_none {l:List (α×β)} {a:α} {b:β} (h:getA a l=none):updA l a b=l++[(a,b)]:=by
 induction l with
 | nil=>rfl
 | cons p l ih =>
  rw [getA_cons] at h
  split at h
  ·simp at h
  ·rename_i h1
   simp only [updA,h1,if_false,List.cons_append]
   rw [ih h]
variable {kd:Nat} {ke:α→V} {ve:β→V}
theorem findV_emap (hk:∀ a b,scalEq kd (ke a) (ke b)=some (decide (a=b))) (a:α):∀ (l:List (α×β)) (k:Nat),findV kd (ke a) (emap ke ve l) k=some ((findA a l k).map fun p=>(p.1,ve p.2))
 | [],k=>rfl
 | p::l,k=>by
  have ih:=findV_emap hk a l (k+1)
  simp only [emap,List.map_cons,findV,hk,findA] at ih ⊢
  by_cases h:a=p.1
  ·simp [h]
  ·simp only [h,decide_false,if_false];exact ih
theorem emap_set (a:α) (b:β):∀ (l:List (α×β)) (k i:Nat) (b0:β),findA a l k=some (k+i,b0)→(emap ke ve l).set i (ke a,ve b)=emap ke ve (updA l a b)
 | [],k,i,b0,h=>by simp [findA] at h
 | p::l,k,i,b0,h=>by
  simp only [findA] at h
  by_cases h1:a=p.1
  ·simp only [h1,if_true,Option.some.injEq,Prod.mk.injEq] at h
   have:i=0:=by omega
   subst this
   simp [emap,updA,h1]
  ·simp only [h1,if_false] at h
   have hi:∃ j,i=j+1:=by
    refine ⟨i - 1,?_⟩
    have:∀ (l:List (α×β)) (k n:Nat) (x:β),findA a l k=some (n,x)→k≤n:=by
     intro l
     induction l with
     | nil=>intro k n x h;simp [findA] at h
     | cons q l ih =>
      intro k n x h
      simp only [findA] at h
      split at h
      ·simp at h;omega
      ·have:=ih _ _ _ h;omega
    have:=this _ _ _ _ h
    omega
   obtain ⟨j,rfl⟩:=hi
   have:=emap_set a b l (k+1) j b0 (by rw [h];congr 2;omega)
   simp only [emap,List.map_cons,List.set_cons_succ,updA,h1,if_false] at this ⊢
   rw [this]
theorem emap_cases (hk:∀ a b,scalEq kd (ke a) (ke b)=some (decide (a=b))) (l:List (α×β)) (a:α) :
  (getA a l=none∧findV kd (ke a) (emap ke ve l) 0=some none∧∀ b,emap ke ve l++[(ke a,ve b)]=emap ke ve (updA l a b)) ∨
  (∃ i b0,getA a l=some b0∧findV kd (ke a) (emap ke ve l) 0=some (some (i,ve b0))∧∀ b,(emap ke ve l).set i (ke a,ve b)=emap ke ve (updA l a b)):=by
 cases h:findA a l 0 with
 | none =>
  have h1:getA a l=none:=by simp [getA,h]
  refine .inl ⟨h1,by rw [findV_emap hk,h];rfl,fun b=>?_⟩
  rw [updA_none h1]
  simp [emap]
 | some p =>
  obtain ⟨i,b0⟩:=p
  refine .inr ⟨i,b0,by simp [getA,h],by rw [findV_emap hk,h];rfl,fun b=>?_⟩
  exact emap_set a b l 0 i b0 (by rw [h];congr 2;omega)
end
def keI (n:Int):V:=.i .i64 n
def keS (s:List UInt8):V:=.s s
theorem keI_eq (a b:Int):scalEq 0 (keI a) (keI b)=some (decide (a=b)):=by
 simp [scalEq,keI];rfl
theorem keS_eq (a b:List UInt8):scalEq 1 (keS a) (keS b)=some (decide (a=b)):=by
 simp only [scalEq,keS,Option.some.injEq]
 rw [Bool.eq_iff_iff];simp
end Go.Bt

/- A part of the proof of the statement of the last text of this claim; its conditions stand there. -/
import Derived.Calls
import Derived.Below
import Derived.Laws.AppendOwn
import Derived.Laws.OwnMore
import Derived.Lib.LaidTab
set_option linter.all false
namespace Go
def AR.{u}:=@Array.getElem?_replicate.{u}
def AS.{u}:=@Array.getElem?_push_size.{u}
def Ef.{u}:=@List.all_nil.{u}
def Eg.{u}:=@Array.getElem?_eq_none.{u}
def El.{u}:=@List.idxOf_cons.{u}
def Em.{u}:=@List.drop_left'.{u}
def Fp.{u}:=@Classical.choose_spec.{u}
def Gy.{u}:=@Array.getElem?_setIfInBounds_self_of_lt.{u}
def IL.{u}:=@List.set_append_left.{u}
def IS.{u}:=@Ne.symm.{u}
def IT:=@Iff.rfl
def Lq.{u}:=@List.replicate_succ.{u}
def Lr.{u}:=@Array.toList_append.{u}
def Nn:=@Nat.mod_lt
def No.{u,v}:=@List.mem_filterMap.{u,v}
def Np.{u}:=@List.append_of_mem.{u}
def Nq:=@Int.not_lt
def Nr:=@Int.emod_lt_of_pos
def Q0:=@Nat.pow_succ
def Q1.{u,v}:=@List.pairwise_map.{u,v}
def Q2.{u}:=@List.any_eq_false.{u}
def QX:=@UInt8.not_lt
def QY:=@Nat.zero_mul
def QZ:=@Nat.sub_zero
def UA.{u}:=@Array.eq_empty_of_size_eq_zero.{u}
def UJ.{u}:=@List.drop_append_of_le_length.{u}
def UK:=@Int.le_refl
def Ut.{u}:=@Option.getD_none.{u}
def Uu:=@Nat.le_add_right
def Uv.{u}:=@List.take_length.{u}
def Uw.{u}:=@List.take_append.{u}
def Ux.{u,v}:=@List.lookup_cons.{u,v}
def Uy.{u,v}:=@List.getElem_map.{u,v}
def Uz.{u}:=@List.countP_cons.{u}
def XD.{u}:=@List.length_set.{u}
def XE:=@Int.emod_nonneg
def Yj:=@Nat.two_pow_add_eq_or_of_lt
def Yk.{u}:=@List.idxOf_lt_length_of_mem.{u}
def aB:=@Nat.le_refl
def aC:=@Bool.and_eq_true
def aD:=@Bool.false_eq_true
def aE.{u}:=@List.getD_cons_zero.{u}
def aF.{u}:=@List.getElem?_set_self.{u}
def aH.{u}:=@List.getElem?_append_left.{u}
def aI.{u,v}:=@Prod.mk.injEq.{u,v}
def aK:=@Nat.zero_add
def aN.{u}:=@List.getElem?_append_right.{u}
def aR.{u}:=@List.length_take.{u}
def aT.{u}:=@List.getD_cons_succ.{u}
def aU.{u}:=@List.mem_cons.{u}
def aY.{u}:=@Array.length_toList.{u}
def aZ.{u,v}:=@List.getElem?_map.{u,v}
def aa.{u}:=@Option.some.injEq.{u}
def aaU.{u}:=@List.nodup_iff_pairwise_ne.{u}
def aaV.{u}:=@List.drop_take.{u}
def aaW.{u}:=@List.append_cancel_left_eq.{u}
def aaX:=@Int.tmod_eq_emod_of_nonneg
def aaY:=@Int.pow_nonneg
def ab.{u}:=@List.length_cons.{u}
def ae.{u}:=@List.getElem?_eq_some_iff.{u}
def af7:=@Nat.pos_of_mul_pos_left
def af8:=@Nat.le_mul_of_pos_right
def af9.{u}:=@List.getElem?_set_self'.{u}
def afv.{u}:=@List.take_nil.{u}
def afw.{u,v}:=@List.length_filterMap_le.{u,v}
def afx.{u}:=@List.drop_nil.{u}
def afy.{u}:=@List.Pairwise.imp_of_mem.{u}
def afz:=@Bool.and_self
def ah.{u}:=@List.length_nil.{u}
def ak.{u}:=@List.nil_append.{u}
def akU.{u}:=@List.takeWhile_sublist.{u}
def akV:=@List.pairwise_lt_range
def akW.{u}:=@List.Sublist.length_le.{u}
def akZ.{u}:=@Array.getElem?_push_lt.{u}
def an:=@Int.toNat_natCast
def ao.{u}:=@List.getElem?_cons_zero.{u}
def aq.{u}:=@List.cons_append.{u}
def ar.{u,v}:=@Option.map_eq_some_iff.{u,v}
def aw.{u}:=@List.getElem?_eq_getElem.{u}
def ay.{u,v}:=@List.map_cons.{u,v}
def az.{u,v}:=@List.map_nil.{u,v}
def bC:=@Nat.add_zero
def bD.{u}:=@List.not_mem_nil.{u}
def bH.{u}:=@List.length_drop.{u}
def bI.{u}:=@List.all_eq_true.{u}
def bJ.{u}:=@List.take_of_length_le.{u}
def bK.{u,v}:=@List.mem_map.{u,v}
def bL.{u}:=@List.eq_nil_of_length_eq_zero.{u}
def bN.{u}:=@Array.getD_eq_getD_getElem?.{u}
def bQ.{u}:=@List.getElem?_cons_succ.{u}
def bR.{u}:=@List.getElem?_eq_none.{u}
def bV.{u}:=@List.forall_mem_cons.{u}
def bZ:=@Nat.le_trans
def bd.{u,v}:=@List.foldl_cons.{u,v}
def bf.{u}:=@List.append_nil.{u}
def bh.{u}:=@List.mem_of_getElem?.{u}
def bn.{u}:=@List.getElem?_set_ne.{u}
def bo:=@Classical.byContradiction
def bz.{u}:=@List.getElem?_take_of_lt.{u}
def cA:=@Nat.mul_le_mul_right
def cC.{u}:=@List.take_succ_cons.{u}
def cK.{u}:=@List.getElem_mem.{u}
def cU.{u,v}:=@Option.map_some.{u,v}
def cV.{u}:=@List.mem_filter.{u}
def cY.{u}:=@List.mem_cons_of_mem.{u}
def cZ.{u,v}:=@List.flatMap_cons.{u,v}
def ca.{u}:=@List.cons.injEq.{u}
def cd.{u}:=@List.eq_nil_iff_forall_not_mem.{u}
def cg.{u}:=@Array.getElem?_eq_some_iff.{u}
def ck.{u}:=@List.pairwise_cons.{u}
def cm:=@Bool.not_eq_true'
def ct.{u}:=@List.mem_of_mem_take.{u}
def cv.{u}:=@List.mem_singleton.{u}
def cx:=@Nat.add_sub_cancel_left
def dB.{u,v}:=@List.foldl_nil.{u,v}
def dC:=@Bool.not_eq_false'
def dE.{u,v}:=@List.map_congr_left.{u,v}
def dJ.{u}:=@Option.some.inj.{u}
def dK.{u}:=@List.length_pos_iff.{u}
def dM:=@Bool.true_and
def dQ.{u}:=@List.eq_nil_or_concat.{u}
def dU.{u}:=@List.set_cons_zero.{u}
def dV.{u}:=@List.getElem?_drop.{u}
def dd:=@List.mem_range
def dr.{u}:=@List.mem_iff_getElem?.{u}
def dt.{u}:=@List.concat_eq_append.{u}
def du:=@Bool.eq_iff_iff
def eU.{u}:=@List.drop_eq_getElem_cons.{u}
def eg.{u}:=@List.takeWhile_cons.{u}
def ei.{u}:=@Array.getElem?_setIfInBounds_ne.{u}
def fF:=@Nat.lt_of_lt_of_le
def fJ.{u}:=@List.take_zero.{u}
def fQ.{u}:=@List.filter_cons.{u}
def fT.{u}:=@List.set_append_right.{u}
def fU.{u}:=@Array.getElem?_modify.{u}
def fV:=@Nat.lt_or_ge
def fb.{u}:=@List.set_cons_succ.{u}
def fm:=@Int.fdiv_eq_ediv_of_nonneg
def fx.{u}:=@List.take_append_of_le_length.{u}
def fy.{u}:=@List.pairwise_append.{u}
def gE.{u}:=@List.pairwise_iff_getElem.{u}
def gN.{u}:=@List.drop_succ_cons.{u}
def gP.{u}:=@List.size_toArray.{u}
def gS.{u}:=@List.length_filter_le.{u}
def gU:=@Bool.not_true
def gV:=@Bool.false_and
def gW:=@Bool.and_true
def ga.{u,v}:=@Option.bind_eq_some_iff.{u,v}
def gd.{u}:=@List.getLast?_singleton.{u}
def gk.{u}:=@List.mem_of_mem_drop.{u}
def gm:=@Bool.or_eq_true
def iF:=@Nat.zero_le
def iG:=@Nat.mod_eq_of_lt
def iH.{u}:=@List.getLast?_append.{u}
def iI:=@Int.natCast_zero
def iJ:=@BitVec.ofInt_natCast
def iu:=@Nat.sub_self
def iv:=@Nat.min_eq_left
def iz.{u}:=@List.getElem?_take.{u}
def jG.{u,v}:=@Option.bind_some.{u,v}
def jH.{u,v}:=@List.flatMap_nil.{u,v}
def jI:=@BitVec.toNat_ofNat
def jL:=@Nat.mul_comm
def jM.{u,v,w}:=@List.map_map.{u,v,w}
def jS:=@Bool.not_false
def kM.{u}:=@List.all_cons.{u}
def kN:=@Bool.false_or
def kf.{u}:=@List.filter_cons_of_pos.{u}
def kg.{u}:=@List.ext_getElem?.{u}
def ky:=@List.getElem?_range
def kz.{u,v}:=@List.filterMap_cons.{u,v}
def lH.{u}:=@List.take_left'.{u}
def lJ.{u}:=@Array.size_append.{u}
def lh.{u}:=@List.mem_cons_self.{u}
def lj:=@Bool.true_eq_false
def lk.{u}:=@Array.mem_of_getElem?.{u}
def mJ:=@UInt8.toNat_ofNat'
def mY:=@UInt8.toNat_inj
def mZ.{u}:=@List.filter_nil.{u}
def ma.{u}:=@Option.some_or.{u}
def mb.{u}:=@List.take_left.{u}
def mc.{u}:=@List.length_eq_zero_iff.{u}
def me.{u}:=@List.isEmpty_nil.{u}
def mf.{u}:=@List.filter_cons_of_neg.{u}
def mg.{u}:=@List.drop_zero.{u}
def oS.{u}:=@Option.getD_some.{u}
def oT.{u}:=@List.drop_length.{u}
def oU.{u}:=@List.mem_of_find?_eq_some.{u}
def oh:=@Nat.one_mul
def om:=@Nat.div_lt_of_lt_mul
def oo.{u}:=@List.mem_append_left.{u}
def oq:=@Bool.or_eq_false_iff
def ot.{u}:=@Array.getElem?_append_left.{u}
def qC:=@Nat.mul_one
def qy:=@Nat.lt_of_le_of_lt
def qz.{u}:=@List.find?_eq_none.{u}
def r8.{u}:=@List.singleton_append.{u}
def r9.{u}:=@List.getElem?_toArray.{u}
def rq:=@List.range_succ_eq_map
def ru.{u}:=@List.nodup_append.{u}
def rv.{u}:=@List.isEmpty_cons.{u}
def ry.{u}:=@List.drop_eq_nil_of_le.{u}
def sa.{u}:=@Array.getElem?_toList.{u}
def tM:=@Nat.pow_le_pow_right
def tN.{u}:=@List.Pairwise.filter.{u}
def tf.{u,v}:=@Array.toList_map.{u,v}
def vA.{u}:=@Array.getElem?_setIfInBounds.{u}
def vy:=@List.range_succ
def vz.{u}:=@List.find?_some.{u}
def we.{u}:=@List.countP_eq_zero.{u}
def wo:=@Int.zero_add
def ye.{u}:=@List.take_take.{u}
def yf:=@Bool.and_false
def zR.{u,v}:=@List.foldl_append.{u,v}
def zS.{u}:=@List.flatten_cons.{u}
def zT:=@Bool.not_eq_false
end Go

namespace Go.Pm
open Go Go.RowKit
inductive V where
 | u
 | b (x:Bool)
 | i (k:IntKind) (n:Int)
 | s (l:List UInt8)
 | nil
 | lit (sz:Nat) (xs:List (List V))
 | sl (sz:Nat) (xs:List (List V))
 | own (id g:Nat)
 | sub (id g lo hi:Nat)
 | ptr (id off:Nat)
 | ep (sz:Nat) (xs:List (List V)) (i off:Nat)
 | rp (id g i off:Nat)
 | mp (id:Nat)
 | jc
 | jO
 | fn (f:Nat) (caps:List V)
 | agg (xs:List V)
 | iK (xs:List V)
def V.pure:V→Bool
 | .b _ | .i _ _ | .s _ | .sl _ _=>true
 | _=>false
def V.cell:V→Bool
 | .u | .agg _ | .iK _=>false
 | _=>true
inductive Ob where
 | dead
 | box (T:Nat) (cs:List V)
 | row (E sz by':Nat) (g:Nat) (sh:Bool) (xs:List (List V))
 | map (K E:Nat) (es:List (V×V))
abbrev ag:=List Ob
abbrev Mem:=Nat→Value
def lf:Value→Option Nat
 | .pointer (some a)=>some a.block
 | .slice (some a) _ _=>some a.block
 | .map (some r)=>some r
 | _=>none
def Ob.wat(off:Nat):Ob→Prop
 | .dead=>False
 | .box _ _=>True
 | .row _ sz _ _ sh xs=>sh=true→xs.length*sz≤off
 | .map _ _ _=>True
def wr(σ:ag)(μ:Mem)(b off:Nat):Prop:=∃ id o,σ[id]?=some o∧lf (μ id)=some b∧o.wat off
def fe(xs:List (List V))(i j:Nat):Option V:=(xs[i]?).bind (·[j]?)
def pW(v:Value)(lo hi sz:Nat):Value :=
 match v with
 | .slice a _ cap=>.slice (if cap=lo then a else a.map (·.add (lo*sz))) (hi - lo) (cap - lo)
 | v=>v
def rpv(v:Value)(i off sz:Nat):Value :=
 match v with
 | .slice (some a) _ _=>.pointer (some ⟨a.block,i*sz+off,none⟩)
 | v=>v
inductive VR (w:World) (σ:ag) (μ:Mem):V→Value→Prop
 | u (v:Value):VR w σ μ .u v
 | b (x:Bool):VR w σ μ (.b x) (.bool x)
 | i (k:IntKind) (n:Int):VR w σ μ (.i k n) (.int k n)
 | s (l:List UInt8) (x:ByteArray) (hl:x.data.toList=l) (hm:l.length≤maxLen):VR w σ μ (.s l) (.string x)
 | nil:VR w σ μ .nil (.slice none 0 0)
 | yq (sz:Nat):VR w σ μ (.sl sz []) (.slice none 0 0)
 | sle (sz:Nat) (a:Addr):VR w σ μ (.sl sz []) (.slice (some a) 0 0)
 | sl (sz:Nat) (xs:List (List V)) (b o cap:Nat) (f:Nat→Nat→Value) (hlen:xs.length≤cap) (nI:cap≤maxLen) (cP:∀ r∈xs,r.length=sz)
   (hc:∀ i j x,fe xs i j=some x→w.cell? ⟨b,o+i*sz+j,none⟩=some (f i j)∧¬ wr σ μ b (o+i*sz+j)∧x.pure=true)
   (hv:∀ i j x,fe xs i j=some x→VR w σ μ x (f i j)):VR w σ μ (.sl sz xs) (.slice (some ⟨b,o,none⟩) xs.length cap)
 | HY (sz:Nat):VR w σ μ (.lit sz []) (.slice none 0 0)
 | lit (sz:Nat) (xs:List (List V)) (b o:Nat) (f:Nat→Nat→Value) (nI:xs.length≤maxLen) (cP:∀ r∈xs,r.length=sz)
   (hc:∀ i j x,fe xs i j=some x→w.cell? ⟨b,o+i*sz+j,none⟩=some (f i j)∧¬ wr σ μ b (o+i*sz+j)∧x.pure=true)
   (hv:∀ i j x,fe xs i j=some x→VR w σ μ x (f i j)):VR w σ μ (.lit sz xs) (.slice (some ⟨b,o,none⟩) xs.length xs.length)
 | own (id g:Nat) (v:Value) (hid:id<σ.length) (h:∀ E sz by' g' sh xs,σ[id]?=some (.row E sz by' g' sh xs)→g≤g'∧(g=g'→v=μ id)):VR w σ μ (.own id g) v
 | sub (id g lo hi:Nat) (v:Value) (hid:id<σ.length)
   (h:∀ E sz by' g' sh xs,σ[id]?=some (.row E sz by' g' sh xs)→g≤g'∧(g=g'→lo≤hi∧hi≤xs.length∧v=pW (μ id) lo hi sz)):VR w σ μ (.sub id g lo hi) v
 | ptr (id off b:Nat) (h:∃ T cs,σ[id]?=some (.box T cs)) (hm:μ id=.pointer (some ⟨b,0,none⟩)):VR w σ μ (.ptr id off) (.pointer (some ⟨b,off,none⟩))
 | ep (sz:Nat) (xs:List (List V)) (i off b o:Nat) (f:Nat→Value) (hi:i<xs.length) (cP:∀ r∈xs,r.length=sz)
   (hc:∀ j x,fe xs i j=some x→w.cell? ⟨b,o+j,none⟩=some (f j)∧¬ wr σ μ b (o+j)∧x.pure=true)
   (hv:∀ j x,fe xs i j=some x→VR w σ μ x (f j)):VR w σ μ (.ep sz xs i off) (.pointer (some ⟨b,o+off,none⟩))
 | rp (id g i off:Nat) (v:Value) (hid:id<σ.length)
   (h:∀ E sz by' g' sh xs,σ[id]?=some (.row E sz by' g' sh xs)→g≤g'∧(g=g'→i<xs.length∧v=rpv (μ id) i off sz)):VR w σ μ (.rp id g i off) v
 | mp (id r:Nat) (h:∃ K E es,σ[id]?=some (.map K E es)) (hm:μ id=.map (some r)):VR w σ μ (.mp id) (.map (some r))
 | jc:VR w σ μ .jc (.map none)
 | jO:VR w σ μ .jO (.pointer none)
 | fn (f:Nat) (caps:List V) (vs:Array Value) (hl:caps.length=vs.size) (hv:∀ i x,caps[i]?=some x→VR w σ μ x (vs.getD i undef)) :
   VR w σ μ (.fn f caps) (.func (.func f) #[] vs)
 | agg (xs:List V) (vs:Array Value) (hl:xs.length=vs.size) (hv:∀ i x,xs[i]?=some x→VR w σ μ x (vs.getD i undef)):VR w σ μ (.agg xs) (.agg vs)
 | iK (xs:List V) (vs:Array Value) (hl:xs.length=vs.size) (hv:∀ i x,xs[i]?=some x→VR w σ μ x (vs.getD i undef)):VR w σ μ (.iK xs) (.tuple vs)
inductive V.Lt (n:Nat):V→Prop
 | u:Lt n .u
 | b (x):Lt n (.b x)
 | i (k a):Lt n (.i k a)
 | s (l):Lt n (.s l)
 | nil:Lt n .nil
 | lit (sz xs):Lt n (.lit sz xs)
 | sl (sz xs):Lt n (.sl sz xs)
 | own (id g) (h:id<n):Lt n (.own id g)
 | sub (id g lo hi) (h:id<n):Lt n (.sub id g lo hi)
 | ptr (id off) (h:id<n):Lt n (.ptr id off)
 | ep (sz xs i off):Lt n (.ep sz xs i off)
 | rp (id g i off) (h:id<n):Lt n (.rp id g i off)
 | mp (id) (h:id<n):Lt n (.mp id)
 | jc:Lt n .jc
 | jO:Lt n .jO
 | fn (f caps) (h:∀ (i:Nat) (x:V),caps[i]?=some x→Lt n x):Lt n (.fn f caps)
 | agg (xs) (h:∀ (i:Nat) (x:V),xs[i]?=some x→Lt n x):Lt n (.agg xs)
 | iK (xs) (h:∀ (i:Nat) (x:V),xs[i]?=some x→Lt n x):Lt n (.iK xs)
theorem VR.lt{w:World}{σ:ag}{μ:Mem}{x:V}{v:Value}(h:VR w σ μ x v):x.Lt σ.length:=by
 induction h with
 | u v=>exact .u
 | b x=>exact .b x
 | i k n=>exact .i k n
 | s l x hl hm=>exact .s l
 | nil=>exact .nil
 | yq sz=>exact .sl sz _
 | sle sz a=>exact .sl sz _
 | sl sz xs b o cap f hlen nI cP hc hv ih=>exact .sl sz xs
 | HY sz=>exact .lit sz _
 | lit sz xs b o f nI cP hc hv ih=>exact .lit sz xs
 | own id g v hid h=>exact .own id g hid
 | sub id g lo hi v hid h=>exact .sub id g lo hi hid
 | ptr id off b h hm =>
  obtain⟨T,cs,h1⟩:=h;exact .ptr id off (ae.1 h1).1
 | ep sz xs i off b o f hi cP hc hv ih=>exact .ep sz xs i off
 | rp id g i off v hid h=>exact .rp id g i off hid
 | mp id r h hm =>
  obtain⟨K,E,es,h1⟩:=h;exact .mp id (ae.1 h1).1
 | jc=>exact .jc
 | jO=>exact .jO
 | fn f caps vs hl hv ih=>exact .fn f caps ih
 | agg xs vs hl hv ih=>exact .agg xs ih
 | iK xs vs hl hv ih=>exact .iK xs ih
theorem V.Lt.mono{n m:Nat}{x:V}(h:x.Lt n)(hm:n≤m):x.Lt m:=by
 induction h with
 | u=>exact .u
 | b x=>exact .b x
 | i k a=>exact .i k a
 | s l=>exact .s l
 | nil=>exact .nil
 | lit sz xs=>exact .lit sz xs
 | sl sz xs=>exact .sl sz xs
 | own id g h=>exact .own id g (fF h hm)
 | sub id g lo hi h=>exact .sub id g lo hi (fF h hm)
 | ptr id off h=>exact .ptr id off (fF h hm)
 | ep sz xs i off=>exact .ep sz xs i off
 | rp id g i off h=>exact .rp id g i off (fF h hm)
 | mp id h=>exact .mp id (fF h hm)
 | jc=>exact .jc
 | jO=>exact .jO
 | fn f caps h ih=>exact .fn f caps ih
 | agg xs h ih=>exact .agg xs ih
 | iK xs h ih=>exact .iK xs ih
structure pF (w:World) (σ:ag) (μ:Mem) (w':World) (σ':ag) (μ':Mem):Prop where
 cell:∀ b o v,w.cell? ⟨b,o,none⟩=some v→¬ wr σ μ b o→w'.cell? ⟨b,o,none⟩=some v∧¬ wr σ' μ' b o
 len:σ.length≤σ'.length
 box:∀ id T cs,σ[id]?=some (.box T cs)→(∃ cs',σ'[id]?=some (.box T cs'))∧μ' id=μ id
 map:∀ id K E es,σ[id]?=some (.map K E es)→(∃ es',σ'[id]?=some (.map K E es'))∧μ' id=μ id
 row:∀ id E sz by' g' sh xs,id<σ.length→σ'[id]?=some (.row E sz by' g' sh xs)→∃ g sh0 xs0,σ[id]?=some (.row E sz by' g sh0 xs0)∧g≤g'∧(g=g'→xs0.length=xs.length∧μ' id=μ id)
theorem VR.mono{w:World}{σ:ag}{μ:Mem}{w':World}{σ':ag}{μ':Mem}(p:pF w σ μ w' σ' μ'){x:V}{v:Value}(h:VR w σ μ x v):VR w' σ' μ' x v:=by
 induction h with
 | u v=>exact .u v
 | b x=>exact .b x
 | i k n=>exact .i k n
 | s l x hl hm=>exact .s l x hl hm
 | nil=>exact .nil
 | yq sz=>exact .yq sz
 | sle sz a=>exact .sle sz a
 | sl sz xs b o cap f hlen nI cP hc hv ih =>
  exact .sl sz xs b o cap f hlen nI cP (fun i j x hx=>⟨(p.cell _ _ _ (hc i j x hx).1 (hc i j x hx).2.1).1,(p.cell _ _ _ (hc i j x hx).1 (hc i j x hx).2.1).2,(hc i j x hx).2.2⟩) ih
 | HY sz=>exact .HY sz
 | lit sz xs b o f nI cP hc hv ih =>
  exact .lit sz xs b o f nI cP (fun i j x hx=>⟨(p.cell _ _ _ (hc i j x hx).1 (hc i j x hx).2.1).1,(p.cell _ _ _ (hc i j x hx).1 (hc i j x hx).2.1).2,(hc i j x hx).2.2⟩) ih
 | own id g v hid h =>
  refine .own id g v (fF hid p.len) fun E sz by' g' sh xs hs=>?_;obtain⟨g1,sh',xs',h1,h2,h3⟩:=p.row id E sz by' g' sh xs hid hs;have h4:=h _ _ _ _ _ _ h1;refine⟨bZ h4.1 h2,fun hg=>?_⟩;have e1:g1=g':=by omega
  rw[(h3 e1).2];exact h4.2 (by omega)
 | sub id g lo hi v hid h =>
  refine .sub id g lo hi v (fF hid p.len) fun E sz by' g' sh xs hs=>?_;obtain⟨g1,sh',xs',h1,h2,h3⟩:=p.row id E sz by' g' sh xs hid hs;have h4:=h _ _ _ _ _ _ h1;refine⟨bZ h4.1 h2,fun hg=>?_⟩;have e1:g1=g':=by omega
  rw[(h3 e1).2,← (h3 e1).1];exact h4.2 (by omega)
 | ptr id off b h hm =>
  obtain⟨T,cs,h1⟩:=h;obtain⟨⟨cs',h2⟩,h3⟩:=p.box id T cs h1;exact .ptr id off b ⟨T,cs',h2⟩ (h3.trans hm)
 | ep sz xs i off b o f hi cP hc hv ih =>
  exact .ep sz xs i off b o f hi cP (fun j x hx=>⟨(p.cell _ _ _ (hc j x hx).1 (hc j x hx).2.1).1,(p.cell _ _ _ (hc j x hx).1 (hc j x hx).2.1).2,(hc j x hx).2.2⟩) ih
 | rp id g i off v hid h =>
  refine .rp id g i off v (fF hid p.len) fun E sz by' g' sh xs hs=>?_;obtain⟨g1,sh',xs',h1,h2,h3⟩:=p.row id E sz by' g' sh xs hid hs;have h4:=h _ _ _ _ _ _ h1;refine⟨bZ h4.1 h2,fun hg=>?_⟩;have e1:g1=g':=by omega
  rw[(h3 e1).2,← (h3 e1).1];exact h4.2 (by omega)
 | mp id r h hm =>
  obtain⟨K,E,es,h1⟩:=h;obtain⟨⟨es',h2⟩,h3⟩:=p.map id K E es h1;exact .mp id r ⟨K,E,es',h2⟩ (h3.trans hm)
 | jc=>exact .jc
 | jO=>exact .jO
 | fn f caps vs hl hv ih=>exact .fn f caps vs hl ih
 | agg xs vs hl hv ih=>exact .agg xs vs hl ih
 | iK xs vs hl hv ih=>exact .iK xs vs hl ih
theorem pF.refl(w:World)(σ:ag)(μ:Mem):pF w σ μ w σ μ :=
 ⟨fun _ _ _ h h'=>⟨h,h'⟩,aB _,fun _ _ cs h=>⟨⟨cs,h⟩,rfl⟩,fun _ _ _ es h=>⟨⟨es,h⟩,rfl⟩,fun _ _ _ _ g sh xs _ h=>⟨g,sh,xs,h,aB _,fun _=>⟨rfl,rfl⟩⟩⟩
def pG(w:World)(σ:ag)(μ:Mem)(w':World)(σ':ag)(μ':Mem):Prop:=∀ x v,VR w σ μ x v→VR w' σ' μ' x v
theorem pF.bY{w:World}{σ:ag}{μ:Mem}{w':World}{σ':ag}{μ':Mem}(p:pF w σ μ w' σ' μ'):pG w σ μ w' σ' μ':=fun _ _ h=>h.mono p
def fP(n:Nat)(w:World)(σ:ag)(μ:Mem)(w':World)(σ':ag)(μ':Mem):Prop:=∀ x v,VR w σ μ x v→x.Lt n→VR w' σ' μ' x v
theorem pG.Nv{n:Nat}{w:World}{σ:ag}{μ:Mem}{w':World}{σ':ag}{μ':Mem}(k:pG w σ μ w' σ' μ'):fP n w σ μ w' σ' μ':=fun x v h _=>k x v h
theorem fP.refl(n:Nat)(w:World)(σ:ag)(μ:Mem):fP n w σ μ w σ μ:=fun _ _ h _=>h
theorem fP.trans{n:Nat}{w:World}{σ:ag}{μ:Mem}{w':World}{σ':ag}{μ':Mem}{w'':World}{σ'':ag}{μ'':Mem}
  (h:fP n w σ μ w' σ' μ') (k:fP n w' σ' μ' w'' σ'' μ''):fP n w σ μ w'' σ'' μ'':=fun x v hx hl=>k x v (h x v hx hl) hl
theorem pG.refl(w:World)(σ:ag)(μ:Mem):pG w σ μ w σ μ:=fun _ _ h=>h
theorem pG.trans{w:World}{σ:ag}{μ:Mem}{w':World}{σ':ag}{μ':Mem}{w'':World}{σ'':ag}{μ'':Mem}
  (h:pG w σ μ w' σ' μ') (k:pG w' σ' μ' w'' σ'' μ''):pG w σ μ w'' σ'' μ'':=fun x v hx=>k x v (h x v hx)
def Ti(P:Program)(E sz by':Nat):Prop :=
 0<sz∧∃ (t:TypeInfo) (z:Value),P.info? E=some t∧t.zero=some z∧t.size=sz∧t.bytes=by'∧z.cells.size=sz
def mq(w:World)(σ:ag)(μ:Mem)(xs:List (List V))(sz:Nat)(vals:List Value):Prop :=
 (∀ r∈xs,r.length=sz)∧∀ i j x,fe xs i j=some x→x.pure=true∧∃ v,vals[i*sz+j]?=some v∧VR w σ μ x v
def V.abA:V→Bool
 | .i _ _ | .s _ | .b _=>true
 | _=>false
def V.qi:V→Bool
 | .i _ _ | .s _ | .b _=>true
 | .agg xs=>xs.all V.abA
 | _=>false
def V.BQ:V→Bool
 | .agg xs=>xs.all V.pure
 | x=>x.pure
def Us(w:World)(σ:ag)(μ:Mem)(es:List (V×V))(ents:Array MapEntry)(clock:Nat):Prop :=
 ents.size=es.length∧(∀ (i:Nat) (k x:V),es[i]?=some (k,x)→k.qi=true∧x.BQ=true∧∃ e,ents[i]?=some e∧VR w σ μ k e.key∧VR w σ μ x e.val) ∧
 (∀ (i:Nat) (e:MapEntry),ents[i]?=some e→e.born<clock)∧(∀ (i j:Nat) (e e':MapEntry),ents[i]?=some e→ents[j]?=some e'→e.born=e'.born→i=j)
def Fm(P:Program)(B:Nat)(w:World)(σ:ag)(μ:Mem)(v:Value):Ob→Prop
 | .dead=>True
 | .box T cs=>∃ (b:Nat) (vs:Array Value),v=.pointer (some ⟨b,0,none⟩)∧B≤b∧w.heap[b]?=some (.cells vs T (0,0))∧vs.size=cs.length ∧
   ∀ (j:Nat) (x:V),cs[j]?=some x→∃ u,vs[j]?=some u∧VR w σ μ x u
 | .row E sz by' _ _ xs=>Ti P E sz by'∧∃ vals:List Value,w.ownsRow B E sz v xs.length vals∧mq w σ μ xs sz vals
 | .map _ _ es=>∃ (r:Nat) (ents:Array MapEntry) (clock:Nat),v=.map (some r)∧B≤r∧w.heap[r]?=some (.map ents clock)∧Us w σ μ es ents clock
def CO:List Int:=[1,10,100,1000,10000,100000,1000000,10000000,100000000,1000000000,10000000000,100000000000,1000000000000,10000000000000,100000000000000,1000000000000000,10000000000000000,100000000000000000,1000000000000000000,10000000000000000000]
def US:List (String×IntKind×List Int):=[("internal/strconv.uint64pow10",.u64,CO)]
def Laid(P:Program)(B:Nat)(w:World):Prop:=∀ t∈US,∀ g,P.globalNamed t.1=some g→g<B∧Lib.TabIs P w t.1 t.2.1 t.2.2
structure yc (P:Program) (B:Nat) (w0 w:World):Prop extends Below B w0 w where
 laid:Laid P B w0
theorem yc.grown{P:Program}{B:Nat}{a w w':World}{row:Option Nat}(h:yc P B a w)(hg:w.grownBy w' row)(hB:B≤w.heap.size)(hr:∀ k,row=some k→B≤k):yc P B a w' :=
 ⟨h.toBelow.grown hg hB hr,h.laid⟩
theorem yc.tab{P:Program}{B:Nat}{w0 w:World}(h:yc P B w0 w){t:String×IntKind×List Int}(ht:t∈US){g:Nat}(hg:P.globalNamed t.1=some g):Lib.TabIs P w t.1 t.2.1 t.2.2:=by
 obtain⟨h1,h2⟩:=h.laid t ht g hg;unfold Lib.TabIs World.var? at h2 ⊢;simp only[hg,jG]at h2 ⊢;rw[h.block g h1];exact h2
structure jw (P:Program) (B:Nat) (w0 w:World) (σ:ag) (μ:Mem):Prop where
 below:yc P B w0 w
 base:B≤w.heap.size
 obj:∀ id o,σ[id]?=some o→Fm P B w σ μ (μ id) o
 sep:∀ i j oi oj b,σ[i]?=some oi→σ[j]?=some oj→oi≠.dead→oj≠.dead→lf (μ i)=some b→lf (μ j)=some b→i=j
def FR(w:World)(σ:ag)(μ:Mem)(fr:List V)(a:Act):Prop :=
 a.defers=[]∧a.tmps.size=fr.length∧∀ i x,fr[i]?=some x→VR w σ μ x (a.tmps.getD i undef)
theorem FR.bY{w:World}{σ:ag}{μ:Mem}{w':World}{σ':ag}{μ':Mem}(k:pG w σ μ w' σ' μ'){fr:List V}{a:Act}(h:FR w σ μ fr a):FR w' σ' μ' fr a :=
 ⟨h.1,h.2.1,fun i x hx=>k _ _ (h.2.2 i x hx)⟩
structure St where
 fr:List V
 σ:ag
def Yh(w:World)(σ:ag)(μ:Mem)(xs:List V)(vs:Array Value):Prop:=vs.size=xs.length∧∀ i x,xs[i]?=some x→VR w σ μ x (vs.getD i undef)
def PC(P:Program)(f:Nat)(args:List V)(σ:ag)(Q:V→ag→Prop):Prop :=
 ∀ (B:Nat) (w0 w:World) (μ:Mem) (vs:Array Value),jw P B w0 w σ μ→Yh w σ μ args vs →
  Calls P f vs w fun e w'=>∃ r v σ' μ',e=.returned v∧Q r σ'∧jw P B w0 w' σ' μ'∧VR w' σ' μ' r v∧pG w σ μ w' σ' μ'
def PW(n:Nat)(P:Program)(c:Code)(K:Exit→St→Prop)(st:St):Prop :=
 ∀ (B:Nat) (w0 w:World) (μ:Mem) (a:Act),jw P B w0 w st.σ μ→FR w st.σ μ st.fr a →
  c.wp P (fun e a' w'=>∃ st' μ',K e st'∧jw P B w0 w' st'.σ μ'∧FR w' st'.σ μ' st'.fr a'∧fP n w st.σ μ w' st'.σ μ') a w
theorem PC.mono{P:Program}{f:Nat}{args:List V}{σ:ag}{Q Q':V→ag→Prop}(h:PC P f args σ Q)(hq:∀ r σ',Q r σ'→Q' r σ'):PC P f args σ Q' :=
 fun B w0 w μ vs hs hv=>(h B w0 w μ vs hs hv).mono fun _ _ ⟨r,v,σ',μ',he,hQ,rest⟩=>⟨r,v,σ',μ',he,hq _ _ hQ,rest⟩
theorem PW.mono{n:Nat}{P:Program}{c:Code}{K K':Exit→St→Prop}{st:St}(h:PW n P c K st)(hk:∀ e st',K e st'→K' e st'):PW n P c K' st :=
 fun B w0 w μ a hs hf=>wp_mono (h B w0 w μ a hs hf) fun _ _ _ ⟨st',μ',hK,rest⟩=>⟨st',μ',hk _ _ hK,rest⟩
theorem PW.skip{n:Nat}{P:Program}{K:Exit→St→Prop}{st:St}(h:K .normal st):PW n P .skip K st :=
 fun _ _ _ μ _ hs hf=>wp_skip ⟨st,μ,h,hs,hf,fP.refl _ _ _ _⟩
theorem PW.ret{n:Nat}{P:Program}{K:Exit→St→Prop}{st:St}(h:K .ret st):PW n P .ret K st :=
 fun _ _ _ μ _ hs hf=>wp_ret ⟨st,μ,h,hs,hf,fP.refl _ _ _ _⟩
theorem PW.exit{n:Nat}{P:Program}{id:Nat}{K:Exit→St→Prop}{st:St}(h:K (.exit id) st):PW n P (.exit id) K st :=
 fun _ _ _ μ _ hs hf=>wp_exit ⟨st,μ,h,hs,hf,fP.refl _ _ _ _⟩
def abu(n:Nat)(P:Program)(y:Code)(K:Exit→St→Prop):Exit→St→Prop
 | .normal,st=>PW n P y K st
 | e,st=>K e st
theorem PW.seq{n:Nat}{P:Program}{x y:Code}{K:Exit→St→Prop}{st:St}(h:PW n P x (abu n P y K) st):PW n P (.seq x y) K st:=by
 intro B w0 w μ a hs hf;refine wp_seq (wp_mono (h B w0 w μ a hs hf) ?_);rintro e a' w' ⟨st',μ',hK,hs',hf',hk⟩;cases e with
 | normal=>exact wp_mono (hK B w0 w' μ' a' hs' hf') fun _ _ _ ⟨st2,μ2,h1,h2,h3,h4⟩=>⟨st2,μ2,h1,h2,h3,hk.trans h4⟩
 | exit id=>exact⟨st',μ',hK,hs',hf',hk⟩
 | goto l=>exact⟨st',μ',hK,hs',hf',hk⟩
 | ret=>exact⟨st',μ',hK,hs',hf',hk⟩
 | panic c=>exact⟨st',μ',hK,hs',hf',hk⟩
 | outgrown=>exact⟨st',μ',hK,hs',hf',hk⟩
def AO(id:Nat)(K:Exit→St→Prop):Exit→St→Prop
 | .exit id',st=>if id'=id then K .normal st else K (.exit id') st
 | e,st=>K e st
theorem PW.block{n:Nat}{P:Program}{id:Nat}{c:Code}{K:Exit→St→Prop}{st:St}(h:PW n P c (AO id K) st):PW n P (.block id c) K st:=by
 intro B w0 w μ a hs hf;refine wp_block (wp_mono (h B w0 w μ a hs hf) ?_);rintro e a' w' ⟨st',μ',hK,hs',hf',hk⟩;cases e with
 | normal=>exact⟨st',μ',hK,hs',hf',hk⟩
 | exit id' =>
  by_cases hid:id'=id
  ·subst hid;simp only[AO,if_true]at hK;simp only[Exit.inBlock,if_true];exact⟨st',μ',hK,hs',hf',hk⟩
  ·simp only[AO,hid,if_false]at hK;simp only[Exit.inBlock,hid,if_false];exact⟨st',μ',hK,hs',hf',hk⟩
 | goto l=>exact⟨st',μ',hK,hs',hf',hk⟩
 | ret=>exact⟨st',μ',hK,hs',hf',hk⟩
 | panic c=>exact⟨st',μ',hK,hs',hf',hk⟩
 | outgrown=>exact⟨st',μ',hK,hs',hf',hk⟩
theorem th{P:Program}{Q:Exit→Act→World→Prop}{a:Act}{w:World}{c:Code}(n:Nat)(J:Nat→Act→World→Prop)(h0:J n a w)
  (round:∀ k a w,J k a w→c.wp P (Exit.then (fun a' w'=>∃ k',k'<k∧J k' a' w') Q) a w):(Code.loop c).wp P Q a w:=by
 intro b k cs
 have key:∀ n a w,J n a w→∃ e a' w',Q e a' w'∧Arrives P (lone (b.at a (.code c::.inLoop c::k)) cs w) b k cs e a' w':=by
  intro n
  induction n using Nat.strongRecOn with
  | _ n ih =>
   intro a w hJ;obtain⟨e,a₁,w₁,hq,BU⟩:=round n a w hJ b (.inLoop c::k) cs;cases e with
   | normal =>
    obtain⟨k',fk,hJ₁⟩:=hq;obtain⟨e₂,a₂,w₂,hq₂,harr₂⟩:=ih k' fk a₁ w₁ hJ₁;exact⟨e₂,a₂,w₂,hq₂,.of_steps (Steps.trans BU (.one step_inLoop)) harr₂⟩
   | exit id=>exact⟨_,a₁,w₁,hq,.pass (x:=.inLoop c) rfl (fun _ _=>.inl (by simp)) BU⟩
   | goto l=>exact⟨_,a₁,w₁,hq,.pass (x:=.inLoop c) rfl (fun _ _=>.inl (by simp)) BU⟩
   | ret=>exact⟨_,a₁,w₁,hq,.pass (x:=.inLoop c) rfl (fun _ _=>.inl (by simp)) BU⟩
   | panic ch=>exact⟨_,a₁,w₁,hq,.pass (x:=.inLoop c) rfl (fun _ _=>.inl (by simp)) BU⟩
   | outgrown=>exact⟨_,a₁,w₁,hq,.pass (x:=.inLoop c) rfl (fun _ _=>.inl (by simp)) BU⟩
 obtain⟨e,a',w',hq,BU⟩:=key _ a w h0;exact⟨e,a',w',hq,.of_steps (.one step_loop) BU⟩
def XR(I:St→Prop)(m:St→Nat)(k:Nat)(K:Exit→St→Prop):Exit→St→Prop
 | .normal,st=>I st∧m st<k
 | e,st=>K e st
theorem PW.loop{n:Nat}{P:Program}{c:Code}{K:Exit→St→Prop}{st:St}(I:St→Prop)(m:St→Nat)(h0:I st)(h:∀ st,I st→PW n P c (XR I m (m st) K) st):PW n P (.loop c) K st:=by
 intro B w0 w μ a hs hf
 have key:∀ (N:Nat) (st1:St) (w1:World) (μ1:Mem) (a1:Act),m st1=N→I st1→jw P B w0 w1 st1.σ μ1→FR w1 st1.σ μ1 st1.fr a1→fP n w st.σ μ w1 st1.σ μ1 →
   (Code.loop c).wp P (fun e a' w'=>∃ st' μ',K e st'∧jw P B w0 w' st'.σ μ'∧FR w' st'.σ μ' st'.fr a'∧fP n w st.σ μ w' st'.σ μ') a1 w1:=by
  intro N st1 w1 μ1 a1 hn hI Wu hf1 qA;refine th N (fun k a2 w2=>∃ st2 μ2,m st2=k∧I st2∧jw P B w0 w2 st2.σ μ2∧FR w2 st2.σ μ2 st2.fr a2∧fP n w st.σ μ w2 st2.σ μ2) ⟨st1,μ1,hn,hI,Wu,hf1,qA⟩ ?_;rintro k a2 w2 ⟨st2,μ2,hm2,hI2,hs2,WD,tK⟩;refine wp_mono (h st2 hI2 B w0 w2 μ2 a2 hs2 WD) ?_;rintro e a' w' ⟨st',μ',hK,hs',hf',hk⟩;cases e with
  | normal=>exact⟨m st',hm2▸hK.2,st',μ',rfl,hK.1,hs',hf',tK.trans hk⟩
  | exit id=>exact⟨st',μ',hK,hs',hf',tK.trans hk⟩
  | goto l=>exact⟨st',μ',hK,hs',hf',tK.trans hk⟩
  | ret=>exact⟨st',μ',hK,hs',hf',tK.trans hk⟩
  | panic c=>exact⟨st',μ',hK,hs',hf',tK.trans hk⟩
  | outgrown=>exact⟨st',μ',hK,hs',hf',tK.trans hk⟩
 exact key _ st w μ a rfl h0 hs hf (fP.refl _ _ _ _)
theorem HO{w w':World}{base:Nat}{e:TypeId}{size:Nat}{v:Value}{n:Nat}{xs:List Value}(h:w.ownsRow base e size v n xs)
  (hb:∀ g,lf v=some g→w'.heap[g]?=w.heap[g]?):w'.ownsRow base e size v n xs:=by
 obtain⟨h1,h2⟩:=h;refine⟨h1,?_⟩;rcases h2 with h2 | ⟨g,cap,cur,hv,hg,hh,r⟩
 ·exact .inl h2
 ·exact .inr ⟨g,cap,cur,hv,hg,by rw[hb g (by simp[hv,lf])];exact hh,r⟩
theorem Fm.vv{P:Program}{B:Nat}{w:World}{σ:ag}{μ:Mem}{v:Value}{o:Ob}(h:Fm P B w σ μ v o)(ho:o≠.dead){b:Nat}(hb:lf v=some b):B≤b∧b<w.heap.size:=by
 cases o with
 | dead=>exact absurd rfl ho
 | box T cs =>
  obtain⟨b',vs,rfl,h1,h2,_⟩:=h;simp only[lf,aa]at hb;subst hb;exact⟨h1,(cg.1 h2).1⟩
 | row E sz by' g sh xs =>
  obtain⟨_,vals,⟨_,h2⟩,_⟩:=h;rcases h2 with⟨rfl,_⟩ | ⟨g,cap,cur,rfl,hg,hh,_⟩
  ·simp[lf]at hb
  ·simp only[lf,aa]at hb;subst hb;exact⟨hg,(cg.1 hh).1⟩
 | map K E es =>
  obtain⟨r,ents,clock,rfl,h1,h2,_⟩:=h;simp only[lf,aa]at hb;subst hb;exact⟨h1,(cg.1 h2).1⟩
theorem mq.bY{w:World}{σ:ag}{μ:Mem}{w':World}{σ':ag}{μ':Mem}{xs:List (List V)}{sz:Nat}{vals:List Value}(h:mq w σ μ xs sz vals)(k:pG w σ μ w' σ' μ'):mq w' σ' μ' xs sz vals :=
 ⟨h.1,fun i j x hx=>⟨(h.2 i j x hx).1,let ⟨v,h1,h2⟩:=(h.2 i j x hx).2;⟨v,h1,k _ _ h2⟩⟩⟩
theorem Us.bY{w:World}{σ:ag}{μ:Mem}{w':World}{σ':ag}{μ':Mem}{es:List (V×V)}{ents:Array MapEntry}{clock:Nat}(h:Us w σ μ es ents clock)(k:pG w σ μ w' σ' μ'):Us w' σ' μ' es ents clock :=
 ⟨h.1,fun i a x hx=>let ⟨h1,h2,e,h3,h4,h5⟩:=h.2.1 i a x hx;⟨h1,h2,e,h3,k _ _ h4,k _ _ h5⟩,h.2.2⟩
theorem Fm.bY{P:Program}{B:Nat}{w:World}{σ:ag}{μ:Mem}{w':World}{σ':ag}{μ':Mem}{v:Value}{o:Ob}(h:Fm P B w σ μ v o)(k:pG w σ μ w' σ' μ')
  (hb:∀ b,lf v=some b→w'.heap[b]?=w.heap[b]?):Fm P B w' σ' μ' v o:=by
 cases o with
 | dead=>trivial
 | box T cs =>
  obtain⟨b',vs,rfl,h1,h2,h3,h4⟩:=h;exact⟨b',vs,rfl,h1,by rw[hb b' rfl];exact h2,h3,fun j x hx=>let ⟨u,h5,h6⟩:=h4 j x hx;⟨u,h5,k _ _ h6⟩⟩
 | row E sz by' g sh xs =>
  obtain⟨ht,vals,h1,h2⟩:=h;exact⟨ht,vals,HO h1 hb,h2.bY k⟩
 | map K E es =>
  obtain⟨r,ents,clock,rfl,h1,h2,h3⟩:=h;exact⟨r,ents,clock,rfl,h1,by rw[hb r rfl];exact h2,h3.bY k⟩
theorem jw.vv{P:Program}{B:Nat}{w0 w:World}{σ:ag}{μ:Mem}(h:jw P B w0 w σ μ){id:Nat}{o:Ob}(ho:σ[id]?=some o)(hd:o≠.dead){b:Nat}(hb:lf (μ id)=some b):B≤b∧b<w.heap.size :=
 (h.obj id o ho).vv hd hb
theorem jw.update{P:Program}{B:Nat}{w0 w:World}{σ:ag}{μ:Mem}{w':World}{σ':ag}{μ':Mem}(hS:jw P B w0 w σ μ)(id:Nat)(row:Option Nat)
  (hg:w.grownBy w' row)
  (cP:∀ b,row=some b→∃ o,σ[id]?=some o∧o≠.dead∧lf (μ id)=some b)
  (hlen:σ.length≤σ'.length)
  (hσ:∀ j,j≠id→σ'[j]?=σ[j]?)
  (hμ:∀ j,j≠id→μ' j=μ j)
  (lQ:∀ b,lf (μ' id)=some b→(∃ o,σ[id]?=some o∧o≠.dead∧lf (μ id)=some b)∨w.heap.size≤b)
  (jy:∀ b off v o,σ[id]?=some o→o≠.dead→lf (μ id)=some b→w.cell? ⟨b,off,none⟩=some v→¬ wr σ μ b off →
   w'.cell? ⟨b,off,none⟩=some v∧∀ o',σ'[id]?=some o'→lf (μ' id)=some b→¬ o'.wat off)
  (ai4:∀ T cs,σ[id]?=some (.box T cs)→(∃ cs',σ'[id]?=some (.box T cs'))∧μ' id=μ id)
  (Wz:∀ K E es,σ[id]?=some (.map K E es)→(∃ es',σ'[id]?=some (.map K E es'))∧μ' id=μ id)
  (ZM:∀ E sz by' g' sh xs,id<σ.length→σ'[id]?=some (.row E sz by' g' sh xs)→∃ g sh0 xs0,σ[id]?=some (.row E sz by' g sh0 xs0)∧g≤g'∧(g=g'→xs0.length=xs.length∧μ' id=μ id))
  (ff:pF w σ μ w' σ' μ'→∀ o,σ'[id]?=some o→Fm P B w' σ' μ' (μ' id) o) :
  jw P B w0 w' σ' μ'∧pF w σ μ w' σ' μ':=by
 have hp:pF w σ μ w' σ' μ':=by
  refine⟨fun b off v hc hw=>?_,hlen,fun j T cs hj=>?_,fun j K E es hj=>?_,fun j E sz by' g' sh xs xO hj=>?_⟩
  ·have fk:=World.block_lt_of_cell? w _ hc;refine⟨?_,?_⟩
   ·by_cases hb:some b=row
    ·obtain⟨o,h1,h2,h3⟩:=cP b hb.symm;exact(jy b off v o h1 h2 h3 hc hw).1
    ·exact hg.cell hc hb
   ·rintro⟨j,oj,hj,Tv,hwj⟩
    by_cases zP:j=id
    ·subst zP;rcases lQ b Tv with⟨o,h1,h2,h3⟩ | h
     ·exact(jy b off v o h1 h2 h3 hc hw).2 oj hj Tv hwj
     ·exact absurd fk (Nat.not_lt.2 h)
    ·rw[hσ j zP]at hj;rw[hμ j zP]at Tv;exact hw ⟨j,oj,hj,Tv,hwj⟩
  ·by_cases zP:j=id
   ·subst zP;exact ai4 T cs hj
   ·exact⟨⟨cs,by rw[hσ j zP];exact hj⟩,hμ j zP⟩
  ·by_cases zP:j=id
   ·subst zP;exact Wz K E es hj
   ·exact⟨⟨es,by rw[hσ j zP];exact hj⟩,hμ j zP⟩
  ·by_cases zP:j=id
   ·subst zP;exact ZM E sz by' g' sh xs xO hj
   ·rw[hσ j zP]at hj;exact⟨g',sh,xs,hj,aB _,fun _=>⟨rfl,hμ j zP⟩⟩
 refine⟨⟨hS.below.grown hg hS.base (fun k hk=>?_),bZ hS.base hg.size,fun j o hj=>?_,fun i j oi oj b hi hj OC Tr hbi Tv=>?_⟩,hp⟩
 ·obtain⟨o,h1,h2,h3⟩:=cP k hk;exact(hS.vv h1 h2 h3).1
 ·by_cases zP:j=id
  ·subst zP;exact ff hp o hj
  ·rw[hσ j zP]at hj;rw[hμ j zP]
   by_cases hd:o=.dead
   ·subst hd;trivial
   ·refine(hS.obj j o hj).bY hp.bY fun b hb=>?_;refine hg.block b (hS.vv hj hd hb).2 fun hbr=>?_;obtain⟨o2,h1,h2,h3⟩:=cP b hbr.symm;exact zP (hS.sep j id o o2 b hj h1 hd h2 hb h3)
 ·by_cases Tn:i=id
  ·subst Tn
   by_cases zP:j=i
   ·exact zP.symm
   ·rw[hσ j zP]at hj;rw[hμ j zP]at Tv;rcases lQ b hbi with⟨o,h1,h2,h3⟩ | h
    ·exact hS.sep i j o oj b h1 hj h2 Tr h3 Tv
    ·exact absurd (hS.vv hj Tr Tv).2 (Nat.not_lt.2 h)
  ·rw[hσ i Tn]at hi;rw[hμ i Tn]at hbi
   by_cases zP:j=id
   ·subst zP;rcases lQ b Tv with⟨o,h1,h2,h3⟩ | h
    ·exact hS.sep i j oi o b hi h1 OC h2 hbi h3
    ·exact absurd (hS.vv hi OC hbi).2 (Nat.not_lt.2 h)
   ·rw[hσ j zP]at hj;rw[hμ j zP]at Tv;exact hS.sep i j oi oj b hi hj OC Tr hbi Tv
theorem jw.grown{P:Program}{B:Nat}{w0 w:World}{σ:ag}{μ:Mem}{w':World}(hS:jw P B w0 w σ μ)(hg:w.grownBy w' none):jw P B w0 w' σ μ∧pF w σ μ w' σ μ:=by
 have hp:pF w σ μ w' σ μ:=⟨fun b off v hc hw=>⟨hg.cell hc (by simp),hw⟩,aB _,fun _ _ cs h=>⟨⟨cs,h⟩,rfl⟩,fun _ _ _ es h=>⟨⟨es,h⟩,rfl⟩,fun _ _ _ _ g sh xs _ h=>⟨g,sh,xs,h,aB _,fun _=>⟨rfl,rfl⟩⟩⟩;refine⟨⟨hS.below.grown hg hS.base (by simp),bZ hS.base hg.size,fun j o hj=>?_,hS.sep⟩,hp⟩
 by_cases hd:o=.dead
 ·subst hd;trivial
 ·exact(hS.obj j o hj).bY hp.bY fun b hb=>hg.block b (hS.vv hj hd hb).2 (by simp)
def wu(μ:Mem)(id:Nat)(v:Value):Mem:=fun j=>if j=id then v else μ j
theorem fo(μ:Mem)(id:Nat)(v:Value):wu μ id v id=v:=by simp[wu]
theorem vD(μ:Mem)(id:Nat)(v:Value)(j:Nat)(h:j≠id):wu μ id v j=μ j:=by simp[wu,h]
theorem AD(σ:ag)(o:Ob)(j:Nat)(h:j≠σ.length):(σ++[o])[j]?=σ[j]?:=by
 rcases fV j σ.length with h1 | h1
 ·rw[aH h1]
 ·have h2:σ.length<j:=by omega
  rw[bR (by simp;omega),bR h1]
theorem mF(σ:ag)(o:Ob):¬ (σ[σ.length]?=some o):=by simp
theorem jw.uE{P:Program}{B:Nat}{w0 w:World}{σ:ag}{μ:Mem}{w':World}(hS:jw P B w0 w σ μ)(o:Ob)(v:Value)(hg:w.grownBy w' none)
  (hv:∀ b,lf v=some b→w.heap.size≤b)
  (ff:pF w σ μ w' (σ++[o]) (wu μ σ.length v)→Fm P B w' (σ++[o]) (wu μ σ.length v) v o) :
  jw P B w0 w' (σ++[o]) (wu μ σ.length v)∧pF w σ μ w' (σ++[o]) (wu μ σ.length v):=by
 refine hS.update σ.length none hg (by simp) (by simp) (fun j hj=>AD σ o j hj) (fun j hj=>vD μ _ v j hj) ?_ ?_ ?_ ?_ ?_ ?_
 ·intro b hb;rw[fo]at hb;exact .inr (hv b hb)
 ·intro b off u o' h;exact absurd h (mF σ o')
 ·intro T cs h;exact absurd h (mF σ _)
 ·intro K E es h;exact absurd h (mF σ _)
 ·intro _ _ _ _ _ _ h;omega
 ·intro hp o' ho';have:o'=o:=by simpa using ho'.symm
  subst this;rw[fo];exact ff hp
inductive O where
 | t (n:Nat)
 | c (v:V)
inductive I where
 | k6 (x:O)
 | pick (c a b:O)
 | box (T:Nat) (x:O)
 | alloc (T:Nat) (zs:List V)
 | build (zs:List V) (parts:List (Nat×Nat×O))
 | dj (sz:Nat) (szs:List (Option Nat)) (xs:List O)
 | Nc (E sz by':Nat) (szs:List (Option Nat)) (xs:List O)
 | load (k:Option Nat) (a:O)
 | store (k:Nat) (szs:List (Option Nat)) (a x:O)
 | lF (x:O)
 | bin (op:BinOp) (x y:O)
 | beq (neg:Bool) (ks:List Nat) (x y:O)
 | XA (neg:Bool) (x y:O)
 | un (op:UnOp) (x:O)
 | cvi (k:IntKind) (x:O)
 | ON (x:O)
 | slice (sz:Nat) (x:O) (lo hi:Option O)
 | sf (x:O) (lo hi:Option O)
 | tE (off:Nat) (x:O)
 | idx (sz:Nat) (x i:O)
 | Jq (x i:O)
 | QW (n sz:Nat) (x i:O)
 | asl (n:Nat) (x:O)
 | ext (k:Nat) (x:O)
 | len (str:Bool) (x:O)
 | max2 (x y:O)
 | min2 (x y:O)
 | app (E sz by':Nat) (x y:O)
 | apps (E:Nat) (x y:O)
 | mk (E sz by':Nat) (zs:List V) (l c:O)
 | Dg (K E:Nat)
 | look (kd:Nat) (z:V) (ok:Bool) (m k:O)
 | Kj (kd:Nat) (szs:List (Option Nat)) (m k x:O)
 | ET (x:O)
 | call (f:Nat) (args:List O)
 | zD (x:O) (args:List O)
 | Xw (f:Nat) (xs:List O)
 | stop
def AJ:Value→Option V
 | .bool x=>some (.b x)
 | .int k n=>some (.i k n)
 | .string x=>if x.data.toList.length≤maxLen then some (.s x.data.toList)else none
 | .slice none 0 0=>some .nil
 | .pointer none=>some .jO
 | .map none=>some .jc
 | _=>none
def cO:Operand→Option O
 | .tmp t=>some (.t t)
 | .const v=>(AJ v).map .c
 | .func f=>some (.c (.fn f []))
 | .global _=>none
def Yf:List Operand→Option (List O)
 | []=>some []
 | x::xs=>match cO x,Yf xs with
  | some y,some ys=>some (y::ys)
  | _,_=>none
def la:List Value→Option (List V)
 | []=>some []
 | x::xs=>match AJ x,la xs with
  | some y,some ys=>some (y::ys)
  | _,_=>none
def rZ(P:Program)(n:Nat):List Field→Option (List Nat)
 | []=>some []
 | f::fs=>if f.offset=n∧f.name ≠ "_" then match P.underlying f.type,rZ P (n+1) fs with
   | some (.int _),some ks=>some (0::ks)
   | some .string,some ks=>some (1::ks)
   | some .bool,some ks=>some (2::ks)
   | _,_=>none
  else none
def MT(P:Program)(T:Nat):Option (List Nat) :=
 match P.underlying T with
 | some (.struct fs)=>if P.stoodInHeld T=false∧P.eqGuardType P.depth T=false then rZ P 0 fs.toList else none
 | _=>none
def U8(P:Program)(T:Nat):Bool :=
 match P.underlying T with
 | some (.int _) | some .string=>true
 | _=>false
def Ug(P:Program)(T:Nat):Bool :=
 match P.underlying T with
 | some .bool=>true
 | _=>false
def jr(P:Program)(T:Nat):Option Bool :=
 match P.underlying T with
 | some (.struct _) | some (.array _ _)=>some true
 | some _=>some false
 | none=>none
def vk:Nat→List (Nat×Operand)→Option (List O)
 | _,[]=>some []
 | n,(i,x)::r=>if i=n then(match cO x,vk (n+1) r with | some y,some ys=>some (y::ys) | _,_=>none)else none
def vm(places:List (Nat×Nat)):List (Nat×Operand)→Option (List (Nat×Nat×O))
 | []=>some []
 | (i,x)::r=>match places[i]?,cO x,vm places r with
  | some (off,sz),some y,some ys=>some ((off,sz,y)::ys)
  | _,_,_=>none
def placesOf(P:Program)(fs:List Field):Option (List (Nat×Nat)):=fs.mapM fun f=>(P.info? f.type).map fun i=>(f.offset,i.size)
def pj(P:Program)(K:Nat):Option Nat :=
 match P.underlying K with
 | some (.int _)=>some 0
 | some .string=>some 1
 | some (.array 2 e)=>match P.underlying e with
  | some (.int _)=>if P.cellsOf e=1 then some 3 else none
  | _=>none
 | _=>none
def rS(kd:Nat)(k:V):Bool:=if kd=3 then(match k with
 | .agg [.i _ _,.i _ _]=>true
 | _=>false)else k.qi
theorem Dq{kd:Nat}{k:V}(h:rS kd k=true):k.qi=true:=by
 unfold rS at h;split at h
 ·split at h
  ·rfl
  ·simp at h
 ·exact h
theorem We(k:V):rS 0 k=k.qi:=rfl
theorem Wd(k:V):rS 1 k=k.qi:=rfl
theorem Wc(k l:IntKind)(a b:Int):rS 3 (.agg [.i k a,.i l b])=true:=rfl
def wj:Option Operand→Option (Option O)
 | none=>some none
 | some x=>(cO x).map some
def Dv:BinOp→Bool
 | .eql | .neq=>true
 | _=>false
def s8(P:Program):Nat→Nat→List (Option Nat)
 | 0,_=>[]
 | d+1,T=>match P.underlying T with
  | some (.slice e)=>[some (P.cellsOf e)]
  | some (.struct fs)=>fs.toList.flatMap fun f=>s8 P d f.type
  | _=>[none]
def oK:Option Nat→V→V
 | some sz,.nil=>.sl sz []
 | _,.lit sz xs=>.sl sz xs
 | _,x=>x
def dw:List (Option Nat)→List V→List V
 | s::ss,x::xs=>oK s x::dw ss xs
 | _,xs=>xs
def nk(szs:List (Option Nat)):V→V
 | .agg xs=>.agg (dw szs xs)
 | y=>y
def zeroV(P:Program)(E:Nat):Option V :=
 match P.info? E with
 | some t=>match t.zero with
  | some (.agg cs)=>(la cs.toList).map fun zs=>.agg (dw (s8 P 6 E) zs)
  | some z=>AJ z
  | none=>none
 | none=>none
def Ks:Value→Bool
 | .int .u8 0=>true
 | _=>false
def mW(P:Program)(c:Call):Option I :=
 match c.callee,c.args.toList,c.argTypes.toList with
 | .builtin .len,[x],[T]=>match P.underlying T,cO x with
  | some .string,some x=>some (.len true x)
  | some (.slice _),some x=>some (.len false x)
  | some (.map _ _),some x=>some (.ET x)
  | _,_=>none
 | .builtin .max,[x,y],_=>match cO x,cO y with
  | some x,some y=>some (.max2 x y)
  | _,_=>none
 | .builtin .min,[x,y],_=>match cO x,cO y with
  | some x,some y=>some (.min2 x y)
  | _,_=>none
 | .builtin .append,[x,y],[T,U]=>match P.underlying T,cO x,cO y with
  | some (.slice E),some x,some y=>match P.info? E with
   | some t=>match t.zero with
    | some z=>if T=U then(if 0<t.size∧z.cells.size=t.size then some (.app E t.size t.bytes x y)else none)
     else match P.underlying U with
      | some .string=>if t.size=1∧t.bytes=1∧Ks z=true then some (.apps E x y)else none
      | _=>none
    | none=>none
   | none=>none
  | _,_,_=>none
 | .value (.func f),args,_=>match P.funcs[f]? with
  | some fn=>if fn.body.isSome∧fn.name ≠ "runtime.NumGoroutine" then(Yf args).map (.call f)else none
  | none=>none
 | .value (.tmp t),args,_=>(Yf args).map (.zD (.t t))
 | _,_,_=>none
def ad7:Option Nat→List O→Bool
 | some 23,[.t 18,.t 20,.t 22]=>true
 | some 46,[.t 45]=>true
 | _,_=>false
def On:BinOp→Bool
 | .neq=>true
 | _=>false
def compile(P:Program)(o:Oper):Option I :=
 match o.op with
 | .move x | .assign x=>(cO x).map .k6
 | .pick c a b=>match cO c,cO a,cO b with
  | some c,some a,some b=>some (.pick c a b)
  | _,_,_=>none
 | .box T x=>(cO x).map (.box T)
 | .alloc T=>match P.info? T with
  | some t=>match t.zero with
   | some z=>(la z.cells.toList).map (.alloc T)
   | none=>none
  | none=>none
 | .build T parts=>match P.info? T,P.underlying T with
  | some t,some (.struct fs)=>match t.zero with
   | some z=>match la z.cells.toList,placesOf P fs.toList with
    | some zs,some places=>(vm places parts.toList).map (.build zs)
    | _,_=>none
   | none=>none
  | some t,some (.array n E)=>match t.zero,P.info? E with
   | some z,some te=>match la z.cells.toList with
    | some zs=>(vm ((List.range n).map fun i=>(i*te.size,te.size)) parts.toList).map (.build zs)
    | none=>none
   | _,_=>none
  | _,_=>none
 | .buildSlice T len parts=>match P.underlying T with
  | some (.slice E)=>match P.info? E with
   | some t=>match t.zero with
    | some z=>if parts.size=len∧0<t.size∧z.cells.size=t.size∧len*t.size≤2^24 then(vk 0 parts.toList).map fun xs=>if ad7 o.dst xs=true then .Nc E t.size t.bytes (s8 P 6 E) xs else .dj t.size (s8 P 6 E) xs else none
    | none=>none
   | none=>none
  | _=>none
 | .load T a=>match cO a,jr P T,P.info? T with
  | some a,some true,some t=>some (.load (some t.size) a)
  | some a,some false,some _=>some (.load none a)
  | _,_,_=>none
 | .store T a x=>match cO a,cO x,P.info? T with
  | some a,some x,some t=>some (.store t.size (s8 P 6 T) a x)
  | _,_,_=>none
 | .nilCheck x=>(cO x).map .lF
 | .binOp op T x y _=>match cO x,cO y with
  | some x,some y=>if Dv op then(if U8 P T then some (.bin op x y)else if Ug P T then some (.XA (On op) x y)else(MT P T).map fun ks=>.beq (On op) ks x y)else some (.bin op x y)
  | _,_=>none
 | .unOp op _ x=>(cO x).map (.un op)
 | .convert s d x=>match P.underlying s,P.underlying d,cO x with
  | some (.int _),some (.int k),some x=>some (.cvi k x)
  | some (.slice e),some .string,some x=>match P.underlying e with
   | some (.int .u8)=>some (.ON x)
   | _=>none
  | _,_,_=>none
 | .slice T x lo hi none=>match P.underlying T,cO x,wj lo,wj hi with
  | some .string,some x,some lo,some hi=>some (.sf x lo hi)
  | some (.slice E),some x,some lo,some hi=>match P.info? E with
   | some t=>some (.slice t.size x lo hi)
   | none=>none
  | some (.array n E),some x,some none,some none=>match P.info? E with
   | some t=>if t.size=1∧n≤1024 then some (.asl n x)else none
   | none=>none
  | _,_,_,_=>none
 | .fieldAddr T x f=>match P.underlying T,cO x with
  | some (.struct fs),some x=>match fs[f]? with
   | some fd=>match P.info? fd.type with
    | some t=>if t.size=0 then none else some (.tE fd.offset x)
    | none=>none
   | none=>none
  | _,_=>none
 | .indexAddr T x i=>match P.underlying T,cO x,cO i with
  | some (.slice E),some x,some i=>match P.info? E with
   | some t=>some (.idx t.size x i)
   | none=>none
  | some (.array n E),some x,some i=>match P.info? E with
   | some t=>some (.QW n t.size x i)
   | none=>none
  | _,_,_=>none
 | .index T x i=>match P.underlying T,cO x,cO i with
  | some .string,some x,some i=>some (.Jq x i)
  | _,_,_=>none
 | .extract t k=>(cO t).map (.ext k)
 | .makeSlice T l c=>match P.underlying T with
  | some (.slice E)=>match P.info? E with
   | some t=>match t.zero,cO l,cO c with
    | some z,some l,some c=>if 0<t.size∧z.cells.size=t.size then(la z.cells.toList).map fun zs=>.mk E t.size t.bytes (dw (s8 P 6 E) zs) l c else none
    | _,_,_=>none
   | none=>none
  | _=>none
 | .lookup T m k ok=>match P.underlying T,cO m,cO k with
  | some (.map K E),some m,some k=>match pj P K,zeroV P E with
   | some kd,some z=>some (.look kd z ok m k)
   | _,_=>none
  | _,_,_=>none
 | .mapUpdate T m k x=>match P.underlying T,cO m,cO k,cO x with
  | some (.map K E),some m,some k,some x=>(pj P K).map fun kd=>.Kj kd (s8 P 6 E) m k x
  | _,_,_,_=>none
 | .makeMap T none=>match P.underlying T with
  | some (.map K E)=>some (.Dg K E)
  | _=>none
 | .call c=>mW P c
 | .makeFunc (.func f) first caps=>if first.size=0 then(Yf caps.toList).map (.Xw f)else none
 | _=>none
def ev(fr:List V):O→V
 | .t n=>fr.getD n .u
 | .c v=>v
def fI:V→List V
 | .agg xs=>xs
 | x=>[x]
def jv(σ:ag):V→Bool
 | .u | .agg _ | .iK _=>false
 | .own id g=>match σ[id]? with
  | some (.row _ _ _ g' _ _)=>g==g'
  | _=>false
 | .sub id g _ _=>match σ[id]? with
  | some (.row _ _ _ g' _ _)=>g==g'
  | _=>false
 | .rp id g _ _=>match σ[id]? with
  | some (.row _ _ _ g' _ _)=>g==g'
  | _=>false
 | _=>true
def hY(σ:ag)(x:V):Bool:=match x with
 | .agg xs=>xs.all (jv σ)
 | x=>jv σ x
def wK(cells:List V):List (Nat×Nat×List V)→Option (List V)
 | []=>some cells
 | (off,sz,x)::r=>if x.length=sz∧off+sz≤cells.length then wK (cells.take off++x++cells.drop (off+sz)) r else none
def G7:List V→List V→Option Bool
 | [.i k a,.i l b],[.i k' a',.i l' b']=>if k=k'∧l=l' then some (a==a'&&b==b')else none
 | _,_=>none
def di:Nat→V→V→Option Bool
 | 0,.i k a,.i k' b=>if k=k' then some (a==b)else none
 | 1,.s a,.s b=>some (a==b)
 | 2,.b a,.b b=>some (a==b)
 | 3,.agg xs,.agg ys=>G7 xs ys
 | _,_,_=>none
def l7:List Nat→List V→List V→Option Bool
 | [],[],[]=>some true
 | k::ks,x::xs,y::ys=>match di k x y,l7 ks xs ys with
  | some p,some q=>some (p&&q)
  | _,_=>none
 | _,_,_=>none
def iE(op:BinOp):V→V→Option (Prop×V)
 | .i k a,.i k' b=>match op with
  | .shl=>some (0≤b,.i k (k.wrap (a*2^(min b.toNat k.bits))))
  | .shr=>some (0≤b,.i k (a.fdiv (2^(min b.toNat k.bits))))
  | _=>if k=k' then match op with
   | .add=>some (True,.i k (k.wrap (a+b)))
   | .sub=>some (True,.i k (k.wrap (a - b)))
   | .mul=>some (True,.i k (k.wrap (a*b)))
   | .quo=>some (b≠0,.i k (k.wrap (a.tdiv b)))
   | .rem=>some (b≠0,.i k (a.tmod b))
   | .and=>some (True,.i k (k.wrap ((BitVec.ofInt k.bits a &&& BitVec.ofInt k.bits b).toNat:Int)))
   | .or=>some (True,.i k (k.wrap ((BitVec.ofInt k.bits a ||| BitVec.ofInt k.bits b).toNat:Int)))
   | .xor=>some (True,.i k (k.wrap ((BitVec.ofInt k.bits a ^^^ BitVec.ofInt k.bits b).toNat:Int)))
   | .eql=>some (True,.b (a==b))
   | .neq=>some (True,.b (a != b))
   | .lss=>some (True,.b (a<b))
   | .leq=>some (True,.b (a≤b))
   | .gtr=>some (True,.b (b<a))
   | .geq=>some (True,.b (b≤a))
   | _=>none
   else none
 | .s a,.s b=>match op with
  | .add=>some (a.length+b.length≤maxLen,.s (a++b))
  | .eql=>some (True,.b (a==b))
  | .neq=>some (True,.b (!(a==b)))
  | .lss=>some (True,.b (Op.bytesLess a b))
  | .leq=>some (True,.b (Op.bytesLess a b||a==b))
  | .gtr=>some (True,.b (!(Op.bytesLess a b||a==b)))
  | .geq=>some (True,.b (!Op.bytesLess a b))
  | _=>none
 | _,_=>none
def rowsOf(σ:ag)(sz:Nat):V→Option (List (List V))
 | .nil=>some []
 | .lit sz' xs=>if sz'=sz then some xs else none
 | .sl sz' xs=>if sz'=sz then some xs else none
 | .own id g=>match σ[id]? with
  | some (.row _ sz' _ g' _ xs)=>if g=g'∧sz'=sz then some xs else none
  | _=>none
 | .sub id g lo hi=>match σ[id]? with
  | some (.row _ sz' _ g' _ xs)=>if g=g'∧sz'=sz then some ((xs.drop lo).take (hi - lo))else none
  | _=>none
 | _=>none
def r6:List V→Option UInt8
 | [.i .u8 n]=>some (UInt8.ofNat n.toNat)
 | _=>none
def bytesOf:List (List V)→Option (List UInt8)
 | []=>some []
 | r::rs=>match r6 r,bytesOf rs with
  | some x,some xs=>some (x::xs)
  | _,_=>none
def gH(kd:Nat)(k:V):List (V×V)→Nat→Option (Option (Nat×V))
 | [],_=>some none
 | (a,x)::es,i=>match di kd k a with
  | some true=>some (some (i,x))
  | some false=>gH kd k es (i+1)
  | none=>none
def iD(σ:ag)(kd:Nat)(m k:V):Option (Option (Nat×V)) :=
 match m with
 | .jc=>some none
 | .mp id=>match σ[id]? with
  | some (.map _ _ es)=>gH kd k es 0
  | _=>none
 | _=>none
def bm(fr:List V)(σ:ag):I→Option (Prop×V)
 | .k6 x=>some (True,ev fr x)
 | .pick c a b=>match ev fr c with
  | .b x=>some (True,match ev fr a,ev fr b with
   | .b p,.b q=>.b (bif x then p else q)
   | p,q=>bif x then p else q)
  | _=>none
 | .build zs parts=>match wK zs (parts.map fun(off,sz,x)=>(off,sz,fI (ev fr x)))with
  | some cs=>some (∀ p∈parts,hY σ (ev fr p.2.2)=true,.agg cs)
  | none=>none
 | .dj sz szs xs=>some ((∀ x∈xs,hY σ (ev fr x)=true)∧∀ r∈xs.map fun x=>dw szs (fI (ev fr x)),r.length=sz∧∀ c∈r,c.pure=true,.lit sz (xs.map fun x=>dw szs (fI (ev fr x))))
 | .load k a=>match ev fr a with
  | .ptr id off=>match σ[id]? with
   | some (.box _ cs)=>match k with
    | none=>match cs[off]? with
     | some x=>some (True,x)
     | none=>none
    | some n=>some (off+n≤cs.length,.agg ((cs.drop off).take n))
   | _=>none
  | .ep _ xs i off=>match k with
   | none=>match fe xs i off with
    | some x=>some (True,x)
    | none=>none
   | some n=>some (off+n≤(xs.getD i []).length,.agg (((xs.getD i []).drop off).take n))
  | .rp id g i off=>match σ[id]? with
   | some (.row _ _ _ g' _ xs)=>if g=g' then match k with
    | none=>match fe xs i off with
     | some x=>some (True,x)
     | none=>none
    | some n=>some (off+n≤(xs.getD i []).length,.agg (((xs.getD i []).drop off).take n))
    else none
   | _=>none
  | _=>none
 | .lF x=>match ev fr x with
  | .ptr id off=>some (True,.ptr id off)
  | .ep sz xs i off=>some (True,.ep sz xs i off)
  | .rp id g i off=>match σ[id]? with
   | some (.row _ _ _ g' _ _)=>if g=g' then some (True,.rp id g i off)else none
   | _=>none
  | _=>none
 | .bin op x y=>iE op (ev fr x) (ev fr y)
 | .beq neg ks x y=>match ev fr x,ev fr y with
  | .agg xs,.agg ys=>match l7 ks xs ys with
   | some r=>some (True,.b (bif neg then !r else r))
   | none=>none
  | _,_=>none
 | .XA neg x y=>match ev fr x,ev fr y with
  | .b p,.b q=>some (True,.b (bif neg then !(p==q)else(p==q)))
  | _,_=>none
 | .un op x=>match op,ev fr x with
  | .not,.b p=>some (True,.b (!p))
  | .neg,.i k n=>some (True,.i k (k.wrap (0 - n)))
  | _,_=>none
 | .cvi k x=>match ev fr x with
  | .i _ n=>some (True,.i k (k.wrap n))
  | _=>none
 | .ON x=>match rowsOf σ 1 (ev fr x)with
  | some xs=>match bytesOf xs with
   | some l=>some (True,.s l)
   | none=>none
  | none=>none
 | .slice sz x lo hi =>
  let n:Option Nat:=match ev fr x with
   | .nil=>some 0
   | .lit sz' xs=>if sz'=sz then some xs.length else none
   | .sl sz' xs=>if sz'=sz then some xs.length else none
   | .own id g=>match σ[id]? with
    | some (.row _ sz' _ g' _ xs)=>if g=g'∧sz'=sz then some xs.length else none
    | _=>none
   | _=>none
  match n with
  | none=>none
  | some n =>
   let l:Option Int:=match lo with
    | none=>some 0
    | some x=>match ev fr x with
     | .i _ a=>some a
     | _=>none
   let h:Option Int:=match hi with
    | none=>some n
    | some x=>match ev fr x with
     | .i _ a=>some a
     | _=>none
   match l,h with
   | some l,some h=>match ev fr x with
    | .nil=>some (l=0∧h=0,.nil)
    | .lit _ xs=>some (0≤l∧l≤h∧h≤n,.sl sz ((xs.drop l.toNat).take (h.toNat - l.toNat)))
    | .sl _ xs=>some (0≤l∧l≤h∧h≤n,.sl sz ((xs.drop l.toNat).take (h.toNat - l.toNat)))
    | .own id g=>some (0≤l∧l≤h∧h≤n,.sub id g l.toNat h.toNat)
    | _=>none
   | _,_=>none
 | .sf x lo hi=>match ev fr x with
  | .s a =>
   let l:Option Int:=match lo with
    | none=>some 0
    | some x=>match ev fr x with
     | .i _ a=>some a
     | _=>none
   let h:Option Int:=match hi with
    | none=>some a.length
    | some x=>match ev fr x with
     | .i _ a=>some a
     | _=>none
   match l,h with
   | some l,some h=>some (0≤l∧l≤h∧h≤a.length,.s ((a.drop l.toNat).take (h.toNat - l.toNat)))
   | _,_=>none
  | _=>none
 | .tE off x=>match ev fr x with
  | .ptr id o=>some (True,.ptr id (o+off))
  | .ep sz xs i o=>some (True,.ep sz xs i (o+off))
  | .rp id g i o=>match σ[id]? with
   | some (.row _ _ _ g' _ _)=>if g=g' then some (True,.rp id g i (o+off))else none
   | _=>none
  | _=>none
 | .idx sz x i=>match ev fr i with
  | .i _ n=>match ev fr x with
   | .sl sz' xs=>if sz'=sz then some (0≤n∧n<xs.length,.ep sz xs n.toNat 0)else none
   | .lit sz' xs=>if sz'=sz then some (0≤n∧n<xs.length,.ep sz xs n.toNat 0)else none
   | .own id g=>match σ[id]? with
    | some (.row _ sz' _ g' _ xs)=>if g=g'∧sz'=sz then some (0≤n∧n<xs.length,.rp id g n.toNat 0)else none
    | _=>none
   | _=>none
  | _=>none
 | .QW n sz x i=>match ev fr x,ev fr i with
  | .ptr id o,.i _ k=>some (0≤k∧k<n,.ptr id (o+k.toNat*sz))
  | _,_=>none
 | .asl n x=>match ev fr x with
  | .ep _ xs i 0=>if(xs.getD i []).length=n then some (n≤1024,.sl 1 ((xs.getD i []).map fun c=>[c]))else none
  | _=>none
 | .Jq x i=>match ev fr x,ev fr i with
  | .s l,.i _ n=>some (0≤n∧n<l.length,.i .u8 (l.getD n.toNat 0).toNat)
  | _,_=>none
 | .ext k x=>match ev fr x with
  | .iK xs=>match xs[k]? with
   | some y=>some (True,y)
   | none=>none
  | _=>none
 | .len true x=>match ev fr x with
  | .s l=>some (True,.i .i64 l.length)
  | _=>none
 | .len false x=>match ev fr x with
  | .nil=>some (True,.i .i64 0)
  | .lit _ xs=>some (True,.i .i64 xs.length)
  | .sl _ xs=>some (True,.i .i64 xs.length)
  | .own id g=>match σ[id]? with
   | some (.row _ _ _ g' _ xs)=>if g=g' then some (True,.i .i64 xs.length)else none
   | _=>none
  | .sub id g lo hi=>match σ[id]? with
   | some (.row _ _ _ g' _ _)=>if g=g' then some (True,.i .i64 (hi - lo:Nat))else none
   | _=>none
  | _=>none
 | .ET x=>match ev fr x with
  | .jc=>some (True,.i .i64 0)
  | .mp id=>match σ[id]? with
   | some (.map _ _ es)=>some (True,.i .i64 es.length)
   | _=>none
  | _=>none
 | .look kd z ok m k=>match iD σ kd (ev fr m) (ev fr k)with
  | some none=>some (rS kd (ev fr k)=true,if ok then .iK [z,.b false]else z)
  | some (some (_,x))=>some (rS kd (ev fr k)=true,if ok then .iK [x,.b true]else x)
  | none=>none
 | .max2 x y=>match ev fr x,ev fr y with
  | .i k a,.i _ b=>some (True,.i k (if a<b then b else a))
  | _,_=>none
 | .min2 x y=>match ev fr x,ev fr y with
  | .i k a,.i _ b=>some (True,.i k (if b<a then b else a))
  | _,_=>none
 | .Xw f xs=>some (True,.fn f (xs.map (ev fr)))
 | _=>none
def zJ(E sz by':Nat)(σ:ag)(x:V)(ys:List (List V)):Option (Prop×V×ag) :=
 match x with
 | .nil=>some (ys.length*by'≤2^47∧ys.length≤maxLen,.own σ.length 0,σ++[.row E sz by' 0 false ys])
 | .lit sz' xs=>if sz'=sz then some ((xs.length+ys.length)*by'≤2^47∧xs.length+ys.length≤maxLen,
   if ys.isEmpty then .lit sz xs else .own σ.length 0,if ys.isEmpty then σ else σ++[.row E sz by' 0 false (xs++ys)])else none
 | .own id g=>match σ[id]? with
  | some (.row E' sz' by2 g' sh xs)=>if g=g'∧E=E'∧sz=sz'∧by'=by2 then
    some ((xs.length+ys.length)*by'≤2^47∧xs.length+ys.length≤maxLen,.own id (g+1),σ.set id (.row E sz by' (g+1) sh (xs++ys)))
   else none
  | _=>none
 | .sub id g lo hi=>match σ[id]? with
  | some (.row E' sz' by2 g' sh xs)=>if g=g'∧E=E'∧sz=sz'∧by'=by2∧lo=0∧sh=false then
    some (hi≤xs.length∧(hi+ys.length)*by'≤2^47∧hi+ys.length≤maxLen,.own id (g+1),σ.set id (.row E sz by' (g+1) false (xs.take hi++ys)))
   else none
  | _=>none
 | _=>none
def al(l:List UInt8):List (List V):=l.map fun c=>[V.i .u8 c.toNat]
def cE(fr:List V)(σ:ag):I→Option (Prop×V×ag)
 | .box T x=>some (hY σ (ev fr x)=true,.ptr σ.length 0,σ++[.box T (fI (ev fr x))])
 | .alloc T zs=>some (True,.ptr σ.length 0,σ++[.box T zs])
 | .store k szs a x=>match ev fr a with
  | .ptr id off=>match σ[id]? with
   | some (.box T cs)=>some (hY σ (ev fr x)=true∧(fI (ev fr x)).length=k∧off+k≤cs.length,.u,σ.set id (.box T (cs.take off++fI (ev fr x)++cs.drop (off+k))))
   | _=>none
  | .rp id g i off=>match σ[id]? with
   | some (.row E sz by' g' sh xs)=>if g=g'∧sh=false then
     some (hY σ (ev fr x)=true∧(∀ c∈dw szs (fI (ev fr x)),c.pure=true)∧(fI (ev fr x)).length=k∧off+k≤sz∧i<xs.length,.u,
      σ.set id (.row E sz by' g sh (xs.set i ((xs.getD i []).take off++dw szs (fI (ev fr x))++(xs.getD i []).drop (off+k)))))
    else none
   | _=>none
  | _=>none
 | .app E sz by' x y=>match rowsOf σ sz (ev fr y)with
  | some ys=>zJ E sz by' σ (ev fr x) ys
  | none=>none
 | .apps E x y=>match ev fr y with
  | .s l=>zJ E 1 1 σ (ev fr x) (al l)
  | _=>none
 | .mk E sz by' zs l c=>match ev fr l,ev fr c with
  | .i _ n,.i _ m=>some (0≤n∧(n=m∨n=0)∧0≤m∧m*by'≤2^48∧m≤maxLen∧(∀ z∈zs,z.pure=true),.own σ.length 0,σ++[.row E sz by' 0 false (List.replicate n.toNat zs)])
  | _,_=>none
 | .Dg K E=>some (True,.mp σ.length,σ++[.map K E []])
 | .Nc E sz by' szs xs=>some ((∀ x∈xs,hY σ (ev fr x)=true)∧∀ r∈xs.map fun x=>dw szs (fI (ev fr x)),r.length=sz∧∀ c∈r,c.pure=true,.own σ.length 0,σ++[.row E sz by' 0 false (xs.map fun x=>dw szs (fI (ev fr x)))])
 | .Kj kd szs m k x =>
  let xv:=nk szs (ev fr x)
  match ev fr m with
  | .mp id=>match σ[id]? with
   | some (.map K E es)=>match gH kd (ev fr k) es 0 with
    | some none=>some (rS kd (ev fr k)=true∧xv.BQ=true,.u,σ.set id (.map K E (es++[(ev fr k,xv)])))
    | some (some (i,_))=>some (rS kd (ev fr k)=true∧xv.BQ=true,.u,σ.set id (.map K E (es.set i (ev fr k,xv))))
    | none=>none
   | _=>none
  | _=>none
 | _=>none
end Go.Pm

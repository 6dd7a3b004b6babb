/- A part of a proof; the claim's last text says of what. -/
import Derived.Calls
import Derived.Below
import Derived.Laws.AppendOwn
import Derived.Laws.OwnMore
import Derived.Lib.LaidTab
set_option linter.all false
namespace Go
def Ag.{u}:=@List.length_replicate.{u}
def Ah:=@Bool.and_eq_false_iff
def Ai.{u,v}:=@Array.getElem?_mapIdx.{u,v}
def Bm.{u}:=@Array.getElem?_setIfInBounds_self_of_lt.{u}
def C4:=@Iff.rfl
def CV:=@Nat.mul_one
def CW:=@Int.add_le_add_right
def Hi.{u}:=@cond_false.{u}
def Hj.{u,v}:=@List.mem_filterMap.{u,v}
def Hk.{u}:=@Array.ext_getElem?.{u}
def Hl.{u}:=@Array.empty_append.{u}
def Hm.{u}:=@Array.append_empty.{u}
def K7:=@true_or
def K8.{u}:=@bne_self_eq_false.{u}
def K9:=@Nat.zero_mul
def La:=@Nat.le_of_eq
def Lb.{u,v}:=@List.pairwise_map.{u,v}
def Lc.{u}:=@List.flatten_cons.{u}
def Ld.{u}:=@List.all_nil.{u}
def Lf:=@Int.add_zero
def Lg:=@Classical.em
def Lh:=@Bool.not_eq_false
def O0.{u,v}:=@List.lookup_cons.{u,v}
def OV:=@not_or
def OW:=@false_iff
def OX.{u}:=@beq_self_eq_true.{u}
def OY:=@Nat.le_of_not_lt
def OZ:=@Nat.le_add_right
def Ph:=@Int.add_mul
def RX:=@Nat.div_add_mod
def RY:=@List.range_succ
def RZ:=@Int.ediv_nonneg
def SJ.{u}:=@Ne.symm.{u}
def SK.{u}:=@List.idxOf_lt_length_of_mem.{u}
def VE.{u}:=@List.pairwise_iff_getElem.{u}
def Ve:=@eq_iff_iff
def Vf.{u}:=@List.drop_take.{u}
def Vg:=@Int.toNat_zero
def Vh:=@Int.mul_le_mul
def Vi:=@Int.fdiv_eq_ediv_of_nonneg
def Y0.{u}:=@List.Pairwise.imp_of_mem.{u}
def Y1.{u}:=@Bool.beq_comm.{u}
def YX.{u}:=@List.take_nil.{u}
def YY.{u}:=@List.eq_of_mem_replicate.{u}
def YZ.{u}:=@List.drop_nil.{u}
def ZA:=@Nat.pos_of_mul_pos_left
def ZB:=@Nat.le_mul_of_pos_right
def ZC.{u}:=@List.pairwise_mergeSort.{u}
def ZD.{u}:=@List.getElem?_set_self'.{u}
def a6.{u}:=@Array.length_toList.{u}
def a8:=@Classical.byContradiction
def aA:=@Bool.false_eq_true
def aF.{u}:=@List.getD_cons_zero.{u}
def aG:=@Bool.and_eq_true
def aH.{u}:=@List.getElem?_append_right.{u}
def aI.{u}:=@if_pos.{u}
def aJ.{u}:=@if_false.{u}
def aK.{u}:=@List.getElem?_set_ne.{u}
def aL.{u}:=@List.eq_nil_of_length_eq_zero.{u}
def aM:=@Int.toNat_natCast
def aO.{u}:=@if_true.{u}
def aP.{u}:=@List.getD_cons_succ.{u}
def aU:=@decide_eq_true_eq
def aV.{u}:=@List.mem_of_getElem?.{u}
def aW.{u}:=@List.nil_append.{u}
def aX.{u}:=@Array.getElem?_eq_some_iff.{u}
def aY.{u}:=@List.append_assoc.{u}
def aa.{u}:=@Option.some.injEq.{u}
def ab.{u}:=@List.getElem?_eq_some_iff.{u}
def ac4:=@List.pairwise_lt_range
def ac5.{u}:=@List.getElem?_eraseIdx.{u}
def ac6.{u}:=@List.drop_eq_nil_of_le.{u}
def ag.{u}:=@List.length_cons.{u}
def ah.{u,v}:=@List.length_map.{u,v}
def ai.{u}:=@List.getElem?_append_left.{u}
def aj.{u,v}:=@Option.map_eq_some_iff.{u,v}
def ak.{u}:=@List.length_append.{u}
def al.{u}:=@List.getElem?_eq_getElem.{u}
def an.{u,v}:=@Prod.mk.injEq.{u,v}
def ao.{u}:=@List.getElem?_set_self.{u}
def aq.{u}:=@List.getElem?_cons_zero.{u}
def ar.{u}:=@List.getD_eq_getElem?_getD.{u}
def au:=@Nat.le_refl
def aw.{u}:=@if_neg.{u}
def ay.{u}:=@List.length_nil.{u}
def az.{u,v}:=@List.map_cons.{u,v}
def b6.{u}:=@List.mem_singleton.{u}
def bA.{u}:=@List.mem_cons.{u}
def bD.{u,v}:=@List.map_nil.{u,v}
def bF.{u}:=@List.getElem?_cons_succ.{u}
def bI.{u,v}:=@List.mem_map.{u,v}
def bJ:=@Nat.mul_le_mul_right
def bN.{u}:=@List.sum_cons.{u}
def bP.{u}:=@List.mem_append.{u}
def bQ.{u}:=@List.eq_nil_iff_forall_not_mem.{u}
def bR.{u}:=@beq_iff_eq.{u}
def bT.{u}:=@List.length_take.{u}
def bU.{u}:=@List.all_eq_true.{u}
def bV.{u}:=@List.append_nil.{u}
def bY.{u,v}:=@Option.map_some.{u,v}
def bc.{u}:=@Array.getElem?_eq_getElem.{u}
def bf.{u,v}:=@List.getElem?_map.{u,v}
def bg.{u}:=@List.cons_append.{u}
def bj.{u}:=@List.getElem?_take_of_lt.{u}
def bl.{u}:=@Array.getD_eq_getD_getElem?.{u}
def bn.{u}:=@List.getElem?_eq_none.{u}
def bo:=@Nat.zero_add
def br:=@Nat.le_trans
def c8:=@Bool.or_eq_true
def cA:=@List.mem_range
def cB:=@Nat.add_mul
def cF.{u}:=@List.getElem_mem.{u}
def cI.{u}:=@List.set_append_right.{u}
def cL:=@not_false_eq_true
def cM:=@Nat.lt_of_lt_of_le
def cN.{u,v}:=@List.map_congr_left.{u,v}
def cR:=@Nat.add_sub_cancel_left
def cS:=@Bool.not_eq_true'
def cT.{u}:=@beq_eq_false_iff_ne.{u}
def cU.{u}:=@List.mem_filter.{u}
def cV.{u,v}:=@List.foldl_cons.{u,v}
def cd.{u}:=@Array.getElem?_setIfInBounds_ne.{u}
def cj:=@Int.le_refl
def cm:=@Bool.true_and
def cy.{u}:=@List.length_drop.{u}
def cz.{u}:=@Array.getElem?_modify.{u}
def dK.{u}:=@List.length_pos_iff.{u}
def dL:=@Int.le_trans
def dN:=@Bool.false_and
def dP.{u,v}:=@List.flatMap_cons.{u,v}
def dQ:=@Bool.and_true
def dT.{u}:=@List.mem_of_mem_take.{u}
def dU.{u}:=@List.drop_eq_getElem_cons.{u}
def de.{u}:=@List.mem_cons_of_mem.{u}
def df:=@Bool.eq_iff_iff
def dm:=@Nat.add_zero
def dn:=@decide_eq_false_iff_not
def dz.{u}:=@List.take_of_length_le.{u}
def eA.{u}:=@List.not_mem_nil.{u}
def eB:=@Bool.not_true
def eC.{u}:=@List.take_succ_cons.{u}
def eE:=@Int.zero_add
def eM.{u}:=@List.nodup_cons.{u}
def eN.{u,v}:=@List.map_append.{u,v}
def eT:=@Nat.sub_self
def eU.{u}:=@List.filter_cons.{u}
def eX.{u}:=@ne_eq.{u}
def eY:=@Nat.zero_le
def eZ.{u}:=@List.mem_iff_getElem?.{u}
def fA:=@and_true
def fB.{u}:=@Option.getD_some.{u}
def fQ.{u}:=@List.size_toArray.{u}
def fR.{u}:=@List.nodup_append.{u}
def fS:=@Int.tdiv_eq_ediv_of_nonneg
def fT:=@Bool.not_false
def fU.{u}:=@Array.getElem?_append_left.{u}
def fV.{u}:=@List.takeWhile_cons.{u}
def fW.{u,v}:=@List.filterMap_cons.{u,v}
def fa.{u}:=@List.length_filter_le.{u}
def fb.{u}:=@List.eq_nil_or_concat.{u}
def fc.{u}:=@List.concat_eq_append.{u}
def fg:=@not_true
def fm:=@Nat.mul_comm
def fp:=@Nat.lt_or_ge
def fq.{u}:=@List.cons.injEq.{u}
def gE:=@Nat.one_mul
def gF.{u}:=@List.set_append_left.{u}
def gN.{u}:=@List.ext_getElem?.{u}
def gS:=@List.getElem?_range
def ga.{u}:=@Option.some.inj.{u}
def gm.{u}:=@List.take_append_drop.{u}
def gn.{u}:=@Array.getElem?_toList.{u}
def gv.{u,v}:=@Option.bind_some.{u,v}
def gw.{u}:=@List.getElem?_drop.{u}
def gy:=@Bool.not_eq_false'
def iH:=@true_and
def iI.{u}:=@List.nodup_nil.{u}
def ic.{u,v,w}:=@List.map_map.{u,v,w}
def ij.{u}:=@List.all_cons.{u}
def il:=@Int.mul_add
def im:=@Bool.false_or
def iu.{u,v}:=@List.mem_flatMap.{u,v}
def jC.{u}:=@List.take_zero.{u}
def jD.{u}:=@List.getLast?_singleton.{u}
def jE:=@Int.natCast_zero
def jF:=@Bool.and_false
def jT:=@Int.mul_le_mul_of_nonneg_left
def jZ.{u}:=@List.filter_append.{u}
def ja:=@Bool.or_eq_false_iff
def jr.{u,v}:=@List.length_filterMap_le.{u,v}
def jz.{u}:=@List.drop_succ_cons.{u}
def kX:=@decide_true
def kY:=@and_self
def kZ:=@Nat.div_lt_of_lt_mul
def ka.{u}:=@Array.getElem?_eq_none.{u}
def kz.{u}:=@List.getElem?_toArray.{u}
def lK:=@List.nodup_range
def lL.{u,v}:=@Array.toList_map.{u,v}
def lf.{u}:=@List.take_left.{u}
def lg.{u}:=@List.getLast?_append.{u}
def lh.{u}:=@List.forall_mem_cons.{u}
def lj.{u}:=@List.drop_zero.{u}
def mQ.{u}:=@bne_iff_ne.{u}
def mR:=@Nat.lt_of_le_of_lt
def mb:=@Nat.add_assoc
def mc.{u}:=@Array.getElem?_push_size.{u}
def nL:=@false_or
def o7:=@Int.mul_le_mul_of_nonneg_right
def o8.{u}:=@Array.eq_empty_of_size_eq_zero.{u}
def ow.{u}:=@List.singleton_append.{u}
def ox.{u}:=@List.set_getElem_self.{u}
def pz.{u}:=@List.mem_of_mem_drop.{u}
def qX.{u}:=@List.replicate_succ.{u}
def qY.{u}:=@Array.getElem?_push.{u}
def qx:=@Int.natCast_add
def qy.{u,v}:=@Except.ok.injEq.{u,v}
def qz.{u}:=@Array.getElem?_setIfInBounds.{u}
def sf:=@or_false
def sg.{u}:=@Option.some_or.{u}
def si:=@Nat.mod_lt
def sj.{u}:=@List.set_cons_zero.{u}
def sk.{u}:=@List.set_cons_succ.{u}
def sn.{u}:=@List.perm_ext_iff_of_nodup.{u}
def so.{u}:=@List.pairwise_cons.{u}
def sq.{u}:=@List.getElem?_take.{u}
def sr.{u,v}:=@List.foldl_nil.{u,v}
def sv:=@Int.mul_nonneg
def sy:=@Bool.true_eq_false
def tP.{u}:=@List.mem_of_find?_eq_some.{u}
def tT.{u}:=@Array.size_append.{u}
def u0.{u}:=@Array.getElem?_replicate.{u}
def uY:=@false_imp_iff
def uZ:=@Bool.and_self
def we.{u}:=@Option.getD_none.{u}
def wg.{u,v}:=@Option.bind_eq_some_iff.{u,v}
def wh:=@Nat.mod_eq_of_lt
def wi.{u}:=@List.length_eq_zero_iff.{u}
def wj.{u}:=@List.getElem?_replicate.{u}
def wm.{u}:=@List.drop_length.{u}
def wo:=@Int.eq_ofNat_of_zero_le
def zd:=@decide_false
def ze:=@Nat.sub_zero
def zg:=@List.range_succ_eq_map
def zh.{u}:=@Array.getElem?_push_lt.{u}
def zp:=@decide_eq_false
def zq:=@UInt8.toNat_inj
def zr.{u,v}:=@Option.map_none.{u,v}
def zt.{u}:=@List.length_set.{u}
def zu.{u}:=@List.idxOf_cons.{u}
def zw.{u}:=@List.find?_some.{u}
end Go

namespace Go.Pm
open Go Go.RowKit
inductive V where
 | u
 | b (x:Bool)
 | i (k:IntKind) (n:Int)
 | s (l:List UInt8)
 | nil
 | lit (sz:Nat) (xs:List (List V))
 | sl (sz:Nat) (xs:List (List V))
 | own (id g:Nat)
 | sub (id g lo hi:Nat)
 | ptr (id off:Nat)
 | ep (sz:Nat) (xs:List (List V)) (i off:Nat)
 | rp (id g i off:Nat)
 | mp (id:Nat)
 | it (id:Nat)
 | tL (id n:Nat)
 | dx
 | fN
 | fn (f:Nat) (caps:List V)
 | agg (xs:List V)
 | fu (xs:List V)
def V.pure:V→Bool
 | .b _ | .i _ _ | .s _ | .sl _ _=>true
 | _=>false
def V.cell:V→Bool
 | .u | .agg _ | .fu _ | .it _ | .tL _ _=>false
 | _=>true
inductive Ob where
 | dead
 | box (T:Nat) (cs:List V)
 | row (E sz by':Nat) (g:Nat) (sh:Bool) (xs:List (List V))
 | map (K E:Nat) (es:List (V×V))
 | iter (st:Bool) (m E n:Nat) (ps:List Nat) (cur:Option Nat)
abbrev ae:=List Ob
abbrev Mem:=Nat→Value
def ir:Value→Option Nat
 | .pointer (some a)=>some a.block
 | .slice (some a) _ _=>some a.block
 | .map (some r)=>some r
 | _=>none
def Ob.ZF(off:Nat):Ob→Prop
 | .dead=>False
 | .box _ _=>True
 | .row _ sz _ _ sh xs=>sh=true→xs.length*sz≤off
 | .map _ _ _=>True
 | .iter _ _ _ _ _ _=>True
def wr(J:ae)(μ:Mem)(b off:Nat):Prop:=∃ id o,J[id]?=some o∧ir (μ id)=some b∧o.ZF off
def fw(xs:List (List V))(i j:Nat):Option V:=(xs[i]?).bind (·[j]?)
def kK(v:Value)(lo hi sz:Nat):Value :=
 match v with
 | .slice a _ cap=>.slice (if cap=lo then a else a.map (·.add (lo*sz))) (hi - lo) (cap - lo)
 | v=>v
def V7(v:Value)(i off sz:Nat):Value :=
 match v with
 | .slice (some a) _ _=>.pointer (some ⟨a.block,i*sz+off,none⟩)
 | v=>v
inductive VR (w:World) (J:ae) (μ:Mem):V→Value→Prop
 | u (v:Value):VR w J μ .u v
 | b (x:Bool):VR w J μ (.b x) (.bool x)
 | i (k:IntKind) (n:Int):VR w J μ (.i k n) (.int k n)
 | s (l:List UInt8) (x:ByteArray) (hl:x.data.toList=l) (hm:l.length≤maxLen):VR w J μ (.s l) (.string x)
 | nil:VR w J μ .nil (.slice none 0 0)
 | xl (sz:Nat):VR w J μ (.sl sz []) (.slice none 0 0)
 | sle (sz:Nat) (a:Addr):VR w J μ (.sl sz []) (.slice (some a) 0 0)
 | sl (sz:Nat) (xs:List (List V)) (b o cap:Nat) (f:Nat→Nat→Value) (hlen:xs.length≤cap) (kR:cap≤maxLen) (ck:∀ r∈xs,r.length=sz)
   (hc:∀ i j x,fw xs i j=some x→w.cell? ⟨b,o+i*sz+j,none⟩=some (f i j)∧¬ wr J μ b (o+i*sz+j)∧x.pure=true)
   (hv:∀ i j x,fw xs i j=some x→VR w J μ x (f i j)):VR w J μ (.sl sz xs) (.slice (some ⟨b,o,none⟩) xs.length cap)
 | Cn (sz:Nat):VR w J μ (.lit sz []) (.slice none 0 0)
 | lit (sz:Nat) (xs:List (List V)) (b o:Nat) (f:Nat→Nat→Value) (kR:xs.length≤maxLen) (ck:∀ r∈xs,r.length=sz)
   (hc:∀ i j x,fw xs i j=some x→w.cell? ⟨b,o+i*sz+j,none⟩=some (f i j)∧¬ wr J μ b (o+i*sz+j)∧x.pure=true)
   (hv:∀ i j x,fw xs i j=some x→VR w J μ x (f i j)):VR w J μ (.lit sz xs) (.slice (some ⟨b,o,none⟩) xs.length xs.length)
 | own (id g:Nat) (v:Value) (hid:id<J.length) (h:∀ E sz by' g' sh xs,J[id]?=some (.row E sz by' g' sh xs)→g≤g'∧(g=g'→v=μ id)):VR w J μ (.own id g) v
 | sub (id g lo hi:Nat) (v:Value) (hid:id<J.length)
   (h:∀ E sz by' g' sh xs,J[id]?=some (.row E sz by' g' sh xs)→g≤g'∧(g=g'→lo≤hi∧hi≤xs.length∧v=kK (μ id) lo hi sz)):VR w J μ (.sub id g lo hi) v
 | ptr (id off b:Nat) (h:∃ T cs,J[id]?=some (.box T cs)) (hm:μ id=.pointer (some ⟨b,0,none⟩)):VR w J μ (.ptr id off) (.pointer (some ⟨b,off,none⟩))
 | ep (sz:Nat) (xs:List (List V)) (i off b o:Nat) (f:Nat→Value) (hi:i<xs.length) (ck:∀ r∈xs,r.length=sz)
   (hc:∀ j x,fw xs i j=some x→w.cell? ⟨b,o+j,none⟩=some (f j)∧¬ wr J μ b (o+j)∧x.pure=true)
   (hv:∀ j x,fw xs i j=some x→VR w J μ x (f j)):VR w J μ (.ep sz xs i off) (.pointer (some ⟨b,o+off,none⟩))
 | rp (id g i off:Nat) (v:Value) (hid:id<J.length)
   (h:∀ E sz by' g' sh xs,J[id]?=some (.row E sz by' g' sh xs)→g≤g'∧(g=g'→i<xs.length∧v=V7 (μ id) i off sz)):VR w J μ (.rp id g i off) v
 | mp (id r:Nat) (h:∃ K E es,J[id]?=some (.map K E es)) (hm:μ id=.map (some r)):VR w J μ (.mp id) (.map (some r))
 | it (id:Nat) (v:Value) (h:∃ st m E n ps c,J[id]?=some (.iter st m E n ps c)) (hm:μ id=v):VR w J μ (.it id) v
 | tL (id n b:Nat) (h:∃ T cs,J[id]?=some (.box T cs)) (hm:μ id=.pointer (some ⟨b,0,none⟩)):VR w J μ (.tL id n) (.slice (some ⟨b,0,none⟩) n n)
 | dx:VR w J μ .dx (.map none)
 | fN:VR w J μ .fN (.pointer none)
 | fn (f:Nat) (caps:List V) (vs:Array Value) (hl:caps.length=vs.size) (hv:∀ i x,caps[i]?=some x→VR w J μ x (vs.getD i undef)) :
   VR w J μ (.fn f caps) (.func (.func f) #[] vs)
 | agg (xs:List V) (vs:Array Value) (hl:xs.length=vs.size) (hv:∀ i x,xs[i]?=some x→VR w J μ x (vs.getD i undef)):VR w J μ (.agg xs) (.agg vs)
 | fu (xs:List V) (vs:Array Value) (hl:xs.length=vs.size) (hv:∀ i x,xs[i]?=some x→VR w J μ x (vs.getD i undef)):VR w J μ (.fu xs) (.tuple vs)
inductive V.Lt (n:Nat):V→Prop
 | u:Lt n .u
 | b (x):Lt n (.b x)
 | i (k a):Lt n (.i k a)
 | s (l):Lt n (.s l)
 | nil:Lt n .nil
 | lit (sz xs):Lt n (.lit sz xs)
 | sl (sz xs):Lt n (.sl sz xs)
 | own (id g) (h:id<n):Lt n (.own id g)
 | sub (id g lo hi) (h:id<n):Lt n (.sub id g lo hi)
 | ptr (id off) (h:id<n):Lt n (.ptr id off)
 | ep (sz xs i off):Lt n (.ep sz xs i off)
 | rp (id g i off) (h:id<n):Lt n (.rp id g i off)
 | mp (id) (h:id<n):Lt n (.mp id)
 | it (id) (h:id<n):Lt n (.it id)
 | tL (id m) (h:id<n):Lt n (.tL id m)
 | dx:Lt n .dx
 | fN:Lt n .fN
 | fn (f caps) (h:∀ (i:Nat) (x:V),caps[i]?=some x→Lt n x):Lt n (.fn f caps)
 | agg (xs) (h:∀ (i:Nat) (x:V),xs[i]?=some x→Lt n x):Lt n (.agg xs)
 | fu (xs) (h:∀ (i:Nat) (x:V),xs[i]?=some x→Lt n x):Lt n (.fu xs)
theorem VR.lt{w:World}{J:ae}{μ:Mem}{x:V}{v:Value}(h:VR w J μ x v):x.Lt J.length:=by
 induction h with
 | u v=>exact .u
 | b x=>exact .b x
 | i k n=>exact .i k n
 | s l x hl hm=>exact .s l
 | nil=>exact .nil
 | xl sz=>exact .sl sz _
 | sle sz a=>exact .sl sz _
 | sl sz xs b o cap f hlen kR ck hc hv ih=>exact .sl sz xs
 | Cn sz=>exact .lit sz _
 | lit sz xs b o f kR ck hc hv ih=>exact .lit sz xs
 | own id g v hid h=>exact .own id g hid
 | sub id g lo hi v hid h=>exact .sub id g lo hi hid
 | ptr id off b h hm =>
  obtain⟨T,cs,h1⟩:=h;exact .ptr id off (ab.1 h1).1
 | ep sz xs i off b o f hi ck hc hv ih=>exact .ep sz xs i off
 | rp id g i off v hid h=>exact .rp id g i off hid
 | mp id r h hm =>
  obtain⟨K,E,es,h1⟩:=h;exact .mp id (ab.1 h1).1
 | it id v h hm =>
  obtain⟨st,m,E,n,ps,c,h1⟩:=h;exact .it id (ab.1 h1).1
 | tL id n b h hm =>
  obtain⟨T,cs,h1⟩:=h;exact .tL id n (ab.1 h1).1
 | dx=>exact .dx
 | fN=>exact .fN
 | fn f caps vs hl hv ih=>exact .fn f caps ih
 | agg xs vs hl hv ih=>exact .agg xs ih
 | fu xs vs hl hv ih=>exact .fu xs ih
theorem V.Lt.mono{n m:Nat}{x:V}(h:x.Lt n)(hm:n≤m):x.Lt m:=by
 induction h with
 | u=>exact .u
 | b x=>exact .b x
 | i k a=>exact .i k a
 | s l=>exact .s l
 | nil=>exact .nil
 | lit sz xs=>exact .lit sz xs
 | sl sz xs=>exact .sl sz xs
 | own id g h=>exact .own id g (cM h hm)
 | sub id g lo hi h=>exact .sub id g lo hi (cM h hm)
 | ptr id off h=>exact .ptr id off (cM h hm)
 | ep sz xs i off=>exact .ep sz xs i off
 | rp id g i off h=>exact .rp id g i off (cM h hm)
 | mp id h=>exact .mp id (cM h hm)
 | it id h=>exact .it id (cM h hm)
 | tL id n h=>exact .tL id n (cM h hm)
 | dx=>exact .dx
 | fN=>exact .fN
 | fn f caps h ih=>exact .fn f caps ih
 | agg xs h ih=>exact .agg xs ih
 | fu xs h ih=>exact .fu xs ih
structure kW (w:World) (J:ae) (μ:Mem) (w':World) (J':ae) (μ':Mem):Prop where
 cell:∀ b o v,w.cell? ⟨b,o,none⟩=some v→¬ wr J μ b o→w'.cell? ⟨b,o,none⟩=some v∧¬ wr J' μ' b o
 len:J.length≤J'.length
 box:∀ id T cs,J[id]?=some (.box T cs)→(∃ cs',J'[id]?=some (.box T cs'))∧μ' id=μ id
 map:∀ id K E es,J[id]?=some (.map K E es)→(∃ E' es',J'[id]?=some (.map K E' es'))∧μ' id=μ id
 itr:∀ id st m E n ps c,J[id]?=some (.iter st m E n ps c)→(∃ ps' c',J'[id]?=some (.iter st m E n ps' c'))∧μ' id=μ id
 row:∀ id E sz by' g' sh xs,id<J.length→J'[id]?=some (.row E sz by' g' sh xs)→∃ g sh0 xs0,J[id]?=some (.row E sz by' g sh0 xs0)∧g≤g'∧(g=g'→xs0.length=xs.length∧μ' id=μ id)
theorem VR.mono{w:World}{J:ae}{μ:Mem}{w':World}{J':ae}{μ':Mem}(p:kW w J μ w' J' μ'){x:V}{v:Value}(h:VR w J μ x v):VR w' J' μ' x v:=by
 induction h with
 | u v=>exact .u v
 | b x=>exact .b x
 | i k n=>exact .i k n
 | s l x hl hm=>exact .s l x hl hm
 | nil=>exact .nil
 | xl sz=>exact .xl sz
 | sle sz a=>exact .sle sz a
 | sl sz xs b o cap f hlen kR ck hc hv ih =>
  exact .sl sz xs b o cap f hlen kR ck (fun i j x hx=>⟨(p.cell _ _ _ (hc i j x hx).1 (hc i j x hx).2.1).1,(p.cell _ _ _ (hc i j x hx).1 (hc i j x hx).2.1).2,(hc i j x hx).2.2⟩) ih
 | Cn sz=>exact .Cn sz
 | lit sz xs b o f kR ck hc hv ih =>
  exact .lit sz xs b o f kR ck (fun i j x hx=>⟨(p.cell _ _ _ (hc i j x hx).1 (hc i j x hx).2.1).1,(p.cell _ _ _ (hc i j x hx).1 (hc i j x hx).2.1).2,(hc i j x hx).2.2⟩) ih
 | own id g v hid h =>
  refine .own id g v (cM hid p.len) fun E sz by' g' sh xs hs=>?_;obtain⟨g1,sh',xs',h1,h2,h3⟩:=p.row id E sz by' g' sh xs hid hs;have h4:=h _ _ _ _ _ _ h1;refine⟨br h4.1 h2,fun hg=>?_⟩;have e1:g1=g':=by omega
  rw[(h3 e1).2];exact h4.2 (by omega)
 | sub id g lo hi v hid h =>
  refine .sub id g lo hi v (cM hid p.len) fun E sz by' g' sh xs hs=>?_;obtain⟨g1,sh',xs',h1,h2,h3⟩:=p.row id E sz by' g' sh xs hid hs;have h4:=h _ _ _ _ _ _ h1;refine⟨br h4.1 h2,fun hg=>?_⟩;have e1:g1=g':=by omega
  rw[(h3 e1).2,← (h3 e1).1];exact h4.2 (by omega)
 | ptr id off b h hm =>
  obtain⟨T,cs,h1⟩:=h;obtain⟨⟨cs',h2⟩,h3⟩:=p.box id T cs h1;exact .ptr id off b ⟨T,cs',h2⟩ (h3.trans hm)
 | ep sz xs i off b o f hi ck hc hv ih =>
  exact .ep sz xs i off b o f hi ck (fun j x hx=>⟨(p.cell _ _ _ (hc j x hx).1 (hc j x hx).2.1).1,(p.cell _ _ _ (hc j x hx).1 (hc j x hx).2.1).2,(hc j x hx).2.2⟩) ih
 | rp id g i off v hid h =>
  refine .rp id g i off v (cM hid p.len) fun E sz by' g' sh xs hs=>?_;obtain⟨g1,sh',xs',h1,h2,h3⟩:=p.row id E sz by' g' sh xs hid hs;have h4:=h _ _ _ _ _ _ h1;refine⟨br h4.1 h2,fun hg=>?_⟩;have e1:g1=g':=by omega
  rw[(h3 e1).2,← (h3 e1).1];exact h4.2 (by omega)
 | mp id r h hm =>
  obtain⟨K,E,es,h1⟩:=h;obtain⟨⟨E',es',h2⟩,h3⟩:=p.map id K E es h1;exact .mp id r ⟨K,E',es',h2⟩ (h3.trans hm)
 | it id v h hm =>
  obtain⟨st,m,E,n,ps,c,h1⟩:=h;obtain⟨⟨ps',c',h2⟩,h3⟩:=p.itr id st m E n ps c h1;exact .it id v ⟨st,m,E,n,ps',c',h2⟩ (h3.trans hm)
 | tL id n b h hm =>
  obtain⟨T,cs,h1⟩:=h;obtain⟨⟨cs',h2⟩,h3⟩:=p.box id T cs h1;exact .tL id n b ⟨T,cs',h2⟩ (h3.trans hm)
 | dx=>exact .dx
 | fN=>exact .fN
 | fn f caps vs hl hv ih=>exact .fn f caps vs hl ih
 | agg xs vs hl hv ih=>exact .agg xs vs hl ih
 | fu xs vs hl hv ih=>exact .fu xs vs hl ih
theorem kW.refl(w:World)(J:ae)(μ:Mem):kW w J μ w J μ :=
 ⟨fun _ _ _ h h'=>⟨h,h'⟩,au _,fun _ _ cs h=>⟨⟨cs,h⟩,rfl⟩,fun _ _ E es h=>⟨⟨E,es,h⟩,rfl⟩,fun _ _ _ _ _ ps c h=>⟨⟨ps,c,h⟩,rfl⟩,fun _ _ _ _ g sh xs _ h=>⟨g,sh,xs,h,au _,fun _=>⟨rfl,rfl⟩⟩⟩
def lJ(w:World)(J:ae)(μ:Mem)(w':World)(J':ae)(μ':Mem):Prop:=∀ x v,VR w J μ x v→VR w' J' μ' x v
theorem kW.eO{w:World}{J:ae}{μ:Mem}{w':World}{J':ae}{μ':Mem}(p:kW w J μ w' J' μ'):lJ w J μ w' J' μ':=fun _ _ h=>h.mono p
def eJ(n:Nat)(w:World)(J:ae)(μ:Mem)(w':World)(J':ae)(μ':Mem):Prop:=∀ x v,VR w J μ x v→x.Lt n→VR w' J' μ' x v
theorem lJ.Li{n:Nat}{w:World}{J:ae}{μ:Mem}{w':World}{J':ae}{μ':Mem}(k:lJ w J μ w' J' μ'):eJ n w J μ w' J' μ':=fun x v h _=>k x v h
theorem eJ.refl(n:Nat)(w:World)(J:ae)(μ:Mem):eJ n w J μ w J μ:=fun _ _ h _=>h
theorem eJ.trans{n:Nat}{w:World}{J:ae}{μ:Mem}{w':World}{J':ae}{μ':Mem}{w'':World}{J'':ae}{μ'':Mem}
  (h:eJ n w J μ w' J' μ') (k:eJ n w' J' μ' w'' J'' μ''):eJ n w J μ w'' J'' μ'':=fun x v hx hl=>k x v (h x v hx hl) hl
theorem lJ.refl(w:World)(J:ae)(μ:Mem):lJ w J μ w J μ:=fun _ _ h=>h
theorem lJ.trans{w:World}{J:ae}{μ:Mem}{w':World}{J':ae}{μ':Mem}{w'':World}{J'':ae}{μ'':Mem}
  (h:lJ w J μ w' J' μ') (k:lJ w' J' μ' w'' J'' μ''):lJ w J μ w'' J'' μ'':=fun x v hx=>k x v (h x v hx)
def Ti(P:Program)(E sz by':Nat):Prop :=
 0<sz∧∃ (t:TypeInfo) (z:Value),P.info? E=some t∧t.zero=some z∧t.size=sz∧t.bytes=by'∧z.cells.size=sz
def ma(w:World)(J:ae)(μ:Mem)(xs:List (List V))(sz:Nat)(vals:List Value):Prop :=
 (∀ r∈xs,r.length=sz)∧∀ i j x,fw xs i j=some x→x.pure=true∧∃ v,vals[i*sz+j]?=some v∧VR w J μ x v
def V.Jh:V→Bool
 | .i _ _ | .s _ | .b _=>true
 | _=>false
def V.nX:V→Bool
 | .i _ _ | .s _ | .b _=>true
 | .agg xs=>xs.all V.Jh
 | _=>false
def V.iR:V→Bool
 | .agg xs=>xs.all V.cell
 | x=>x.cell
def sc(w:World)(J:ae)(μ:Mem)(es:List (V×V))(ents:Array MapEntry)(clock:Nat):Prop :=
 ents.size=es.length∧(∀ (i:Nat) (k x:V),es[i]?=some (k,x)→k.nX=true∧x.iR=true∧∃ e,ents[i]?=some e∧VR w J μ k e.key∧VR w J μ x e.val) ∧
 (∀ (i:Nat) (e:MapEntry),ents[i]?=some e→e.born<clock)∧(∀ (i j:Nat) (e e':MapEntry),ents[i]?=some e→ents[j]?=some e'→e.born=e'.born→i=j)
def IS(w:World)(J:ae)(μ:Mem)(m E0 n0:Nat)(ps:List Nat)(cur:Option Nat)(bm since:Nat)(seen:Array Nat):Prop :=
 μ m=.map (some bm)∧(∀ p∈ps,p<n0)∧∃ K E es ents clock,J[m]?=some (.map K E es)∧w.heap[bm]?=some (.map ents clock)∧E0≤E ∧
  (E=E0→n0≤es.length∧(es.length=n0→clock=since∧(∀ (i:Nat) (e:MapEntry),ents[i]?=some e→(seen.contains e.born=false↔i∈ps)) ∧
   ∀ c,cur=some c→∃ e:MapEntry,ents[c]?=some e∧seen.back?=some e.born))
def IP(w:World)(J:ae)(μ:Mem)(m E0 n0:Nat)(cur:Option Nat)(born:Int):Prop :=
 ∃ bm,μ m=.map (some bm)∧∃ K E es ents clock,J[m]?=some (.map K E es)∧w.heap[bm]?=some (.map ents clock)∧E0≤E ∧
  (E=E0→n0≤es.length∧∀ c,cur=some c→∃ e:MapEntry,ents[c]?=some e∧(e.born:Int)=born)
def wc(P:Program)(B:Nat)(w:World)(J:ae)(μ:Mem)(v:Value):Ob→Prop
 | .dead=>True
 | .box T cs=>∃ (b:Nat) (vs:Array Value),v=.pointer (some ⟨b,0,none⟩)∧B≤b∧w.heap[b]?=some (.cells vs T (0,0))∧vs.size=cs.length ∧
   ∀ (j:Nat) (x:V),cs[j]?=some x→∃ u,vs[j]?=some u∧VR w J μ x u
 | .row E sz by' _ _ xs=>Ti P E sz by'∧∃ vals:List Value,w.ownsRow B E sz v xs.length vals∧ma w J μ xs sz vals
 | .map _ _ es=>∃ (r:Nat) (ents:Array MapEntry) (clock:Nat),v=.map (some r)∧B≤r∧w.heap[r]?=some (.map ents clock)∧sc w J μ es ents clock
 | .iter true m E0 n0 _ cur=>∃ (born:Int),v=.int .i64 born∧IP w J μ m E0 n0 cur born
 | .iter false m E0 n0 ps cur=>∃ (r bm since:Nat) (seen:Array Nat),v=.pointer (some ⟨r,0,none⟩)∧B≤r∧w.heap[r]?=some (.mapIter (some bm) since seen since)∧IS w J μ m E0 n0 ps cur bm since seen
def xF:List Int:=[1,10,100,1000,10000,100000,1000000,10000000,100000000,1000000000,10000000000,100000000000,1000000000000,10000000000000,100000000000000,1000000000000000,10000000000000000,100000000000000000,1000000000000000000,10000000000000000000]
def Px:List (String×IntKind×List Int):=[("internal/strconv.uint64pow10",.u64,xF)]
def Laid(P:Program)(B:Nat)(w:World):Prop:=∀ t∈Px,∀ g,P.globalNamed t.1=some g→g<B∧Lib.TabIs P w t.1 t.2.1 t.2.2
structure se (P:Program) (B:Nat) (w0 w:World):Prop extends Below B w0 w where
 laid:Laid P B w0
theorem se.grown{P:Program}{B:Nat}{a w w':World}{row:Option Nat}(h:se P B a w)(hg:w.grownBy w' row)(hB:B≤w.heap.size)(hr:∀ k,row=some k→B≤k):se P B a w' :=
 ⟨h.toBelow.grown hg hB hr,h.laid⟩
theorem se.tab{P:Program}{B:Nat}{w0 w:World}(h:se P B w0 w){t:String×IntKind×List Int}(ht:t∈Px){g:Nat}(hg:P.globalNamed t.1=some g):Lib.TabIs P w t.1 t.2.1 t.2.2:=by
 obtain⟨h1,h2⟩:=h.laid t ht g hg;unfold Lib.TabIs World.var? at h2 ⊢;simp only[hg,gv]at h2 ⊢;rw[h.block g h1];exact h2
structure fF (P:Program) (B:Nat) (w0 w:World) (J:ae) (μ:Mem):Prop where
 below:se P B w0 w
 base:B≤w.heap.size
 obj:∀ id o,J[id]?=some o→wc P B w J μ (μ id) o
 sep:∀ i j oi oj b,J[i]?=some oi→J[j]?=some oj→oi≠.dead→oj≠.dead→ir (μ i)=some b→ir (μ j)=some b→i=j
def FR(w:World)(J:ae)(μ:Mem)(fr:List V)(a:Act):Prop :=
 a.defers=[]∧a.tmps.size=fr.length∧∀ i x,fr[i]?=some x→VR w J μ x (a.tmps.getD i undef)
theorem FR.eO{w:World}{J:ae}{μ:Mem}{w':World}{J':ae}{μ':Mem}(k:lJ w J μ w' J' μ'){fr:List V}{a:Act}(h:FR w J μ fr a):FR w' J' μ' fr a :=
 ⟨h.1,h.2.1,fun i x hx=>k _ _ (h.2.2 i x hx)⟩
structure St where
 fr:List V
 J:ae
def RT(w:World)(J:ae)(μ:Mem)(xs:List V)(vs:Array Value):Prop:=vs.size=xs.length∧∀ i x,xs[i]?=some x→VR w J μ x (vs.getD i undef)
def PC(P:Program)(f:Nat)(args:List V)(J:ae)(Q:V→ae→Prop):Prop :=
 ∀ (B:Nat) (w0 w:World) (μ:Mem) (vs:Array Value),fF P B w0 w J μ→RT w J μ args vs →
  Calls P f vs w fun e w'=>∃ r v J' μ',e=.returned v∧Q r J'∧fF P B w0 w' J' μ'∧VR w' J' μ' r v∧lJ w J μ w' J' μ'
def PW(n:Nat)(P:Program)(c:Code)(K:Exit→St→Prop)(st:St):Prop :=
 ∀ (B:Nat) (w0 w:World) (μ:Mem) (a:Act),fF P B w0 w st.J μ→FR w st.J μ st.fr a →
  c.wp P (fun e a' w'=>∃ st' μ',K e st'∧fF P B w0 w' st'.J μ'∧FR w' st'.J μ' st'.fr a'∧eJ n w st.J μ w' st'.J μ') a w
theorem PC.mono{P:Program}{f:Nat}{args:List V}{J:ae}{Q Q':V→ae→Prop}(h:PC P f args J Q)(hq:∀ r J',Q r J'→Q' r J'):PC P f args J Q' :=
 fun B w0 w μ vs hs hv=>(h B w0 w μ vs hs hv).mono fun _ _ ⟨r,v,J',μ',he,hQ,rest⟩=>⟨r,v,J',μ',he,hq _ _ hQ,rest⟩
theorem PW.mono{n:Nat}{P:Program}{c:Code}{K K':Exit→St→Prop}{st:St}(h:PW n P c K st)(hk:∀ e st',K e st'→K' e st'):PW n P c K' st :=
 fun B w0 w μ a hs hf=>wp_mono (h B w0 w μ a hs hf) fun _ _ _ ⟨st',μ',hK,rest⟩=>⟨st',μ',hk _ _ hK,rest⟩
theorem PW.skip{n:Nat}{P:Program}{K:Exit→St→Prop}{st:St}(h:K .normal st):PW n P .skip K st :=
 fun _ _ _ μ _ hs hf=>wp_skip ⟨st,μ,h,hs,hf,eJ.refl _ _ _ _⟩
theorem PW.ret{n:Nat}{P:Program}{K:Exit→St→Prop}{st:St}(h:K .ret st):PW n P .ret K st :=
 fun _ _ _ μ _ hs hf=>wp_ret ⟨st,μ,h,hs,hf,eJ.refl _ _ _ _⟩
theorem PW.exit{n:Nat}{P:Program}{id:Nat}{K:Exit→St→Prop}{st:St}(h:K (.exit id) st):PW n P (.exit id) K st :=
 fun _ _ _ μ _ hs hf=>wp_exit ⟨st,μ,h,hs,hf,eJ.refl _ _ _ _⟩
def VX(n:Nat)(P:Program)(y:Code)(K:Exit→St→Prop):Exit→St→Prop
 | .normal,st=>PW n P y K st
 | e,st=>K e st
theorem PW.seq{n:Nat}{P:Program}{x y:Code}{K:Exit→St→Prop}{st:St}(h:PW n P x (VX n P y K) st):PW n P (.seq x y) K st:=by
 intro B w0 w μ a hs hf;refine wp_seq (wp_mono (h B w0 w μ a hs hf) ?_);rintro e a' w' ⟨st',μ',hK,hs',hf',hk⟩;cases e with
 | normal=>exact wp_mono (hK B w0 w' μ' a' hs' hf') fun _ _ _ ⟨st2,μ2,h1,h2,h3,h4⟩=>⟨st2,μ2,h1,h2,h3,hk.trans h4⟩
 | exit id=>exact⟨st',μ',hK,hs',hf',hk⟩
 | goto l=>exact⟨st',μ',hK,hs',hf',hk⟩
 | ret=>exact⟨st',μ',hK,hs',hf',hk⟩
 | panic c=>exact⟨st',μ',hK,hs',hf',hk⟩
 | outgrown=>exact⟨st',μ',hK,hs',hf',hk⟩
def uU(id:Nat)(K:Exit→St→Prop):Exit→St→Prop
 | .exit id',st=>if id'=id then K .normal st else K (.exit id') st
 | e,st=>K e st
theorem PW.block{n:Nat}{P:Program}{id:Nat}{c:Code}{K:Exit→St→Prop}{st:St}(h:PW n P c (uU id K) st):PW n P (.block id c) K st:=by
 intro B w0 w μ a hs hf;refine wp_block (wp_mono (h B w0 w μ a hs hf) ?_);rintro e a' w' ⟨st',μ',hK,hs',hf',hk⟩;cases e with
 | normal=>exact⟨st',μ',hK,hs',hf',hk⟩
 | exit id' =>
  by_cases hid:id'=id
  ·subst hid;simp only[uU,aO]at hK;simp only[Exit.inBlock,aO];exact⟨st',μ',hK,hs',hf',hk⟩
  ·simp only[uU,hid,aJ]at hK;simp only[Exit.inBlock,hid,aJ];exact⟨st',μ',hK,hs',hf',hk⟩
 | goto l=>exact⟨st',μ',hK,hs',hf',hk⟩
 | ret=>exact⟨st',μ',hK,hs',hf',hk⟩
 | panic c=>exact⟨st',μ',hK,hs',hf',hk⟩
 | outgrown=>exact⟨st',μ',hK,hs',hf',hk⟩
theorem o9{P:Program}{Q:Exit→Act→World→Prop}{a:Act}{w:World}{c:Code}(n:Nat)(Jj:Nat→Act→World→Prop)(h0:Jj n a w)
  (round:∀ k a w,Jj k a w→c.wp P (Exit.then (fun a' w'=>∃ k',k'<k∧Jj k' a' w') Q) a w):(Code.loop c).wp P Q a w:=by
 intro b k cs
 have key:∀ n a w,Jj n a w→∃ e a' w',Q e a' w'∧Arrives P (lone (b.at a (.code c::.inLoop c::k)) cs w) b k cs e a' w':=by
  intro n
  induction n using Nat.strongRecOn with
  | _ n ih =>
   intro a w hJ;obtain⟨e,a₁,w₁,hq,rW⟩:=round n a w hJ b (.inLoop c::k) cs;cases e with
   | normal =>
    obtain⟨k',dp,hJ₁⟩:=hq;obtain⟨e₂,a₂,w₂,hq₂,harr₂⟩:=ih k' dp a₁ w₁ hJ₁;exact⟨e₂,a₂,w₂,hq₂,.of_steps (Steps.trans rW (.one step_inLoop)) harr₂⟩
   | exit id=>exact⟨_,a₁,w₁,hq,.pass (x:=.inLoop c) rfl (fun _ _=>.inl (by simp)) rW⟩
   | goto l=>exact⟨_,a₁,w₁,hq,.pass (x:=.inLoop c) rfl (fun _ _=>.inl (by simp)) rW⟩
   | ret=>exact⟨_,a₁,w₁,hq,.pass (x:=.inLoop c) rfl (fun _ _=>.inl (by simp)) rW⟩
   | panic ch=>exact⟨_,a₁,w₁,hq,.pass (x:=.inLoop c) rfl (fun _ _=>.inl (by simp)) rW⟩
   | outgrown=>exact⟨_,a₁,w₁,hq,.pass (x:=.inLoop c) rfl (fun _ _=>.inl (by simp)) rW⟩
 obtain⟨e,a',w',hq,rW⟩:=key _ a w h0;exact⟨e,a',w',hq,.of_steps (.one step_loop) rW⟩
def Sh(I:St→Prop)(m:St→Nat)(k:Nat)(K:Exit→St→Prop):Exit→St→Prop
 | .normal,st=>I st∧m st<k
 | e,st=>K e st
theorem PW.loop{n:Nat}{P:Program}{c:Code}{K:Exit→St→Prop}{st:St}(I:St→Prop)(m:St→Nat)(h0:I st)(h:∀ st,I st→PW n P c (Sh I m (m st) K) st):PW n P (.loop c) K st:=by
 intro B w0 w μ a hs hf
 have key:∀ (N:Nat) (st1:St) (w1:World) (μ1:Mem) (a1:Act),m st1=N→I st1→fF P B w0 w1 st1.J μ1→FR w1 st1.J μ1 st1.fr a1→eJ n w st.J μ w1 st1.J μ1 →
   (Code.loop c).wp P (fun e a' w'=>∃ st' μ',K e st'∧fF P B w0 w' st'.J μ'∧FR w' st'.J μ' st'.fr a'∧eJ n w st.J μ w' st'.J μ') a1 w1:=by
  intro N st1 w1 μ1 a1 hn hI Gw Vw rV;refine o9 N (fun k a2 w2=>∃ st2 μ2,m st2=k∧I st2∧fF P B w0 w2 st2.J μ2∧FR w2 st2.J μ2 st2.fr a2∧eJ n w st.J μ w2 st2.J μ2) ⟨st1,μ1,hn,hI,Gw,Vw,rV⟩ ?_;rintro k a2 w2 ⟨st2,μ2,hm2,Zu,Lp,Eu,po⟩;refine wp_mono (h st2 Zu B w0 w2 μ2 a2 Lp Eu) ?_;rintro e a' w' ⟨st',μ',hK,hs',hf',hk⟩;cases e with
  | normal=>exact⟨m st',hm2▸hK.2,st',μ',rfl,hK.1,hs',hf',po.trans hk⟩
  | exit id=>exact⟨st',μ',hK,hs',hf',po.trans hk⟩
  | goto l=>exact⟨st',μ',hK,hs',hf',po.trans hk⟩
  | ret=>exact⟨st',μ',hK,hs',hf',po.trans hk⟩
  | panic c=>exact⟨st',μ',hK,hs',hf',po.trans hk⟩
  | outgrown=>exact⟨st',μ',hK,hs',hf',po.trans hk⟩
 exact key _ st w μ a rfl h0 hs hf (eJ.refl _ _ _ _)
theorem Ch{w w':World}{base:Nat}{e:TypeId}{size:Nat}{v:Value}{n:Nat}{xs:List Value}(h:w.ownsRow base e size v n xs)
  (hb:∀ g,ir v=some g→w'.heap[g]?=w.heap[g]?):w'.ownsRow base e size v n xs:=by
 obtain⟨h1,h2⟩:=h;refine⟨h1,?_⟩;rcases h2 with h2 | ⟨g,cap,cur,hv,hg,hh,r⟩
 ·exact .inl h2
 ·exact .inr ⟨g,cap,cur,hv,hg,by rw[hb g (by simp[hv,ir])];exact hh,r⟩
theorem wc.oT{P:Program}{B:Nat}{w:World}{J:ae}{μ:Mem}{v:Value}{o:Ob}(h:wc P B w J μ v o)(ho:o≠.dead){b:Nat}(hb:ir v=some b):B≤b∧b<w.heap.size:=by
 cases o with
 | dead=>exact absurd rfl ho
 | box T cs =>
  obtain⟨b',vs,rfl,h1,h2,_⟩:=h;simp only[ir,aa]at hb;subst hb;exact⟨h1,(aX.1 h2).1⟩
 | row E sz by' g sh xs =>
  obtain⟨_,vals,⟨_,h2⟩,_⟩:=h;rcases h2 with⟨rfl,_⟩ | ⟨g,cap,cur,rfl,hg,hh,_⟩
  ·simp[ir]at hb
  ·simp only[ir,aa]at hb;subst hb;exact⟨hg,(aX.1 hh).1⟩
 | map K E es =>
  obtain⟨r,ents,clock,rfl,h1,h2,_⟩:=h;simp only[ir,aa]at hb;subst hb;exact⟨h1,(aX.1 h2).1⟩
 | iter st m E n ps c =>
  cases st
  ·obtain⟨r,bm,since,seen,rfl,h1,h2,_⟩:=h;simp only[ir,aa]at hb;subst hb;exact⟨h1,(aX.1 h2).1⟩
  ·obtain⟨born,rfl,_⟩:=h;simp[ir]at hb
theorem ma.eO{w:World}{J:ae}{μ:Mem}{w':World}{J':ae}{μ':Mem}{xs:List (List V)}{sz:Nat}{vals:List Value}(h:ma w J μ xs sz vals)(k:lJ w J μ w' J' μ'):ma w' J' μ' xs sz vals :=
 ⟨h.1,fun i j x hx=>⟨(h.2 i j x hx).1,let ⟨v,h1,h2⟩:=(h.2 i j x hx).2;⟨v,h1,k _ _ h2⟩⟩⟩
theorem sc.eO{w:World}{J:ae}{μ:Mem}{w':World}{J':ae}{μ':Mem}{es:List (V×V)}{ents:Array MapEntry}{clock:Nat}(h:sc w J μ es ents clock)(k:lJ w J μ w' J' μ'):sc w' J' μ' es ents clock :=
 ⟨h.1,fun i a x hx=>let ⟨h1,h2,e,h3,h4,h5⟩:=h.2.1 i a x hx;⟨h1,h2,e,h3,k _ _ h4,k _ _ h5⟩,h.2.2⟩
def tO(w:World)(J:ae)(μ:Mem)(w':World)(J':ae)(μ':Mem)(m:Nat):Prop :=
 ∀ (K E:Nat) (es:List (V×V)) (bm:Nat) (ents:Array MapEntry) (clock:Nat),J[m]?=some (.map K E es)→μ m=.map (some bm)→w.heap[bm]?=some (.map ents clock) →
  μ' m=.map (some bm)∧∃ K' E' es' ents' clock',J'[m]?=some (.map K' E' es')∧w'.heap[bm]?=some (.map ents' clock')∧E≤E' ∧
   (E'=E→es.length≤es'.length∧(es'.length=es.length→clock'=clock∧∀ (i:Nat) (e':MapEntry),ents'[i]?=some e'→∃ e,ents[i]?=some e∧e.born=e'.born) ∧
    ∀ (i:Nat) (e:MapEntry),ents[i]?=some e→∃ e',ents'[i]?=some e'∧e'.born=e.born)
theorem IS.step{w:World}{J:ae}{μ:Mem}{w':World}{J':ae}{μ':Mem}{m E0 n0:Nat}{ps:List Nat}{cur:Option Nat}{bm since:Nat}{seen:Array Nat}(h:IS w J μ m E0 n0 ps cur bm since seen)(hl:tO w J μ w' J' μ' m):IS w' J' μ' m E0 n0 ps cur bm since seen:=by
 obtain⟨h1,h0,K,E,es,ents,clock,h2,h3,h4,h5⟩:=h;obtain⟨g1,K',E',es',ents',clock',g2,g3,g4,g5⟩:=hl K E es bm ents clock h2 h1 h3;refine⟨g1,h0,K',E',es',ents',clock',g2,g3,br h4 g4,fun he=>?_⟩;have e1:E=E0:=by omega
 have e2:E'=E:=by omega
 obtain⟨h6,h7⟩:=h5 e1;obtain⟨g6,g7,g8⟩:=g5 e2;refine⟨br h6 g6,fun hn=>?_⟩;have e3:es.length=n0:=by omega
 obtain⟨a1,a2,a3⟩:=h7 e3;obtain⟨b1,b2⟩:=g7 (by omega);refine⟨b1.trans a1,fun i e' hi=>?_,fun c hc=>?_⟩
 ·obtain⟨e,h8,h9⟩:=b2 i e' hi;rw[← h9];exact a2 i e h8
 ·obtain⟨e,h8,h9⟩:=a3 c hc;obtain⟨e',C0,vZ⟩:=g8 c e h8;exact⟨e',C0,by rw[vZ];exact h9⟩
theorem IP.step{w:World}{J:ae}{μ:Mem}{w':World}{J':ae}{μ':Mem}{m E0 n0:Nat}{cur:Option Nat}{born:Int}(h:IP w J μ m E0 n0 cur born)(hl:tO w J μ w' J' μ' m):IP w' J' μ' m E0 n0 cur born:=by
 obtain⟨bm,h1,K,E,es,ents,clock,h2,h3,h4,h5⟩:=h;obtain⟨g1,K',E',es',ents',clock',g2,g3,g4,g5⟩:=hl K E es bm ents clock h2 h1 h3;refine⟨bm,g1,K',E',es',ents',clock',g2,g3,br h4 g4,fun he=>?_⟩;have e1:E=E0:=by omega
 have e2:E'=E:=by omega
 obtain⟨h6,h7⟩:=h5 e1;obtain⟨g6,_,g7⟩:=g5 e2;refine⟨br h6 g6,fun c hc=>?_⟩;obtain⟨e,h8,h9⟩:=h7 c hc;obtain⟨e',C0,vZ⟩:=g7 c e h8;exact⟨e',C0,by rw[vZ];exact h9⟩
theorem tO.same{w:World}{J:ae}{μ:Mem}{w':World}{J':ae}{μ':Mem}{m:Nat}(h1:J'[m]?=J[m]?)(h2:μ' m=μ m)(h3:∀ b,ir (μ m)=some b→w'.heap[b]?=w.heap[b]?):tO w J μ w' J' μ' m:=by
 intro K E es bm ents clock g1 g2 g3;exact⟨h2.trans g2,K,E,es,ents,clock,h1.trans g1,by rw[h3 bm (by rw[g2];rfl)];exact g3,au _,fun _=>⟨au _,fun _=>⟨rfl,fun i e' h=>⟨e',h,rfl⟩⟩,fun i e h=>⟨e,h,rfl⟩⟩⟩
theorem wc.eO{P:Program}{B:Nat}{w:World}{J:ae}{μ:Mem}{w':World}{J':ae}{μ':Mem}{v:Value}{o:Ob}(h:wc P B w J μ v o)(k:lJ w J μ w' J' μ')
  (hb:∀ b,ir v=some b→w'.heap[b]?=w.heap[b]?) (hi:∀ st m E n ps c,o=.iter st m E n ps c→tO w J μ w' J' μ' m:=by intro _ _ _ _ _ _ h;cases h):wc P B w' J' μ' v o:=by
 cases o with
 | dead=>trivial
 | box T cs =>
  obtain⟨b',vs,rfl,h1,h2,h3,h4⟩:=h;exact⟨b',vs,rfl,h1,by rw[hb b' rfl];exact h2,h3,fun j x hx=>let ⟨u,h5,h6⟩:=h4 j x hx;⟨u,h5,k _ _ h6⟩⟩
 | row E sz by' g sh xs =>
  obtain⟨ht,vals,h1,h2⟩:=h;exact⟨ht,vals,Ch h1 hb,h2.eO k⟩
 | map K E es =>
  obtain⟨r,ents,clock,rfl,h1,h2,h3⟩:=h;exact⟨r,ents,clock,rfl,h1,by rw[hb r rfl];exact h2,h3.eO k⟩
 | iter st m E n ps c =>
  cases st
  ·obtain⟨r,bm,since,seen,rfl,h1,h2,h4⟩:=h;exact⟨r,bm,since,seen,rfl,h1,by rw[hb r rfl];exact h2,h4.step (hi _ m E n ps c rfl)⟩
  ·obtain⟨born,rfl,h⟩:=h;exact⟨born,rfl,h.step (hi _ m E n ps c rfl)⟩
theorem fF.oT{P:Program}{B:Nat}{w0 w:World}{J:ae}{μ:Mem}(h:fF P B w0 w J μ){id:Nat}{o:Ob}(ho:J[id]?=some o)(hd:o≠.dead){b:Nat}(hb:ir (μ id)=some b):B≤b∧b<w.heap.size :=
 (h.obj id o ho).oT hd hb
theorem fF.update{P:Program}{B:Nat}{w0 w:World}{J:ae}{μ:Mem}{w':World}{J':ae}{μ':Mem}(hS:fF P B w0 w J μ)(id:Nat)(row:Option Nat)
  (hg:w.grownBy w' row)
  (ck:∀ b,row=some b→∃ o,J[id]?=some o∧o≠.dead∧ir (μ id)=some b)
  (hlen:J.length≤J'.length)
  (hσ:∀ j,j≠id→J'[j]?=J[j]?)
  (hμ:∀ j,j≠id→μ' j=μ j)
  (jg:∀ b,ir (μ' id)=some b→(∃ o,J[id]?=some o∧o≠.dead∧ir (μ id)=some b)∨w.heap.size≤b)
  (nr:∀ b off v o,J[id]?=some o→o≠.dead→ir (μ id)=some b→w.cell? ⟨b,off,none⟩=some v→¬ wr J μ b off →
   w'.cell? ⟨b,off,none⟩=some v∧∀ o',J'[id]?=some o'→ir (μ' id)=some b→¬ o'.ZF off)
  (QS:∀ T cs,J[id]?=some (.box T cs)→(∃ cs',J'[id]?=some (.box T cs'))∧μ' id=μ id)
  (T5:∀ K E es,J[id]?=some (.map K E es)→(∃ E' es',J'[id]?=some (.map K E' es'))∧μ' id=μ id∧tO w J μ w' J' μ' id)
  (hrg:∀ E sz by' g' sh xs,id<J.length→J'[id]?=some (.row E sz by' g' sh xs)→∃ g sh0 xs0,J[id]?=some (.row E sz by' g sh0 xs0)∧g≤g'∧(g=g'→xs0.length=xs.length∧μ' id=μ id))
  (cX:kW w J μ w' J' μ'→∀ o,J'[id]?=some o→wc P B w' J' μ' (μ' id) o)
  (aba:∀ st m E n ps c,J[id]?=some (.iter st m E n ps c)→(∃ ps' c',J'[id]?=some (.iter st m E n ps' c'))∧μ' id=μ id:=by intro _ _ _ _ _ _ h;simp_all) :
  fF P B w0 w' J' μ'∧kW w J μ w' J' μ':=by
 have hp:kW w J μ w' J' μ':=by
  refine⟨fun b off v hc hw=>?_,hlen,fun j T cs hj=>?_,fun j K E es hj=>?_,fun j st m E n ps c hj=>?_,fun j E sz by' g' sh xs kH hj=>?_⟩
  ·have dp:=World.block_lt_of_cell? w _ hc;refine⟨?_,?_⟩
   ·by_cases hb:some b=row
    ·obtain⟨o,h1,h2,h3⟩:=ck b hb.symm;exact(nr b off v o h1 h2 h3 hc hw).1
    ·exact hg.cell hc hb
   ·rintro⟨j,oj,hj,NN,hwj⟩
    by_cases pq:j=id
    ·subst pq;rcases jg b NN with⟨o,h1,h2,h3⟩ | h
     ·exact(nr b off v o h1 h2 h3 hc hw).2 oj hj NN hwj
     ·exact absurd dp (Nat.not_lt.2 h)
    ·rw[hσ j pq]at hj;rw[hμ j pq]at NN;exact hw ⟨j,oj,hj,NN,hwj⟩
  ·by_cases pq:j=id
   ·subst pq;exact QS T cs hj
   ·exact⟨⟨cs,by rw[hσ j pq];exact hj⟩,hμ j pq⟩
  ·by_cases pq:j=id
   ·subst pq;exact⟨(T5 K E es hj).1,(T5 K E es hj).2.1⟩
   ·exact⟨⟨E,es,by rw[hσ j pq];exact hj⟩,hμ j pq⟩
  ·by_cases pq:j=id
   ·subst pq;exact aba st m E n ps c hj
   ·exact⟨⟨ps,c,by rw[hσ j pq];exact hj⟩,hμ j pq⟩
  ·by_cases pq:j=id
   ·subst pq;exact hrg E sz by' g' sh xs kH hj
   ·rw[hσ j pq]at hj;exact⟨g',sh,xs,hj,au _,fun _=>⟨rfl,hμ j pq⟩⟩
 refine⟨⟨hS.below.grown hg hS.base (fun k hk=>?_),br hS.base hg.size,fun j o hj=>?_,fun i j oi oj b hi hj Pb NK Yv NN=>?_⟩,hp⟩
 ·obtain⟨o,h1,h2,h3⟩:=ck k hk;exact(hS.oT h1 h2 h3).1
 ·by_cases pq:j=id
  ·subst pq;exact cX hp o hj
  ·rw[hσ j pq]at hj;rw[hμ j pq]
   by_cases hd:o=.dead
   ·subst hd;trivial
   ·have hblk:∀ (j:Nat) (o:Ob),J[j]?=some o→o≠.dead→j≠id→∀ b,ir (μ j)=some b→w'.heap[b]?=w.heap[b]?:=by
     intro j o hj hd pq b hb;refine hg.block b (hS.oT hj hd hb).2 fun hbr=>?_;obtain⟨o2,h1,h2,h3⟩:=ck b hbr.symm;exact pq (hS.sep j id o o2 b hj h1 hd h2 hb h3)
    refine(hS.obj j o hj).eO hp.eO (hblk j o hj hd pq) fun st m E n ps c ho=>?_;intro K2 E2 es2 bm ents clock h1 h2 h3
    by_cases Ya:m=id
    ·subst Ya;exact(T5 K2 E2 es2 h1).2.2 K2 E2 es2 bm ents clock h1 h2 h3
    ·exact tO.same (hσ m Ya) (hμ m Ya) (hblk m _ h1 (by simp) Ya) K2 E2 es2 bm ents clock h1 h2 h3
 ·by_cases GF:i=id
  ·subst GF
   by_cases pq:j=i
   ·exact pq.symm
   ·rw[hσ j pq]at hj;rw[hμ j pq]at NN;rcases jg b Yv with⟨o,h1,h2,h3⟩ | h
    ·exact hS.sep i j o oj b h1 hj h2 NK h3 NN
    ·exact absurd (hS.oT hj NK NN).2 (Nat.not_lt.2 h)
  ·rw[hσ i GF]at hi;rw[hμ i GF]at Yv
   by_cases pq:j=id
   ·subst pq;rcases jg b NN with⟨o,h1,h2,h3⟩ | h
    ·exact hS.sep i j oi o b hi h1 Pb h2 Yv h3
    ·exact absurd (hS.oT hi Pb Yv).2 (Nat.not_lt.2 h)
   ·rw[hσ j pq]at hj;rw[hμ j pq]at NN;exact hS.sep i j oi oj b hi hj Pb NK Yv NN
theorem fF.grown{P:Program}{B:Nat}{w0 w:World}{J:ae}{μ:Mem}{w':World}(hS:fF P B w0 w J μ)(hg:w.grownBy w' none):fF P B w0 w' J μ∧kW w J μ w' J μ:=by
 have hp:kW w J μ w' J μ:=⟨fun b off v hc hw=>⟨hg.cell hc (by simp),hw⟩,au _,fun _ _ cs h=>⟨⟨cs,h⟩,rfl⟩,fun _ _ E es h=>⟨⟨E,es,h⟩,rfl⟩,fun _ _ _ _ _ ps c h=>⟨⟨ps,c,h⟩,rfl⟩,fun _ _ _ _ g sh xs _ h=>⟨g,sh,xs,h,au _,fun _=>⟨rfl,rfl⟩⟩⟩;refine⟨⟨hS.below.grown hg hS.base (by simp),br hS.base hg.size,fun j o hj=>?_,hS.sep⟩,hp⟩
 by_cases hd:o=.dead
 ·subst hd;trivial
 ·refine(hS.obj j o hj).eO hp.eO (fun b hb=>hg.block b (hS.oT hj hd hb).2 (by simp)) fun st m E n ps c ho=>?_;intro K2 E2 es2 bm ents clock h1 h2 h3;exact tO.same rfl rfl (fun b hb=>hg.block b (hS.oT h1 (by simp) hb).2 (by simp)) K2 E2 es2 bm ents clock h1 h2 h3
def pD(μ:Mem)(id:Nat)(v:Value):Mem:=fun j=>if j=id then v else μ j
theorem dV(μ:Mem)(id:Nat)(v:Value):pD μ id v id=v:=by simp[pD]
theorem mf(μ:Mem)(id:Nat)(v:Value)(j:Nat)(h:j≠id):pD μ id v j=μ j:=by simp[pD,h]
theorem uJ(J:ae)(o:Ob)(j:Nat)(h:j≠J.length):(J++[o])[j]?=J[j]?:=by
 rcases fp j J.length with h1 | h1
 ·rw[ai h1]
 ·have h2:J.length<j:=by omega
  rw[bn (by simp;omega),bn h1]
theorem iE(J:ae)(o:Ob):¬ (J[J.length]?=some o):=by simp
theorem fF.ph{P:Program}{B:Nat}{w0 w:World}{J:ae}{μ:Mem}{w':World}(hS:fF P B w0 w J μ)(o:Ob)(v:Value)(hg:w.grownBy w' none)
  (hv:∀ b,ir v=some b→w.heap.size≤b)
  (cX:kW w J μ w' (J++[o]) (pD μ J.length v)→wc P B w' (J++[o]) (pD μ J.length v) v o) :
  fF P B w0 w' (J++[o]) (pD μ J.length v)∧kW w J μ w' (J++[o]) (pD μ J.length v):=by
 refine hS.update J.length none hg (by simp) (by simp) (fun j hj=>uJ J o j hj) (fun j hj=>mf μ _ v j hj) ?_ ?_ ?_ ?_ ?_ ?_ (fun _ _ _ _ _ _ h=>absurd h (iE J _))
 ·intro b hb;rw[dV]at hb;exact .inr (hv b hb)
 ·intro b off u o' h;exact absurd h (iE J o')
 ·intro T cs h;exact absurd h (iE J _)
 ·intro K E es h;exact absurd h (iE J _)
 ·intro _ _ _ _ _ _ h;omega
 ·intro hp o' ho';have:o'=o:=by simpa using ho'.symm
  subst this;rw[dV];exact cX hp
inductive O where
 | t (n:Nat)
 | c (v:V)
inductive I where
 | aT (x:O)
 | pick (c a b:O)
 | box (T:Nat) (x:O)
 | alloc (T:Nat) (zs:List V)
 | build (zs:List V) (parts:List (Nat×Nat×O))
 | bL (sz:Nat) (szs:List (Option Nat)) (xs:List O)
 | Ha (E sz by':Nat) (szs:List (Option Nat)) (xs:List O)
 | load (k:Option Nat) (a:O)
 | store (k:Nat) (szs:List (Option Nat)) (a x:O)
 | di (x:O)
 | bin (op:BinOp) (x y:O)
 | beq (neg:Bool) (ks:List Nat) (x y:O)
 | SG (neg:Bool) (x y:O)
 | un (op:UnOp) (x:O)
 | EN (k:IntKind) (x:O)
 | C2 (x:O)
 | slice (sz:Nat) (x:O) (lo hi:Option O)
 | eK (x:O) (lo hi:Option O)
 | fv (off:Nat) (x:O)
 | idx (sz:Nat) (x i:O)
 | ft (x i:O)
 | Fc (n sz:Nat) (x i:O)
 | VD (n:Nat) (x:O)
 | ext (k:Nat) (x:O)
 | len (str:Bool) (x:O)
 | max2 (x y:O)
 | min2 (x y:O)
 | app (E sz by':Nat) (x y:O)
 | apps (E:Nat) (x y:O)
 | mk (E sz by':Nat) (zs:List V) (l c:O)
 | lF (K E:Nat)
 | look (kd:Nat) (z:V) (ok:Bool) (m k:O)
 | uw (kd:Nat) (szs:List (Option Nat)) (m k x:O)
 | xY (x:O)
 | call (f:Nat) (args:List O)
 | kJ (x:O) (args:List O)
 | Pf (f:Nat) (xs:List O)
 | ET (sz:Nat) (zs:List V) (x:O)
 | Ge (kd:Nat) (m k:O)
 | s0 (kd:Nat) (z:V) (m k:O)
 | sZ (szs:List (Option Nat)) (m s x:O)
 | range (x:O)
 | next (x:O)
 | KN (x:O)
 | IX (off:Nat) (x:O)
 | IW (n:Nat) (x i:O)
 | clip (sz:Nat) (x h m:O)
 | Ay (x y:O)
 | Tj (E by':Nat) (l c:O)
 | stop
def uN:Value→Option V
 | .bool x=>some (.b x)
 | .int k n=>some (.i k n)
 | .string x=>if x.data.toList.length≤maxLen then some (.s x.data.toList)else none
 | .slice none 0 0=>some .nil
 | .pointer none=>some .fN
 | .map none=>some .dx
 | _=>none
def cO:Operand→Option O
 | .tmp t=>some (.t t)
 | .const v=>(uN v).map .c
 | .func f=>some (.c (.fn f []))
 | .global _=>none
def Pg:List Operand→Option (List O)
 | []=>some []
 | x::xs=>match cO x,Pg xs with
  | some y,some ys=>some (y::ys)
  | _,_=>none
def gL:List Value→Option (List V)
 | []=>some []
 | x::xs=>match uN x,gL xs with
  | some y,some ys=>some (y::ys)
  | _,_=>none
def iM(P:Program)(n:Nat):List Field→Option (List Nat)
 | []=>some []
 | f::fs=>if f.offset=n∧f.name ≠ "_" then match P.underlying f.type,iM P (n+1) fs with
   | some (.int _),some ks=>some (0::ks)
   | some .string,some ks=>some (1::ks)
   | some .bool,some ks=>some (2::ks)
   | _,_=>none
  else none
def GU(P:Program)(T:Nat):Option (List Nat) :=
 match P.underlying T with
 | some (.struct fs)=>if P.stoodInHeld T=false∧P.eqGuardType P.depth T=false then iM P 0 fs.toList else none
 | some (.array 2 e)=>if P.eqGuardType P.depth T=false∧P.cellsOf e=1 then match P.underlying e with
   | some (.int _)=>some [0,0]
   | _=>none
  else none
 | _=>none
def PJ(P:Program)(T:Nat):Bool :=
 match P.underlying T with
 | some (.int _) | some .string=>true
 | _=>false
def OK(P:Program)(T:Nat):Bool :=
 match P.underlying T with
 | some .bool=>true
 | _=>false
def eD(P:Program)(T:Nat):Option Bool :=
 match P.underlying T with
 | some (.struct _) | some (.array _ _)=>some true
 | some _=>some false
 | none=>none
def qo:Nat→List (Nat×Operand)→Option (List O)
 | _,[]=>some []
 | n,(i,x)::r=>if i=n then(match cO x,qo (n+1) r with | some y,some ys=>some (y::ys) | _,_=>none)else none
def qp(places:List (Nat×Nat)):List (Nat×Operand)→Option (List (Nat×Nat×O))
 | []=>some []
 | (i,x)::r=>match places[i]?,cO x,qp places r with
  | some (off,sz),some y,some ys=>some ((off,sz,y)::ys)
  | _,_,_=>none
def placesOf(P:Program)(fs:List Field):Option (List (Nat×Nat)):=fs.mapM fun f=>(P.info? f.type).map fun i=>(f.offset,i.size)
def TH:List Nat→Option Nat
 | [1,1]=>some 4
 | [0,1,0]=>some 5
 | _=>none
def iW(P:Program)(K:Nat):Option Nat :=
 match P.underlying K with
 | some (.int _)=>some 0
 | some .string=>some 1
 | some (.struct fs)=>if P.stoodInHeld K=false then(iM P 0 fs.toList).bind TH else none
 | some (.array 2 e)=>match P.underlying e with
  | some (.int _)=>if P.cellsOf e=1 then some 3 else none
  | _=>none
 | _=>none
def jI(kd:Nat)(k:V):Bool:=match kd with
 | 3=>(match k with
  | .agg [.i _ _,.i _ _]=>true
  | _=>false)
 | 4=>(match k with
  | .agg [.s _,.s _]=>true
  | _=>false)
 | 5=>(match k with
  | .agg [.i _ _,.s _,.i _ _]=>true
  | _=>false)
 | _=>k.nX
theorem rP{kd:Nat}{k:V}(h:jI kd k=true):k.nX=true:=by
 unfold jI at h;split at h
 ·split at h
  ·rfl
  ·simp at h
 ·split at h
  ·rfl
  ·simp at h
 ·split at h
  ·rfl
  ·simp at h
 ·exact h
theorem Qo(k:V):jI 0 k=k.nX:=rfl
theorem Qn(k:V):jI 1 k=k.nX:=rfl
theorem Qm(k l:IntKind)(a b:Int):jI 3 (.agg [.i k a,.i l b])=true:=rfl
theorem Ql(a b:List UInt8):jI 4 (.agg [.s a,.s b])=true:=rfl
theorem Qk(k l:IntKind)(a b:Int)(c:List UInt8):jI 5 (.agg [.i k a,.s c,.i l b])=true:=rfl
def rh:Option Operand→Option (Option O)
 | none=>some none
 | some x=>(cO x).map some
def uE:BinOp→Bool
 | .eql | .neq=>true
 | _=>false
def l5(P:Program):Nat→Nat→List (Option Nat)
 | 0,_=>[]
 | d+1,T=>match P.underlying T with
  | some (.slice e)=>[some (P.cellsOf e)]
  | some (.struct fs)=>fs.toList.flatMap fun f=>l5 P d f.type
  | _=>[none]
def lC:Option Nat→V→V
 | some sz,.nil=>.sl sz []
 | _,.lit sz xs=>.sl sz xs
 | _,x=>x
def cx:List (Option Nat)→List V→List V
 | s::ss,x::xs=>lC s x::cx ss xs
 | _,xs=>xs
def cW(szs:List (Option Nat)):V→V
 | .agg xs=>.agg (cx szs xs)
 | y=>y
def zeroV(P:Program)(E:Nat):Option V :=
 match P.info? E with
 | some t=>match t.zero with
  | some (.agg cs)=>(gL cs.toList).map fun zs=>.agg (cx (l5 P 6 E) zs)
  | some z=>uN z
  | none=>none
 | none=>none
def Ei:Value→Bool
 | .int .u8 0=>true
 | _=>false
def jl(P:Program)(c:Call):Option I :=
 match c.callee,c.args.toList,c.argTypes.toList with
 | .builtin .len,[x],[T]=>match P.underlying T,cO x with
  | some .string,some x=>some (.len true x)
  | some (.slice _),some x=>some (.len false x)
  | some (.map _ _),some x=>some (.xY x)
  | _,_=>none
 | .builtin .max,[x,y],_=>match cO x,cO y with
  | some x,some y=>some (.max2 x y)
  | _,_=>none
 | .builtin .min,[x,y],_=>match cO x,cO y with
  | some x,some y=>some (.min2 x y)
  | _,_=>none
 | .builtin .append,[x,y],[T,U]=>match P.underlying T,cO x,cO y with
  | some (.slice E),some x,some y=>match P.info? E with
   | some t=>match t.zero with
    | some z=>if T=U then(if 0<t.size∧z.cells.size=t.size then some (.app E t.size t.bytes x y)else none)
     else match P.underlying U with
      | some .string=>if t.size=1∧t.bytes=1∧Ei z=true then some (.apps E x y)else none
      | _=>none
    | none=>none
   | none=>none
  | _,_,_=>none
 | .builtin .delete,[m,k],[T,K']=>match P.underlying T,cO m,cO k with
  | some (.map K _),some m,some k=>if K'=K then(iW P K).map fun kd=>.Ge kd m k else none
  | _,_,_=>none
 | .builtin .clear,[x],[T]=>match P.underlying T,cO x with
  | some (.slice E),some x=>match P.info? E with
   | some t=>match t.zero with
    | some z=>if 0<t.size∧z.cells.size=t.size then(gL z.cells.toList).map fun zs=>.ET t.size (cx (l5 P 6 E) zs) x else none
    | none=>none
   | none=>none
  | _,_=>none
 | .value (.func f),args,_=>match P.funcs[f]? with
  | some fn=>if fn.body.isSome∧fn.name ≠ "runtime.NumGoroutine" then(Pg args).map (.call f)
   else if fn.body.isNone∧fn.name = "math/bits.Sub64" ∧ fn.origin = "" then match Pg args with
    | some [x,y,.c (.i .u64 0)]=>some (.Ay x y)
    | _=>none
   else none
  | none=>none
 | .value (.tmp t),args,_=>(Pg args).map (.kJ (.t t))
 | _,_,_=>none
def Xy:Option Nat→Nat→List O→Bool
 | some 23,_,[.t 18,.t 20,.t 22]=>true
 | some 46,_,[.t 45]=>true
 | some 53,2,[.t 52]=>true
 | _,_,_=>false
def Ic:BinOp→Bool
 | .neq=>true
 | _=>false
def compile(P:Program)(o:Oper):Option I :=
 match o.op with
 | .move x | .assign x=>(cO x).map .aT
 | .pick c a b=>match cO c,cO a,cO b with
  | some c,some a,some b=>some (.pick c a b)
  | _,_,_=>none
 | .box T x=>(cO x).map (.box T)
 | .alloc T=>match P.info? T with
  | some t=>match t.zero with
   | some z=>(gL z.cells.toList).map (.alloc T)
   | none=>none
  | none=>none
 | .build T parts=>match P.info? T,P.underlying T with
  | some t,some (.struct fs)=>match t.zero with
   | some z=>match gL z.cells.toList,placesOf P fs.toList with
    | some zs,some places=>(qp places parts.toList).map (.build zs)
    | _,_=>none
   | none=>none
  | some t,some (.array n E)=>match t.zero,P.info? E with
   | some z,some te=>match gL z.cells.toList with
    | some zs=>(qp ((List.range n).map fun i=>(i*te.size,te.size)) parts.toList).map (.build zs)
    | none=>none
   | _,_=>none
  | _,_=>none
 | .buildSlice T len parts=>match P.underlying T with
  | some (.slice E)=>match P.info? E with
   | some t=>match t.zero with
    | some z=>if parts.size=len∧0<t.size∧z.cells.size=t.size∧len*t.size≤2^24 then(qo 0 parts.toList).map fun xs=>if Xy o.dst t.size xs=true then .Ha E t.size t.bytes (l5 P 6 E) xs else .bL t.size (l5 P 6 E) xs else none
    | none=>none
   | none=>none
  | _=>none
 | .load T a=>match cO a,eD P T,P.info? T with
  | some a,some true,some t=>some (.load (some t.size) a)
  | some a,some false,some _=>some (.load none a)
  | _,_,_=>none
 | .store T a x=>match cO a,cO x,P.info? T with
  | some a,some x,some t=>some (.store t.size (l5 P 6 T) a x)
  | _,_,_=>none
 | .nilCheck x=>(cO x).map .di
 | .binOp op T x y _=>match cO x,cO y with
  | some x,some y=>if uE op then(if PJ P T then some (.bin op x y)else if OK P T then some (.SG (Ic op) x y)else(GU P T).map fun ks=>.beq (Ic op) ks x y)else some (.bin op x y)
  | _,_=>none
 | .unOp op _ x=>(cO x).map (.un op)
 | .convert s d x=>match P.underlying s,P.underlying d,cO x with
  | some (.int _),some (.int k),some x=>some (.EN k x)
  | some (.slice e),some .string,some x=>match P.underlying e with
   | some (.int .u8)=>some (.C2 x)
   | _=>none
  | _,_,_=>none
 | .slice T x lo hi none=>match P.underlying T,cO x,rh lo,rh hi with
  | some .string,some x,some lo,some hi=>some (.eK x lo hi)
  | some (.slice E),some x,some lo,some hi=>match P.info? E with
   | some t=>some (.slice t.size x lo hi)
   | none=>none
  | some (.array n E),some x,some none,some none=>match P.info? E with
   | some t=>if t.size=1∧n≤1024 then some (.VD n x)else none
   | none=>none
  | _,_,_,_=>none
 | .slice T x none (some h) (some m)=>match P.underlying T,cO x,cO h,cO m with
  | some (.slice E),some x,some h,some m=>match P.info? E with
   | some t=>some (.clip t.size x h m)
   | none=>none
  | _,_,_,_=>none
 | .fieldAddr T x f=>match P.underlying T,cO x with
  | some (.struct fs),some x=>match fs[f]? with
   | some fd=>match P.info? fd.type with
    | some t=>if t.size=0 then none else some (.fv fd.offset x)
    | none=>none
   | none=>none
  | _,_=>none
 | .indexAddr T x i=>match P.underlying T,cO x,cO i with
  | some (.slice E),some x,some i=>match P.info? E with
   | some t=>some (.idx t.size x i)
   | none=>none
  | some (.array n E),some x,some i=>match P.info? E with
   | some t=>some (.Fc n t.size x i)
   | none=>none
  | _,_,_=>none
 | .index T x i=>match P.underlying T,cO x,cO i with
  | some .string,some x,some i=>some (.ft x i)
  | some (.array n E),some x,some i=>if eD P E=some false∧P.cellsOf E=1 then some (.IW n x i)else none
  | _,_,_=>none
 | .extract t k=>(cO t).map (.ext k)
 | .field T x f=>match P.underlying T,cO x with
  | some (.struct fs),some x=>match fs[f]? with
   | some fd=>if eD P fd.type=some false then some (.IX fd.offset x)else none
   | none=>none
  | _,_=>none
 | .makeSlice T l c=>match P.underlying T with
  | some (.slice E)=>match P.info? E with
   | some t=>match t.zero,cO l,cO c with
    | some (.slice none 0 0),some l,some c=>if t.size=1 then some (.Tj E t.bytes l c)else none
    | some z,some l,some c=>if 0<t.size∧z.cells.size=t.size then(gL z.cells.toList).map fun zs=>.mk E t.size t.bytes (cx (l5 P 6 E) zs) l c else none
    | _,_,_=>none
   | none=>none
  | _=>none
 | .lookup T m k ok=>match P.underlying T,cO m,cO k with
  | some (.map K E),some m,some k=>match iW P K,zeroV P E with
   | some kd,some z=>some (.look kd z ok m k)
   | _,_=>none
  | _,_,_=>none
 | .mapUpdate T m k x=>match P.underlying T,cO m,cO k,cO x with
  | some (.map K E),some m,some k,some x=>(iW P K).map fun kd=>.uw kd (l5 P 6 E) m k x
  | _,_,_,_=>none
 | .mapEntry T m k=>match P.underlying T,cO m,cO k with
  | some (.map K E),some m,some k=>match iW P K,zeroV P E with
   | some kd,some z=>some (.s0 kd z m k)
   | _,_=>none
  | _,_,_=>none
 | .entryStore T m s x=>match P.underlying T,cO m,cO s,cO x with
  | some (.map _ E),some m,some s,some x=>some (.sZ (l5 P 6 E) m s x)
  | _,_,_,_=>none
 | .range T x=>match P.underlying T,cO x with
  | some (.map _ _),some x=>some (.range x)
  | _,_=>none
 | .next x false=>(cO x).map .next
 | .entry x=>(cO x).map .KN
 | .makeMap T none=>match P.underlying T with
  | some (.map K E)=>some (.lF K E)
  | _=>none
 | .call c=>jl P c
 | .makeFunc (.func f) first caps=>if first.size=0 then(Pg caps.toList).map (.Pf f)else none
 | _=>none
def ev(fr:List V):O→V
 | .t n=>fr.getD n .u
 | .c v=>v
def er:V→List V
 | .agg xs=>xs
 | x=>[x]
def ff(J:ae):V→Bool
 | .u | .agg _ | .fu _ | .it _ | .tL _ _=>false
 | .own id g=>match J[id]? with
  | some (.row _ _ _ g' _ _)=>g==g'
  | _=>false
 | .sub id g _ _=>match J[id]? with
  | some (.row _ _ _ g' _ _)=>g==g'
  | _=>false
 | .rp id g _ _=>match J[id]? with
  | some (.row _ _ _ g' _ _)=>g==g'
  | _=>false
 | _=>true
def fi(J:ae)(x:V):Bool:=match x with
 | .agg xs=>xs.all (ff J)
 | x=>ff J x
def rD(cells:List V):List (Nat×Nat×List V)→Option (List V)
 | []=>some cells
 | (off,sz,x)::r=>if x.length=sz∧off+sz≤cells.length then rD (cells.take off++x++cells.drop (off+sz)) r else none
def F1:List V→List V→Option Bool
 | [.i k a,.i l b],[.i k' a',.i l' b']=>if k=k'∧l=l' then some (a==a'&&b==b')else none
 | _,_=>none
def xj:List V→List V→Option Bool
 | [.s a,.s b],[.s a',.s b']=>some (a==a'&&b==b')
 | _,_=>none
def Dd:List V→List V→Option Bool
 | [.i k a,.s b,.i l c],[.i k' a',.s b',.i l' c']=>if k=k'∧l=l' then some (a==a'&&(b==b'&&c==c'))else none
 | _,_=>none
def bX:Nat→V→V→Option Bool
 | 0,.i k a,.i k' b=>if k=k' then some (a==b)else none
 | 1,.s a,.s b=>some (a==b)
 | 2,.b a,.b b=>some (a==b)
 | 3,.agg xs,.agg ys=>F1 xs ys
 | 4,.agg xs,.agg ys=>xj xs ys
 | 5,.agg xs,.agg ys=>Dd xs ys
 | _,_,_=>none
def eu:List Nat→List V→List V→Option Bool
 | [],[],[]=>some true
 | k::ks,x::xs,y::ys=>match bX k x y,eu ks xs ys with
  | some p,some q=>some (p&&q)
  | _,_=>none
 | _,_,_=>none
def fy(op:BinOp):V→V→Option (Prop×V)
 | .i k a,.i k' b=>match op with
  | .shl=>some (0≤b,.i k (k.wrap (a*2^(min b.toNat k.bits))))
  | .shr=>some (0≤b,.i k (a.fdiv (2^(min b.toNat k.bits))))
  | _=>if k=k' then match op with
   | .add=>some (True,.i k (k.wrap (a+b)))
   | .sub=>some (True,.i k (k.wrap (a - b)))
   | .mul=>some (True,.i k (k.wrap (a*b)))
   | .quo=>some (b≠0,.i k (k.wrap (a.tdiv b)))
   | .rem=>some (b≠0,.i k (a.tmod b))
   | .and=>some (True,.i k (k.wrap ((BitVec.ofInt k.bits a &&& BitVec.ofInt k.bits b).toNat:Int)))
   | .or=>some (True,.i k (k.wrap ((BitVec.ofInt k.bits a ||| BitVec.ofInt k.bits b).toNat:Int)))
   | .xor=>some (True,.i k (k.wrap ((BitVec.ofInt k.bits a ^^^ BitVec.ofInt k.bits b).toNat:Int)))
   | .eql=>some (True,.b (a==b))
   | .neq=>some (True,.b (a != b))
   | .lss=>some (True,.b (a<b))
   | .leq=>some (True,.b (a≤b))
   | .gtr=>some (True,.b (b<a))
   | .geq=>some (True,.b (b≤a))
   | _=>none
   else none
 | .s a,.s b=>match op with
  | .add=>some (a.length+b.length≤maxLen,.s (a++b))
  | .eql=>some (True,.b (a==b))
  | .neq=>some (True,.b (!(a==b)))
  | .lss=>some (True,.b (Op.bytesLess a b))
  | .leq=>some (True,.b (Op.bytesLess a b||a==b))
  | .gtr=>some (True,.b (!(Op.bytesLess a b||a==b)))
  | .geq=>some (True,.b (!Op.bytesLess a b))
  | _=>none
 | _,_=>none
def rowsOf(J:ae)(sz:Nat):V→Option (List (List V))
 | .nil=>some []
 | .lit sz' xs=>if sz'=sz then some xs else none
 | .sl sz' xs=>if sz'=sz then some xs else none
 | .own id g=>match J[id]? with
  | some (.row _ sz' _ g' _ xs)=>if g=g'∧sz'=sz then some xs else none
  | _=>none
 | .sub id g lo hi=>match J[id]? with
  | some (.row _ sz' _ g' _ xs)=>if g=g'∧sz'=sz then some ((xs.drop lo).take (hi - lo))else none
  | _=>none
 | _=>none
def ou:List V→Option UInt8
 | [.i .u8 n]=>some (UInt8.ofNat n.toNat)
 | _=>none
def bytesOf:List (List V)→Option (List UInt8)
 | []=>some []
 | r::rs=>match ou r,bytesOf rs with
  | some x,some xs=>some (x::xs)
  | _,_=>none
def dM(kd:Nat)(k:V):List (V×V)→Nat→Option (Option (Nat×V))
 | [],_=>some none
 | (a,x)::es,i=>match bX kd k a with
  | some true=>some (some (i,x))
  | some false=>dM kd k es (i+1)
  | none=>none
def cJ(J:ae)(kd:Nat)(m k:V):Option (Option (Nat×V)) :=
 match m with
 | .dx=>some none
 | .mp id=>match J[id]? with
  | some (.map _ _ es)=>dM kd k es 0
  | _=>none
 | _=>none
def aQ(fr:List V)(J:ae):I→Option (Prop×V)
 | .aT x=>some (True,ev fr x)
 | .pick c a b=>match ev fr c with
  | .b x=>some (True,match ev fr a,ev fr b with
   | .b p,.b q=>.b (bif x then p else q)
   | p,q=>bif x then p else q)
  | _=>none
 | .build zs parts=>match rD zs (parts.map fun(off,sz,x)=>(off,sz,er (ev fr x)))with
  | some cs=>some (∀ p∈parts,fi J (ev fr p.2.2)=true,.agg cs)
  | none=>none
 | .bL sz szs xs=>some ((∀ x∈xs,fi J (ev fr x)=true)∧∀ r∈xs.map fun x=>cx szs (er (ev fr x)),r.length=sz∧∀ c∈r,c.pure=true,.lit sz (xs.map fun x=>cx szs (er (ev fr x))))
 | .load k a=>match ev fr a with
  | .ptr id off=>match J[id]? with
   | some (.box _ cs)=>match k with
    | none=>match cs[off]? with
     | some x=>some (True,x)
     | none=>none
    | some n=>some (off+n≤cs.length,.agg ((cs.drop off).take n))
   | _=>none
  | .ep _ xs i off=>match k with
   | none=>match fw xs i off with
    | some x=>some (True,x)
    | none=>none
   | some n=>some (off+n≤(xs.getD i []).length,.agg (((xs.getD i []).drop off).take n))
  | .rp id g i off=>match J[id]? with
   | some (.row _ _ _ g' _ xs)=>if g=g' then match k with
    | none=>match fw xs i off with
     | some x=>some (True,x)
     | none=>none
    | some n=>some (off+n≤(xs.getD i []).length,.agg (((xs.getD i []).drop off).take n))
    else none
   | _=>none
  | _=>none
 | .di x=>match ev fr x with
  | .ptr id off=>some (True,.ptr id off)
  | .ep sz xs i off=>some (True,.ep sz xs i off)
  | .rp id g i off=>match J[id]? with
   | some (.row _ _ _ g' _ _)=>if g=g' then some (True,.rp id g i off)else none
   | _=>none
  | _=>none
 | .bin op x y=>fy op (ev fr x) (ev fr y)
 | .beq neg ks x y=>match ev fr x,ev fr y with
  | .agg xs,.agg ys=>match eu ks xs ys with
   | some r=>some (True,.b (bif neg then !r else r))
   | none=>none
  | _,_=>none
 | .SG neg x y=>match ev fr x,ev fr y with
  | .b p,.b q=>some (True,.b (bif neg then !(p==q)else(p==q)))
  | _,_=>none
 | .un op x=>match op,ev fr x with
  | .not,.b p=>some (True,.b (!p))
  | .neg,.i k n=>some (True,.i k (k.wrap (0 - n)))
  | _,_=>none
 | .EN k x=>match ev fr x with
  | .i _ n=>some (True,.i k (k.wrap n))
  | _=>none
 | .C2 x=>match rowsOf J 1 (ev fr x)with
  | some xs=>match bytesOf xs with
   | some l=>some (True,.s l)
   | none=>none
  | none=>none
 | .slice sz x lo hi =>
  let n:Option Nat:=match ev fr x with
   | .nil=>some 0
   | .lit sz' xs=>if sz'=sz then some xs.length else none
   | .sl sz' xs=>if sz'=sz then some xs.length else none
   | .own id g=>match J[id]? with
    | some (.row _ sz' _ g' _ xs)=>if g=g'∧sz'=sz then some xs.length else none
    | _=>none
   | _=>none
  match n with
  | none=>none
  | some n =>
   let l:Option Int:=match lo with
    | none=>some 0
    | some x=>match ev fr x with
     | .i _ a=>some a
     | _=>none
   let h:Option Int:=match hi with
    | none=>some n
    | some x=>match ev fr x with
     | .i _ a=>some a
     | _=>none
   match l,h with
   | some l,some h=>match ev fr x with
    | .nil=>some (l=0∧h=0,.nil)
    | .lit _ xs=>some (0≤l∧l≤h∧h≤n,.sl sz ((xs.drop l.toNat).take (h.toNat - l.toNat)))
    | .sl _ xs=>some (0≤l∧l≤h∧h≤n,.sl sz ((xs.drop l.toNat).take (h.toNat - l.toNat)))
    | .own id g=>some (0≤l∧l≤h∧h≤n,.sub id g l.toNat h.toNat)
    | _=>none
   | _,_=>none
 | .eK x lo hi=>match ev fr x with
  | .s a =>
   let l:Option Int:=match lo with
    | none=>some 0
    | some x=>match ev fr x with
     | .i _ a=>some a
     | _=>none
   let h:Option Int:=match hi with
    | none=>some a.length
    | some x=>match ev fr x with
     | .i _ a=>some a
     | _=>none
   match l,h with
   | some l,some h=>some (0≤l∧l≤h∧h≤a.length,.s ((a.drop l.toNat).take (h.toNat - l.toNat)))
   | _,_=>none
  | _=>none
 | .fv off x=>match ev fr x with
  | .ptr id o=>some (True,.ptr id (o+off))
  | .ep sz xs i o=>some (True,.ep sz xs i (o+off))
  | .rp id g i o=>match J[id]? with
   | some (.row _ _ _ g' _ _)=>if g=g' then some (True,.rp id g i (o+off))else none
   | _=>none
  | _=>none
 | .idx sz x i=>match ev fr i with
  | .i _ n=>match ev fr x with
   | .sl sz' xs=>if sz'=sz then some (0≤n∧n<xs.length,.ep sz xs n.toNat 0)else none
   | .lit sz' xs=>if sz'=sz then some (0≤n∧n<xs.length,.ep sz xs n.toNat 0)else none
   | .own id g=>match J[id]? with
    | some (.row _ sz' _ g' _ xs)=>if g=g'∧sz'=sz then some (0≤n∧n<xs.length,.rp id g n.toNat 0)else none
    | _=>none
   | .sub id g lo hi=>match J[id]? with
    | some (.row _ sz' _ g' _ _)=>if g=g'∧sz'=sz then some (0≤n∧n<(hi - lo:Nat),.rp id g (lo+n.toNat) 0)else none
    | _=>none
   | .tL id m=>if sz=1 then some (0≤n∧n<m,.ptr id n.toNat)else none
   | _=>none
  | _=>none
 | .Fc n sz x i=>match ev fr x,ev fr i with
  | .ptr id o,.i _ k=>some (0≤k∧k<n,.ptr id (o+k.toNat*sz))
  | _,_=>none
 | .VD n x=>match ev fr x with
  | .ep _ xs i 0=>if(xs.getD i []).length=n then some (n≤1024,.sl 1 ((xs.getD i []).map fun c=>[c]))else none
  | _=>none
 | .ft x i=>match ev fr x,ev fr i with
  | .s l,.i _ n=>some (0≤n∧n<l.length,.i .u8 (l.getD n.toNat 0).toNat)
  | _,_=>none
 | .ext k x=>match ev fr x with
  | .fu xs=>match xs[k]? with
   | some y=>some (True,y)
   | none=>none
  | _=>none
 | .len true x=>match ev fr x with
  | .s l=>some (True,.i .i64 l.length)
  | _=>none
 | .len false x=>match ev fr x with
  | .nil=>some (True,.i .i64 0)
  | .lit _ xs=>some (True,.i .i64 xs.length)
  | .sl _ xs=>some (True,.i .i64 xs.length)
  | .own id g=>match J[id]? with
   | some (.row _ _ _ g' _ xs)=>if g=g' then some (True,.i .i64 xs.length)else none
   | _=>none
  | .sub id g lo hi=>match J[id]? with
   | some (.row _ _ _ g' _ _)=>if g=g' then some (True,.i .i64 (hi - lo:Nat))else none
   | _=>none
  | .tL _ n=>some (True,.i .i64 n)
  | _=>none
 | .xY x=>match ev fr x with
  | .dx=>some (True,.i .i64 0)
  | .mp id=>match J[id]? with
   | some (.map _ _ es)=>some (True,.i .i64 es.length)
   | _=>none
  | _=>none
 | .look kd z ok m k=>match cJ J kd (ev fr m) (ev fr k)with
  | some none=>some (jI kd (ev fr k)=true,if ok then .fu [z,.b false]else z)
  | some (some (_,x))=>some (jI kd (ev fr k)=true,if ok then .fu [x,.b true]else x)
  | none=>none
 | .max2 x y=>match ev fr x,ev fr y with
  | .i k a,.i _ b=>some (True,.i k (if a<b then b else a))
  | _,_=>none
 | .min2 x y=>match ev fr x,ev fr y with
  | .i k a,.i _ b=>some (True,.i k (if b<a then b else a))
  | _,_=>none
 | .Pf f xs=>some (True,.fn f (xs.map (ev fr)))
 | .IX off x=>match ev fr x with
  | .agg xs=>match xs[off]? with
   | some y=>some (True,y)
   | none=>none
  | _=>none
 | .IW n x i=>match ev fr x,ev fr i with
  | .agg xs,.i _ k=>some (0≤k∧k<n∧xs.length=n,xs.getD k.toNat .u)
  | _,_=>none
 | .Ay x y=>match ev fr x,ev fr y with
  | .i .u64 p,.i .u64 q=>some (0≤p∧0≤q∧q<18446744073709551616,.fu [.i .u64 ((p+18446744073709551616 - q) % 18446744073709551616),.i .u64 (if p<q then 1 else 0)])
  | _,_=>none
 | .clip sz x h m=>match ev fr h,ev fr m with
  | .i _ p,.i _ q=>match ev fr x with
   | .sl sz' xs=>if sz'=sz then some (0≤p∧p≤q∧q≤xs.length,.sl sz (xs.take p.toNat))else none
   | _=>none
  | _,_=>none
 | .KN x=>match ev fr x with
  | .it j=>match J[j]? with
   | some (.iter false m E n _ (some c))=>match J[m]? with
    | some (.map _ E' es)=>if E'=E∧es.length=n then match es[c]? with
     | some (k,y)=>some (True,.fu [k,y])
     | none=>none
     else none
    | _=>none
   | _=>none
  | _=>none
 | _=>none
def tN(E sz by':Nat)(J:ae)(x:V)(ys:List (List V)):Option (Prop×V×ae) :=
 match x with
 | .nil=>some (ys.length*by'≤2^47∧ys.length≤maxLen,.own J.length 0,J++[.row E sz by' 0 false ys])
 | .lit sz' xs=>if sz'=sz then some ((xs.length+ys.length)*by'≤2^47∧xs.length+ys.length≤maxLen,
   if ys.isEmpty then .lit sz xs else .own J.length 0,if ys.isEmpty then J else J++[.row E sz by' 0 false (xs++ys)])else none
 | .own id g=>match J[id]? with
  | some (.row E' sz' by2 g' sh xs)=>if g=g'∧E=E'∧sz=sz'∧by'=by2 then
    some ((xs.length+ys.length)*by'≤2^47∧xs.length+ys.length≤maxLen,.own id (g+1),J.set id (.row E sz by' (g+1) sh (xs++ys)))
   else none
  | _=>none
 | .sub id g lo hi=>match J[id]? with
  | some (.row E' sz' by2 g' sh xs)=>if g=g'∧E=E'∧sz=sz'∧by'=by2∧lo=0∧sh=false then
    some (hi≤xs.length∧(hi+ys.length)*by'≤2^47∧hi+ys.length≤maxLen,.own id (g+1),J.set id (.row E sz by' (g+1) false (xs.take hi++ys)))
   else none
  | _=>none
 | _=>none
def dd(l:List UInt8):List (List V):=l.map fun c=>[V.i .u8 c.toNat]
def bO(fr:List V)(J:ae):I→Option (Prop×V×ae)
 | .box T x=>some (fi J (ev fr x)=true,.ptr J.length 0,J++[.box T (er (ev fr x))])
 | .alloc T zs=>some (True,.ptr J.length 0,J++[.box T zs])
 | .store k szs a x=>match ev fr a with
  | .ptr id off=>match J[id]? with
   | some (.box T cs)=>some (fi J (ev fr x)=true∧(er (ev fr x)).length=k∧off+k≤cs.length,.u,J.set id (.box T (cs.take off++er (ev fr x)++cs.drop (off+k))))
   | _=>none
  | .rp id g i off=>match J[id]? with
   | some (.row E sz by' g' sh xs)=>if g=g'∧sh=false then
     some (fi J (ev fr x)=true∧(∀ c∈cx szs (er (ev fr x)),c.pure=true)∧(er (ev fr x)).length=k∧off+k≤sz∧i<xs.length,.u,
      J.set id (.row E sz by' g sh (xs.set i ((xs.getD i []).take off++cx szs (er (ev fr x))++(xs.getD i []).drop (off+k)))))
    else none
   | _=>none
  | _=>none
 | .app E sz by' x y=>match rowsOf J sz (ev fr y)with
  | some ys=>tN E sz by' J (ev fr x) ys
  | none=>none
 | .apps E x y=>match ev fr y with
  | .s l=>tN E 1 1 J (ev fr x) (dd l)
  | _=>none
 | .mk E sz by' zs l c=>match ev fr l,ev fr c with
  | .i _ n,.i _ m=>some (0≤n∧(n=m∨n=0)∧0≤m∧m*by'≤2^48∧m≤maxLen∧(∀ z∈zs,z.pure=true),.own J.length 0,J++[.row E sz by' 0 false (List.replicate n.toNat zs)])
  | _,_=>none
 | .lF K E=>some (True,.mp J.length,J++[.map K E []])
 | .ET sz zs x=>match ev fr x with
  | .sub id g lo hi=>match J[id]? with
   | some (.row E sz' by' g' sh xs)=>if g=g'∧sz'=sz∧sh=false then
     some (∀ z∈zs,z.pure=true,.fu [],J.set id (.row E sz' by' g' sh (xs.take lo++List.replicate (hi - lo) zs++xs.drop hi)))
    else none
   | _=>none
  | _=>none
 | .Ha E sz by' szs xs=>some ((∀ x∈xs,fi J (ev fr x)=true)∧∀ r∈xs.map fun x=>cx szs (er (ev fr x)),r.length=sz∧∀ c∈r,c.pure=true,.own J.length 0,J++[.row E sz by' 0 false (xs.map fun x=>cx szs (er (ev fr x)))])
 | .uw kd szs m k x =>
  let xv:=cW szs (ev fr x)
  match ev fr m with
  | .mp id=>match J[id]? with
   | some (.map K E es)=>match dM kd (ev fr k) es 0 with
    | some none=>some (jI kd (ev fr k)=true∧xv.iR=true,.u,J.set id (.map K E (es++[(ev fr k,xv)])))
    | some (some (i,_))=>some (jI kd (ev fr k)=true∧xv.iR=true,.u,J.set id (.map K E (es.set i (ev fr k,xv))))
    | none=>none
   | _=>none
  | _=>none
 | .Ge kd m k=>match ev fr m with
  | .mp id=>match J[id]? with
   | some (.map K E es)=>match dM kd (ev fr k) es 0 with
    | some none=>some (jI kd (ev fr k)=true,.fu [],J)
    | some (some (i,_))=>some (jI kd (ev fr k)=true,.fu [],J.set id (.map K (E+1) (es.eraseIdx i)))
    | none=>none
   | _=>none
  | _=>none
 | .s0 kd z m k=>match ev fr m with
  | .mp id=>match J[id]? with
   | some (.map K E es)=>match dM kd (ev fr k) es 0 with
    | some none=>some (jI kd (ev fr k)=true∧z.iR=true,.fu [z,.it J.length],J.set id (.map K E (es++[(ev fr k,z)]))++[.iter true id E (es.length+1) [] (some es.length)])
    | some (some (i,x))=>some (jI kd (ev fr k)=true,.fu [x,.it J.length],J++[.iter true id E es.length [] (some i)])
    | none=>none
   | _=>none
  | _=>none
 | .sZ szs m s x =>
  let xv:=cW szs (ev fr x)
  match ev fr m,ev fr s with
  | .mp id,.it j=>match J[id]?,J[j]? with
   | some (.map K E es),some (.iter true id' E' _ _ (some c))=>if id'=id∧E'=E then match es[c]? with
    | some (k,_)=>some (xv.iR=true,.u,J.set id (.map K E (es.set c (k,xv))))
    | none=>none
    else none
   | _,_=>none
  | _,_=>none
 | .range x=>match ev fr x with
  | .mp id=>match J[id]? with
   | some (.map _ E es)=>some (True,.it J.length,J++[.iter false id E es.length (List.range es.length) none])
   | _=>none
  | _=>none
 | .Tj E by' l c=>match ev fr l,ev fr c with
  | .i _ n,.i _ m=>some (n=m∧0≤n∧n*by'≤2^48∧n≤maxLen,.tL J.length n.toNat,J++[.box E (List.replicate n.toNat .nil)])
  | _,_=>none
 | _=>none
def xX(J:ae)(x:V):Option (Nat×Nat×Nat×Nat×List Nat) :=
 match x with
 | .it j=>match J[j]? with
  | some (.iter false m E n ps _)=>match J[m]? with
   | some (.map _ E' es)=>if E'=E∧es.length=n then some (j,m,E,n,ps)else none
   | _=>none
  | _=>none
 | _=>none
end Go.Pm

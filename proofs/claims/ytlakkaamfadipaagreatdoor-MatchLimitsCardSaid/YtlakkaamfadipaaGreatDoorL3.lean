/- A part of a proof; the claim's last text says of what. -/
import Derived.Calls
import Derived.Below
import Derived.Laws.AppendOwn
import Derived.Laws.OwnMore
import Derived.Lib.LaidTab
set_option linter.all false
namespace Go
def Bf:=@decide_eq_true
def Bg:=@Nat.mul_one
def Bh.{u}:=@List.take_left.{u}
def Bi.{u,v}:=@List.foldl_nil.{u,v}
def Bj:=@Int.add_le_add_right
def Bv:=@Iff.rfl
def DB.{u}:=@List.mergeSort_perm.{u}
def DC.{u}:=@Array.toList_append.{u}
def DO.{u,v}:=@List.map_take.{u,v}
def Fk:=@Nat.lt_of_le_of_lt
def Fl:=@Bool.not_eq_false'
def Fm.{u}:=@Array.ext_getElem?.{u}
def Fo.{u}:=@Array.empty_append.{u}
def Fp.{u}:=@Array.append_empty.{u}
def GQ.{u}:=@List.set_eq_take_append_cons_drop.{u}
def IN:=@true_or
def IP:=@or_false
def IQ:=@Nat.le_of_eq
def IS.{u}:=@List.flatten_cons.{u}
def IU:=@Int.add_zero
def IV:=@Classical.em
def IW:=@Bool.not_eq_false
def L5:=@false_iff
def L6:=@Nat.le_of_not_lt
def L7:=@Nat.le_add_right
def L8.{u,v}:=@List.lookup_cons.{u,v}
def Mq:=@decide_true
def Mr:=@Int.add_mul
def O4:=@UInt8.toNat_inj
def O5:=@Nat.div_add_mod
def O6:=@List.range_succ
def O7:=@Int.ediv_nonneg
def PS.{u}:=@Ne.symm.{u}
def Sc.{u}:=@List.drop_zero.{u}
def Sd:=@Int.toNat_zero
def Se:=@Int.tmod_eq_emod_of_nonneg
def Sf:=@Int.mul_le_mul
def Sg:=@Int.fdiv_eq_ediv_of_nonneg
def V2.{u}:=@List.take_nil.{u}
def V3.{u,v}:=@List.map_drop.{u,v}
def V4.{u}:=@List.eq_of_mem_replicate.{u}
def V5.{u}:=@List.drop_nil.{u}
def V6.{u}:=@List.Perm.eq_of_pairwise.{u}
def V7.{u}:=@List.Pairwise.imp_of_mem.{u}
def V8.{u}:=@Bool.beq_comm.{u}
def V9:=@Bool.and_self
def WO:=@Nat.pos_of_mul_pos_left
def WQ:=@Nat.le_mul_of_pos_right
def WR.{u}:=@List.pairwise_mergeSort.{u}
def a7.{u}:=@List.getElem?_eq_none.{u}
def a8:=@decide_eq_true_eq
def aC.{u}:=@if_neg.{u}
def aD.{u}:=@List.eq_nil_of_length_eq_zero.{u}
def aF.{u}:=@Array.length_toList.{u}
def aG:=@Bool.false_eq_true
def aK.{u}:=@List.length_nil.{u}
def aL.{u}:=@List.mem_of_getElem?.{u}
def aM.{u}:=@List.append_assoc.{u}
def aN.{u}:=@Array.getElem?_eq_some_iff.{u}
def aO.{u}:=@if_false.{u}
def aP:=@Bool.and_eq_true
def aQ.{u}:=@if_pos.{u}
def aR.{u}:=@if_true.{u}
def aS.{u}:=@Array.getElem?_eq_getElem.{u}
def aT.{u,v}:=@List.mem_map.{u,v}
def aU.{u}:=@List.getElem?_take_of_lt.{u}
def aW.{u,v}:=@List.getElem?_map.{u,v}
def aX:=@Int.toNat_natCast
def aY:=@Nat.mul_le_mul_right
def aZ.{u}:=@Array.getD_eq_getD_getElem?.{u}
def aa.{u}:=@Option.some.injEq.{u}
def aao:=@List.pairwise_lt_range
def aap.{u}:=@List.getElem?_eraseIdx.{u}
def ab.{u}:=@List.getElem?_eq_some_iff.{u}
def ag.{u}:=@List.getElem?_append_left.{u}
def ah.{u,v}:=@Option.map_eq_some_iff.{u,v}
def ai.{u}:=@List.length_cons.{u}
def aj.{u,v}:=@List.length_map.{u,v}
def ak.{u}:=@List.getElem?_set_self.{u}
def al.{u}:=@List.length_append.{u}
def an.{u}:=@List.getElem?_eq_getElem.{u}
def ao.{u,v}:=@Prod.mk.injEq.{u,v}
def aq:=@Nat.le_refl
def ar.{u}:=@List.getD_eq_getElem?_getD.{u}
def au.{u}:=@List.getElem?_cons_zero.{u}
def aw.{u}:=@List.getElem?_append_right.{u}
def ay.{u}:=@List.getElem?_set_ne.{u}
def az.{u,v}:=@List.map_cons.{u,v}
def b7:=@List.mem_range
def bA.{u}:=@List.getElem?_cons_succ.{u}
def bB.{u}:=@List.sum_cons.{u}
def bD.{u}:=@List.eq_nil_iff_forall_not_mem.{u}
def bF.{u}:=@List.append_nil.{u}
def bH.{u}:=@Array.getElem?_modify.{u}
def bJ.{u}:=@List.length_drop.{u}
def bL.{u,v}:=@Option.map_some.{u,v}
def bN.{u}:=@beq_iff_eq.{u}
def bO:=@Nat.add_mul
def bQ.{u}:=@List.mem_append.{u}
def bS.{u}:=@Array.getElem?_setIfInBounds_ne.{u}
def bY:=@Int.le_refl
def bZ.{u}:=@List.set_append_right.{u}
def ba.{u}:=@List.length_take.{u}
def bc:=@Classical.byContradiction
def bd.{u}:=@List.getD_cons_zero.{u}
def bf.{u}:=@List.getD_cons_succ.{u}
def bh.{u}:=@List.nil_append.{u}
def bj:=@Nat.zero_add
def bl:=@Nat.le_trans
def bn.{u}:=@List.mem_cons.{u}
def bq.{u}:=@List.cons_append.{u}
def cD.{u,v}:=@List.map_congr_left.{u,v}
def cJ.{u}:=@List.length_set.{u}
def cP.{u}:=@List.nodup_cons.{u}
def cQ.{u,v}:=@List.map_append.{u,v}
def cR.{u}:=@List.mem_singleton.{u}
def cU.{u}:=@List.mem_iff_getElem?.{u}
def ca.{u}:=@List.take_of_length_le.{u}
def cc.{u}:=@List.mem_filter.{u}
def cg.{u}:=@List.getElem_mem.{u}
def cj.{u}:=@List.all_eq_true.{u}
def cu:=@Nat.lt_of_lt_of_le
def cv.{u}:=@List.getElem?_drop.{u}
def dA:=@Int.tdiv_eq_ediv_of_nonneg
def dC.{u}:=@List.take_append_of_le_length.{u}
def dD.{u}:=@List.set_append_left.{u}
def dQ.{u}:=@List.length_filter_le.{u}
def dS:=@not_false_eq_true
def dU:=@Int.zero_add
def da:=@Bool.or_eq_true
def de.{u}:=@List.size_toArray.{u}
def df.{u}:=@List.mem_of_mem_take.{u}
def dh.{u}:=@List.mem_of_mem_drop.{u}
def di.{u}:=@List.mem_cons_of_mem.{u}
def dj.{u,v}:=@List.map_nil.{u,v}
def dm.{u,v}:=@List.flatMap_cons.{u,v}
def dp.{u}:=@List.getElem?_take.{u}
def dv.{u}:=@beq_eq_false_iff_ne.{u}
def dw:=@Int.le_trans
def dx:=@decide_eq_false_iff_not
def dz.{u}:=@List.filter_cons.{u}
def eA:=@Nat.add_zero
def eC.{u}:=@List.drop_eq_getElem_cons.{u}
def eG:=@Nat.one_mul
def eH:=@Bool.not_eq_true'
def eN.{u,v}:=@List.length_filterMap_le.{u,v}
def eQ:=@Nat.sub_self
def eR:=@Nat.mul_comm
def eS.{u,v}:=@List.foldl_cons.{u,v}
def eW.{u}:=@Option.getD_some.{u}
def eX:=@Nat.zero_le
def eY:=@Nat.add_sub_cancel_left
def eZ.{u}:=@List.not_mem_nil.{u}
def ed:=@Bool.true_and
def ey.{u,v}:=@Option.bind_some.{u,v}
def ft:=@Nat.lt_or_ge
def fu.{u}:=@List.nodup_append.{u}
def fv.{u}:=@Array.getElem?_append_left.{u}
def fx.{u,v}:=@List.mem_map_of_mem.{u,v}
def gB.{u,v,w}:=@List.map_map.{u,v,w}
def gC.{u}:=@ne_eq.{u}
def gD:=@Int.mul_add
def gE:=@Bool.not_true
def gJ.{u,v}:=@List.mem_flatMap.{u,v}
def gS.{u}:=@List.pairwise_cons.{u}
def gT.{u}:=@List.filter_append.{u}
def gU:=@Bool.false_and
def gW.{u}:=@Array.getElem?_toList.{u}
def ga.{u}:=@List.filter_cons_of_pos.{u}
def gd.{u}:=@List.ext_getElem?.{u}
def gm.{u}:=@Option.some.inj.{u}
def gn:=@Nat.min_eq_left
def iF:=@Nat.add_assoc
def iP:=@List.getElem?_range
def iQ.{u}:=@List.filter_eq_self.{u}
def iU.{u}:=@List.nodup_nil.{u}
def iV.{u}:=@List.getLast?_singleton.{u}
def iW.{u}:=@List.filter_cons_of_neg.{u}
def ir:=@Bool.eq_iff_iff
def iv.{u}:=@bne_self_eq_false.{u}
def jD:=@true_and
def jE:=@Bool.false_or
def jS.{u}:=@List.take_append_drop.{u}
def jT.{u}:=@List.getElem?_toArray.{u}
def jU.{u}:=@List.Perm.append_left.{u}
def jW.{u}:=@Array.size_append.{u}
def jk:=@Int.mul_le_mul_of_nonneg_left
def jt.{u,v}:=@List.mem_filterMap.{u,v}
def ju.{u}:=@Array.getElem?_eq_none.{u}
def kC.{u}:=@bne_iff_ne.{u}
def kD:=@and_true
def kE:=@Nat.div_lt_of_lt_mul
def kF.{u}:=@List.getLast?_append.{u}
def kG:=@Bool.or_eq_false_iff
def kH:=@Bool.not_false
def kz:=@not_true
def lH.{u}:=@Option.isSome_iff_exists.{u}
def lI.{u}:=@List.all_cons.{u}
def lJ.{u}:=@Array.getElem?_push_size.{u}
def lf:=@List.nodup_range
def lg.{u,v}:=@Array.toList_map.{u,v}
def lp.{u,v}:=@List.filterMap_cons.{u,v}
def mO.{u}:=@List.drop_eq_nil_of_le.{u}
def me.{u}:=@List.mem_cons_self.{u}
def nA.{u}:=@List.set_getElem_self.{u}
def oC:=@and_self
def oD.{u}:=@List.forall_mem_cons.{u}
def oc:=@Int.mul_le_mul_of_nonneg_right
def od.{u}:=@Array.eq_empty_of_size_eq_zero.{u}
def oy:=@Bool.and_true
def pM.{u}:=@List.takeWhile_cons.{u}
def pN.{u}:=@List.replicate_succ.{u}
def pO.{u}:=@List.length_pos_iff.{u}
def pP.{u}:=@Array.getElem?_push.{u}
def pU:=@Nat.sub_zero
def pj:=@decide_eq_false
def pk:=@Int.natCast_add
def pn.{u,v}:=@Except.ok.injEq.{u,v}
def po.{u}:=@Array.getElem?_setIfInBounds.{u}
def qL:=@false_or
def qM.{u}:=@Option.some_or.{u}
def qN:=@Nat.mod_lt
def qO.{u}:=@List.take_zero.{u}
def qP.{u}:=@List.take_take.{u}
def qQ.{u}:=@List.perm_ext_iff_of_nodup.{u}
def qR:=@Int.mul_nonneg
def qS:=@Bool.and_false
def sb.{u}:=@List.pairwise_iff_getElem.{u}
def se.{u}:=@List.mem_of_find?_eq_some.{u}
def sk.{u,v}:=@List.pairwise_map.{u,v}
def sn:=@List.length_range
def tC:=@false_imp_iff
def tD.{u,v}:=@List.filterMap_cons_some.{u,v}
def tE.{u,v}:=@List.filterMap_cons_none.{u,v}
def tF.{u}:=@Array.getElem?_replicate.{u}
def uM.{u}:=@beq_self_eq_true.{u}
def uN.{u}:=@Option.getD_none.{u}
def uO:=@Nat.mod_eq_of_lt
def uP.{u}:=@List.length_eq_zero_iff.{u}
def uQ.{u}:=@List.getElem?_set_self'.{u}
def uR.{u}:=@List.getElem?_replicate.{u}
def uS.{u}:=@List.drop_length.{u}
def uT:=@Int.eq_ofNat_of_zero_le
def xF:=@decide_false
def xG.{u}:=@Array.getElem?_push_lt.{u}
def xQ.{u,v}:=@Option.map_none.{u,v}
def xR.{u}:=@List.find?_some.{u}
def yq.{u}:=@List.length_replicate.{u}
def yr.{u}:=@List.concat_eq_append.{u}
def yt.{u,v}:=@Array.getElem?_mapIdx.{u,v}
def zG.{u}:=@List.length_filter_lt_length_iff_exists.{u}
def zH.{u}:=@Array.getElem?_setIfInBounds_self_of_lt.{u}
end Go

namespace Go.Pm
open Go Go.RowKit
inductive V where
 | u
 | b (x:Bool)
 | i (k:IntKind) (n:Int)
 | s (l:List UInt8)
 | nil
 | lit (sz:Nat) (xs:List (List V))
 | sl (sz:Nat) (xs:List (List V))
 | own (id g:Nat)
 | sub (id g lo hi:Nat)
 | ptr (id off:Nat)
 | ep (sz:Nat) (xs:List (List V)) (i off:Nat)
 | rp (id g i off:Nat)
 | mp (id:Nat)
 | it (id:Nat)
 | r7 (id n:Nat)
 | cV
 | fp
 | fn (f:Nat) (caps:List V)
 | agg (xs:List V)
 | fa (xs:List V)
def V.pure:V→Bool
 | .b _ | .i _ _ | .s _ | .sl _ _=>true
 | _=>false
def V.cell:V→Bool
 | .u | .agg _ | .fa _ | .it _ | .r7 _ _=>false
 | _=>true
inductive Ob where
 | dead
 | box (T:Nat) (cs:List V)
 | row (E sz by':Nat) (g:Nat) (sh:Bool) (xs:List (List V))
 | map (K E:Nat) (es:List (V×V))
 | iter (st:Bool) (m E n:Nat) (ps:List Nat) (cur:Option Nat)
abbrev ae:=List Ob
abbrev Mem:=Nat→Value
def fR:Value→Option Nat
 | .pointer (some a)=>some a.block
 | .slice (some a) _ _=>some a.block
 | .map (some r)=>some r
 | _=>none
def Ob.WT(off:Nat):Ob→Prop
 | .dead=>False
 | .box _ _=>True
 | .row _ sz _ _ sh xs=>sh=true→xs.length*sz≤off
 | .map _ _ _=>True
 | .iter _ _ _ _ _ _=>True
def wr(J:ae)(μ:Mem)(b off:Nat):Prop:=∃ id o,J[id]?=some o∧fR (μ id)=some b∧o.WT off
def eV(xs:List (List V))(i j:Nat):Option V:=(xs[i]?).bind (·[j]?)
def iR(v:Value)(lo hi sz:Nat):Value :=
 match v with
 | .slice a _ cap=>.slice (if cap=lo then a else a.map (·.add (lo*sz))) (hi - lo) (cap - lo)
 | v=>v
def S9(v:Value)(i off sz:Nat):Value :=
 match v with
 | .slice (some a) _ _=>.pointer (some ⟨a.block,i*sz+off,none⟩)
 | v=>v
inductive VR (w:World) (J:ae) (μ:Mem):V→Value→Prop
 | u (v:Value):VR w J μ .u v
 | b (x:Bool):VR w J μ (.b x) (.bool x)
 | i (k:IntKind) (n:Int):VR w J μ (.i k n) (.int k n)
 | s (l:List UInt8) (x:ByteArray) (hl:x.data.toList=l) (hm:l.length≤maxLen):VR w J μ (.s l) (.string x)
 | nil:VR w J μ .nil (.slice none 0 0)
 | yK (sz:Nat):VR w J μ (.sl sz []) (.slice none 0 0)
 | sle (sz:Nat) (a:Addr):VR w J μ (.sl sz []) (.slice (some a) 0 0)
 | sl (sz:Nat) (xs:List (List V)) (b o cap:Nat) (f:Nat→Nat→Value) (hlen:xs.length≤cap) (jL:cap≤maxLen) (bT:∀ r∈xs,r.length=sz)
   (hc:∀ i j x,eV xs i j=some x→w.cell? ⟨b,o+i*sz+j,none⟩=some (f i j)∧¬ wr J μ b (o+i*sz+j)∧x.pure=true)
   (hv:∀ i j x,eV xs i j=some x→VR w J μ x (f i j)):VR w J μ (.sl sz xs) (.slice (some ⟨b,o,none⟩) xs.length cap)
 | AG (sz:Nat):VR w J μ (.lit sz []) (.slice none 0 0)
 | lit (sz:Nat) (xs:List (List V)) (b o:Nat) (f:Nat→Nat→Value) (jL:xs.length≤maxLen) (bT:∀ r∈xs,r.length=sz)
   (hc:∀ i j x,eV xs i j=some x→w.cell? ⟨b,o+i*sz+j,none⟩=some (f i j)∧¬ wr J μ b (o+i*sz+j)∧x.pure=true)
   (hv:∀ i j x,eV xs i j=some x→VR w J μ x (f i j)):VR w J μ (.lit sz xs) (.slice (some ⟨b,o,none⟩) xs.length xs.length)
 | own (id g:Nat) (v:Value) (hid:id<J.length) (h:∀ E sz by' g' sh xs,J[id]?=some (.row E sz by' g' sh xs)→g≤g'∧(g=g'→v=μ id)):VR w J μ (.own id g) v
 | sub (id g lo hi:Nat) (v:Value) (hid:id<J.length)
   (h:∀ E sz by' g' sh xs,J[id]?=some (.row E sz by' g' sh xs)→g≤g'∧(g=g'→lo≤hi∧hi≤xs.length∧v=iR (μ id) lo hi sz)):VR w J μ (.sub id g lo hi) v
 | ptr (id off b:Nat) (h:∃ T cs,J[id]?=some (.box T cs)) (hm:μ id=.pointer (some ⟨b,0,none⟩)):VR w J μ (.ptr id off) (.pointer (some ⟨b,off,none⟩))
 | ep (sz:Nat) (xs:List (List V)) (i off b o:Nat) (f:Nat→Value) (hi:i<xs.length) (bT:∀ r∈xs,r.length=sz)
   (hc:∀ j x,eV xs i j=some x→w.cell? ⟨b,o+j,none⟩=some (f j)∧¬ wr J μ b (o+j)∧x.pure=true)
   (hv:∀ j x,eV xs i j=some x→VR w J μ x (f j)):VR w J μ (.ep sz xs i off) (.pointer (some ⟨b,o+off,none⟩))
 | rp (id g i off:Nat) (v:Value) (hid:id<J.length)
   (h:∀ E sz by' g' sh xs,J[id]?=some (.row E sz by' g' sh xs)→g≤g'∧(g=g'→i<xs.length∧v=S9 (μ id) i off sz)):VR w J μ (.rp id g i off) v
 | mp (id r:Nat) (h:∃ K E es,J[id]?=some (.map K E es)) (hm:μ id=.map (some r)):VR w J μ (.mp id) (.map (some r))
 | it (id:Nat) (v:Value) (h:∃ st m E n ps c,J[id]?=some (.iter st m E n ps c)) (hm:μ id=v):VR w J μ (.it id) v
 | r7 (id n b:Nat) (h:∃ T cs,J[id]?=some (.box T cs)) (hm:μ id=.pointer (some ⟨b,0,none⟩)):VR w J μ (.r7 id n) (.slice (some ⟨b,0,none⟩) n n)
 | cV:VR w J μ .cV (.map none)
 | fp:VR w J μ .fp (.pointer none)
 | fn (f:Nat) (caps:List V) (vs:Array Value) (hl:caps.length=vs.size) (hv:∀ i x,caps[i]?=some x→VR w J μ x (vs.getD i undef)) :
   VR w J μ (.fn f caps) (.func (.func f) #[] vs)
 | agg (xs:List V) (vs:Array Value) (hl:xs.length=vs.size) (hv:∀ i x,xs[i]?=some x→VR w J μ x (vs.getD i undef)):VR w J μ (.agg xs) (.agg vs)
 | fa (xs:List V) (vs:Array Value) (hl:xs.length=vs.size) (hv:∀ i x,xs[i]?=some x→VR w J μ x (vs.getD i undef)):VR w J μ (.fa xs) (.tuple vs)
inductive V.Lt (n:Nat):V→Prop
 | u:Lt n .u
 | b (x):Lt n (.b x)
 | i (k a):Lt n (.i k a)
 | s (l):Lt n (.s l)
 | nil:Lt n .nil
 | lit (sz xs):Lt n (.lit sz xs)
 | sl (sz xs):Lt n (.sl sz xs)
 | own (id g) (h:id<n):Lt n (.own id g)
 | sub (id g lo hi) (h:id<n):Lt n (.sub id g lo hi)
 | ptr (id off) (h:id<n):Lt n (.ptr id off)
 | ep (sz xs i off):Lt n (.ep sz xs i off)
 | rp (id g i off) (h:id<n):Lt n (.rp id g i off)
 | mp (id) (h:id<n):Lt n (.mp id)
 | it (id) (h:id<n):Lt n (.it id)
 | r7 (id m) (h:id<n):Lt n (.r7 id m)
 | cV:Lt n .cV
 | fp:Lt n .fp
 | fn (f caps) (h:∀ (i:Nat) (x:V),caps[i]?=some x→Lt n x):Lt n (.fn f caps)
 | agg (xs) (h:∀ (i:Nat) (x:V),xs[i]?=some x→Lt n x):Lt n (.agg xs)
 | fa (xs) (h:∀ (i:Nat) (x:V),xs[i]?=some x→Lt n x):Lt n (.fa xs)
theorem VR.lt{w:World}{J:ae}{μ:Mem}{x:V}{v:Value}(h:VR w J μ x v):x.Lt J.length:=by
 induction h with
 | u v=>exact .u
 | b x=>exact .b x
 | i k n=>exact .i k n
 | s l x hl hm=>exact .s l
 | nil=>exact .nil
 | yK sz=>exact .sl sz _
 | sle sz a=>exact .sl sz _
 | sl sz xs b o cap f hlen jL bT hc hv ih=>exact .sl sz xs
 | AG sz=>exact .lit sz _
 | lit sz xs b o f jL bT hc hv ih=>exact .lit sz xs
 | own id g v hid h=>exact .own id g hid
 | sub id g lo hi v hid h=>exact .sub id g lo hi hid
 | ptr id off b h hm =>
  obtain⟨T,cs,h1⟩:=h;exact .ptr id off (ab.1 h1).1
 | ep sz xs i off b o f hi bT hc hv ih=>exact .ep sz xs i off
 | rp id g i off v hid h=>exact .rp id g i off hid
 | mp id r h hm =>
  obtain⟨K,E,es,h1⟩:=h;exact .mp id (ab.1 h1).1
 | it id v h hm =>
  obtain⟨st,m,E,n,ps,c,h1⟩:=h;exact .it id (ab.1 h1).1
 | r7 id n b h hm =>
  obtain⟨T,cs,h1⟩:=h;exact .r7 id n (ab.1 h1).1
 | cV=>exact .cV
 | fp=>exact .fp
 | fn f caps vs hl hv ih=>exact .fn f caps ih
 | agg xs vs hl hv ih=>exact .agg xs ih
 | fa xs vs hl hv ih=>exact .fa xs ih
theorem V.Lt.mono{n m:Nat}{x:V}(h:x.Lt n)(hm:n≤m):x.Lt m:=by
 induction h with
 | u=>exact .u
 | b x=>exact .b x
 | i k a=>exact .i k a
 | s l=>exact .s l
 | nil=>exact .nil
 | lit sz xs=>exact .lit sz xs
 | sl sz xs=>exact .sl sz xs
 | own id g h=>exact .own id g (cu h hm)
 | sub id g lo hi h=>exact .sub id g lo hi (cu h hm)
 | ptr id off h=>exact .ptr id off (cu h hm)
 | ep sz xs i off=>exact .ep sz xs i off
 | rp id g i off h=>exact .rp id g i off (cu h hm)
 | mp id h=>exact .mp id (cu h hm)
 | it id h=>exact .it id (cu h hm)
 | r7 id n h=>exact .r7 id n (cu h hm)
 | cV=>exact .cV
 | fp=>exact .fp
 | fn f caps h ih=>exact .fn f caps ih
 | agg xs h ih=>exact .agg xs ih
 | fa xs h ih=>exact .fa xs ih
structure ky (w:World) (J:ae) (μ:Mem) (w':World) (J':ae) (μ':Mem):Prop where
 cell:∀ b o v,w.cell? ⟨b,o,none⟩=some v→¬ wr J μ b o→w'.cell? ⟨b,o,none⟩=some v∧¬ wr J' μ' b o
 len:J.length≤J'.length
 box:∀ id T cs,J[id]?=some (.box T cs)→(∃ cs',J'[id]?=some (.box T cs'))∧μ' id=μ id
 map:∀ id K E es,J[id]?=some (.map K E es)→(∃ E' es',J'[id]?=some (.map K E' es'))∧μ' id=μ id
 XG:∀ id st m E n ps c,J[id]?=some (.iter st m E n ps c)→(∃ ps' c',J'[id]?=some (.iter st m E n ps' c'))∧μ' id=μ id
 row:∀ id E sz by' g' sh xs,id<J.length→J'[id]?=some (.row E sz by' g' sh xs)→∃ g sh0 xs0,J[id]?=some (.row E sz by' g sh0 xs0)∧g≤g'∧(g=g'→xs0.length=xs.length∧μ' id=μ id)
theorem VR.mono{w:World}{J:ae}{μ:Mem}{w':World}{J':ae}{μ':Mem}(p:ky w J μ w' J' μ'){x:V}{v:Value}(h:VR w J μ x v):VR w' J' μ' x v:=by
 induction h with
 | u v=>exact .u v
 | b x=>exact .b x
 | i k n=>exact .i k n
 | s l x hl hm=>exact .s l x hl hm
 | nil=>exact .nil
 | yK sz=>exact .yK sz
 | sle sz a=>exact .sle sz a
 | sl sz xs b o cap f hlen jL bT hc hv ih =>
  exact .sl sz xs b o cap f hlen jL bT (fun i j x hx=>⟨(p.cell _ _ _ (hc i j x hx).1 (hc i j x hx).2.1).1,(p.cell _ _ _ (hc i j x hx).1 (hc i j x hx).2.1).2,(hc i j x hx).2.2⟩) ih
 | AG sz=>exact .AG sz
 | lit sz xs b o f jL bT hc hv ih =>
  exact .lit sz xs b o f jL bT (fun i j x hx=>⟨(p.cell _ _ _ (hc i j x hx).1 (hc i j x hx).2.1).1,(p.cell _ _ _ (hc i j x hx).1 (hc i j x hx).2.1).2,(hc i j x hx).2.2⟩) ih
 | own id g v hid h =>
  refine .own id g v (cu hid p.len) fun E sz by' g' sh xs hs=>?_;obtain⟨g1,sh',xs',h1,h2,h3⟩:=p.row id E sz by' g' sh xs hid hs;have h4:=h _ _ _ _ _ _ h1;refine⟨bl h4.1 h2,fun hg=>?_⟩;have e1:g1=g':=by omega
  rw[(h3 e1).2];exact h4.2 (by omega)
 | sub id g lo hi v hid h =>
  refine .sub id g lo hi v (cu hid p.len) fun E sz by' g' sh xs hs=>?_;obtain⟨g1,sh',xs',h1,h2,h3⟩:=p.row id E sz by' g' sh xs hid hs;have h4:=h _ _ _ _ _ _ h1;refine⟨bl h4.1 h2,fun hg=>?_⟩;have e1:g1=g':=by omega
  rw[(h3 e1).2,← (h3 e1).1];exact h4.2 (by omega)
 | ptr id off b h hm =>
  obtain⟨T,cs,h1⟩:=h;obtain⟨⟨cs',h2⟩,h3⟩:=p.box id T cs h1;exact .ptr id off b ⟨T,cs',h2⟩ (h3.trans hm)
 | ep sz xs i off b o f hi bT hc hv ih =>
  exact .ep sz xs i off b o f hi bT (fun j x hx=>⟨(p.cell _ _ _ (hc j x hx).1 (hc j x hx).2.1).1,(p.cell _ _ _ (hc j x hx).1 (hc j x hx).2.1).2,(hc j x hx).2.2⟩) ih
 | rp id g i off v hid h =>
  refine .rp id g i off v (cu hid p.len) fun E sz by' g' sh xs hs=>?_;obtain⟨g1,sh',xs',h1,h2,h3⟩:=p.row id E sz by' g' sh xs hid hs;have h4:=h _ _ _ _ _ _ h1;refine⟨bl h4.1 h2,fun hg=>?_⟩;have e1:g1=g':=by omega
  rw[(h3 e1).2,← (h3 e1).1];exact h4.2 (by omega)
 | mp id r h hm =>
  obtain⟨K,E,es,h1⟩:=h;obtain⟨⟨E',es',h2⟩,h3⟩:=p.map id K E es h1;exact .mp id r ⟨K,E',es',h2⟩ (h3.trans hm)
 | it id v h hm =>
  obtain⟨st,m,E,n,ps,c,h1⟩:=h;obtain⟨⟨ps',c',h2⟩,h3⟩:=p.XG id st m E n ps c h1;exact .it id v ⟨st,m,E,n,ps',c',h2⟩ (h3.trans hm)
 | r7 id n b h hm =>
  obtain⟨T,cs,h1⟩:=h;obtain⟨⟨cs',h2⟩,h3⟩:=p.box id T cs h1;exact .r7 id n b ⟨T,cs',h2⟩ (h3.trans hm)
 | cV=>exact .cV
 | fp=>exact .fp
 | fn f caps vs hl hv ih=>exact .fn f caps vs hl ih
 | agg xs vs hl hv ih=>exact .agg xs vs hl ih
 | fa xs vs hl hv ih=>exact .fa xs vs hl ih
theorem ky.refl(w:World)(J:ae)(μ:Mem):ky w J μ w J μ :=
 ⟨fun _ _ _ h h'=>⟨h,h'⟩,aq _,fun _ _ cs h=>⟨⟨cs,h⟩,rfl⟩,fun _ _ E es h=>⟨⟨E,es,h⟩,rfl⟩,fun _ _ _ _ _ ps c h=>⟨⟨ps,c,h⟩,rfl⟩,fun _ _ _ _ g sh xs _ h=>⟨g,sh,xs,h,aq _,fun _=>⟨rfl,rfl⟩⟩⟩
def kZ(w:World)(J:ae)(μ:Mem)(w':World)(J':ae)(μ':Mem):Prop:=∀ x v,VR w J μ x v→VR w' J' μ' x v
theorem ky.dY{w:World}{J:ae}{μ:Mem}{w':World}{J':ae}{μ':Mem}(p:ky w J μ w' J' μ'):kZ w J μ w' J' μ':=fun _ _ h=>h.mono p
def dX(n:Nat)(w:World)(J:ae)(μ:Mem)(w':World)(J':ae)(μ':Mem):Prop:=∀ x v,VR w J μ x v→x.Lt n→VR w' J' μ' x v
theorem kZ.GZ{n:Nat}{w:World}{J:ae}{μ:Mem}{w':World}{J':ae}{μ':Mem}(k:kZ w J μ w' J' μ'):dX n w J μ w' J' μ':=fun x v h _=>k x v h
theorem dX.refl(n:Nat)(w:World)(J:ae)(μ:Mem):dX n w J μ w J μ:=fun _ _ h _=>h
theorem dX.trans{n:Nat}{w:World}{J:ae}{μ:Mem}{w':World}{J':ae}{μ':Mem}{w'':World}{J'':ae}{μ'':Mem}
  (h:dX n w J μ w' J' μ') (k:dX n w' J' μ' w'' J'' μ''):dX n w J μ w'' J'' μ'':=fun x v hx hl=>k x v (h x v hx hl) hl
theorem kZ.refl(w:World)(J:ae)(μ:Mem):kZ w J μ w J μ:=fun _ _ h=>h
theorem kZ.trans{w:World}{J:ae}{μ:Mem}{w':World}{J':ae}{μ':Mem}{w'':World}{J'':ae}{μ'':Mem}
  (h:kZ w J μ w' J' μ') (k:kZ w' J' μ' w'' J'' μ''):kZ w J μ w'' J'' μ'':=fun x v hx=>k x v (h x v hx)
def Ti(P:Program)(E sz by':Nat):Prop :=
 0<sz∧∃ (t:TypeInfo) (z:Value),P.info? E=some t∧t.zero=some z∧t.size=sz∧t.bytes=by'∧z.cells.size=sz
def gR(w:World)(J:ae)(μ:Mem)(xs:List (List V))(sz:Nat)(vals:List Value):Prop :=
 (∀ r∈xs,r.length=sz)∧∀ i j x,eV xs i j=some x→x.pure=true∧∃ v,vals[i*sz+j]?=some v∧VR w J μ x v
def V.Hd:V→Bool
 | .i _ _ | .s _ | .b _=>true
 | _=>false
def V.mZ:V→Bool
 | .i _ _ | .s _ | .b _=>true
 | .agg xs=>xs.all V.Hd
 | _=>false
def V.gx:V→Bool
 | .agg xs=>xs.all V.cell
 | x=>x.cell
def qH(w:World)(J:ae)(μ:Mem)(es:List (V×V))(ents:Array MapEntry)(clock:Nat):Prop :=
 ents.size=es.length∧(∀ (i:Nat) (k x:V),es[i]?=some (k,x)→k.mZ=true∧x.gx=true∧∃ e,ents[i]?=some e∧VR w J μ k e.key∧VR w J μ x e.val) ∧
 (∀ (i:Nat) (e:MapEntry),ents[i]?=some e→e.born<clock)∧(∀ (i j:Nat) (e e':MapEntry),ents[i]?=some e→ents[j]?=some e'→e.born=e'.born→i=j)
def GO(w:World)(J:ae)(μ:Mem)(m E0 n0:Nat)(ps:List Nat)(cur:Option Nat)(bm since:Nat)(seen:Array Nat):Prop :=
 μ m=.map (some bm)∧(∀ p∈ps,p<n0)∧∃ K E es ents clock,J[m]?=some (.map K E es)∧w.heap[bm]?=some (.map ents clock)∧E0≤E ∧
  (E=E0→n0≤es.length∧(es.length=n0→clock=since∧(∀ (i:Nat) (e:MapEntry),ents[i]?=some e→(seen.contains e.born=false↔i∈ps)) ∧
   ∀ c,cur=some c→∃ e:MapEntry,ents[c]?=some e∧seen.back?=some e.born))
def GM(w:World)(J:ae)(μ:Mem)(m E0 n0:Nat)(cur:Option Nat)(born:Int):Prop :=
 ∃ bm,μ m=.map (some bm)∧∃ K E es ents clock,J[m]?=some (.map K E es)∧w.heap[bm]?=some (.map ents clock)∧E0≤E ∧
  (E=E0→n0≤es.length∧∀ c,cur=some c→∃ e:MapEntry,ents[c]?=some e∧(e.born:Int)=born)
def uL(P:Program)(B:Nat)(w:World)(J:ae)(μ:Mem)(v:Value):Ob→Prop
 | .dead=>True
 | .box T cs=>∃ (b:Nat) (vs:Array Value),v=.pointer (some ⟨b,0,none⟩)∧B≤b∧w.heap[b]?=some (.cells vs T (0,0))∧vs.size=cs.length ∧
   ∀ (j:Nat) (x:V),cs[j]?=some x→∃ u,vs[j]?=some u∧VR w J μ x u
 | .row E sz by' _ _ xs=>Ti P E sz by'∧∃ vals:List Value,w.ownsRow B E sz v xs.length vals∧gR w J μ xs sz vals
 | .map _ _ es=>∃ (r:Nat) (ents:Array MapEntry) (clock:Nat),v=.map (some r)∧B≤r∧w.heap[r]?=some (.map ents clock)∧qH w J μ es ents clock
 | .iter true m E0 n0 _ cur=>∃ (born:Int),v=.int .i64 born∧GM w J μ m E0 n0 cur born
 | .iter false m E0 n0 ps cur=>∃ (r bm since:Nat) (seen:Array Nat),v=.pointer (some ⟨r,0,none⟩)∧B≤r∧w.heap[r]?=some (.mapIter (some bm) since seen since)∧GO w J μ m E0 n0 ps cur bm since seen
def vV:List Int:=[1,10,100,1000,10000,100000,1000000,10000000,100000000,1000000000,10000000000,100000000000,1000000000000,10000000000000,100000000000000,1000000000000000,10000000000000000,100000000000000000,1000000000000000000,10000000000000000000]
def MG:List (String×IntKind×List Int):=[("internal/strconv.uint64pow10",.u64,vV)]
def Laid(P:Program)(B:Nat)(w:World):Prop:=∀ t∈MG,∀ g,P.globalNamed t.1=some g→g<B∧Lib.TabIs P w t.1 t.2.1 t.2.2
structure qK (P:Program) (B:Nat) (w0 w:World):Prop extends Below B w0 w where
 laid:Laid P B w0
theorem qK.grown{P:Program}{B:Nat}{a w w':World}{row:Option Nat}(h:qK P B a w)(hg:w.grownBy w' row)(hB:B≤w.heap.size)(hr:∀ k,row=some k→B≤k):qK P B a w' :=
 ⟨h.toBelow.grown hg hB hr,h.laid⟩
theorem qK.tab{P:Program}{B:Nat}{w0 w:World}(h:qK P B w0 w){t:String×IntKind×List Int}(ht:t∈MG){g:Nat}(hg:P.globalNamed t.1=some g):Lib.TabIs P w t.1 t.2.1 t.2.2:=by
 obtain⟨h1,h2⟩:=h.laid t ht g hg;unfold Lib.TabIs World.var? at h2 ⊢;simp only[hg,ey]at h2 ⊢;rw[h.block g h1];exact h2
structure fe (P:Program) (B:Nat) (w0 w:World) (J:ae) (μ:Mem):Prop where
 below:qK P B w0 w
 base:B≤w.heap.size
 obj:∀ id o,J[id]?=some o→uL P B w J μ (μ id) o
 sep:∀ i j oi oj b,J[i]?=some oi→J[j]?=some oj→oi≠.dead→oj≠.dead→fR (μ i)=some b→fR (μ j)=some b→i=j
def FR(w:World)(J:ae)(μ:Mem)(fr:List V)(a:Act):Prop :=
 a.defers=[]∧a.tmps.size=fr.length∧∀ i x,fr[i]?=some x→VR w J μ x (a.tmps.getD i undef)
theorem FR.dY{w:World}{J:ae}{μ:Mem}{w':World}{J':ae}{μ':Mem}(k:kZ w J μ w' J' μ'){fr:List V}{a:Act}(h:FR w J μ fr a):FR w' J' μ' fr a :=
 ⟨h.1,h.2.1,fun i x hx=>k _ _ (h.2.2 i x hx)⟩
structure St where
 fr:List V
 J:ae
def Mp(w:World)(J:ae)(μ:Mem)(xs:List V)(vs:Array Value):Prop:=vs.size=xs.length∧∀ i x,xs[i]?=some x→VR w J μ x (vs.getD i undef)
def PC(P:Program)(f:Nat)(args:List V)(J:ae)(Q:V→ae→Prop):Prop :=
 ∀ (B:Nat) (w0 w:World) (μ:Mem) (vs:Array Value),fe P B w0 w J μ→Mp w J μ args vs →
  Calls P f vs w fun e w'=>∃ r v J' μ',e=.returned v∧Q r J'∧fe P B w0 w' J' μ'∧VR w' J' μ' r v∧kZ w J μ w' J' μ'
def PW(n:Nat)(P:Program)(c:Code)(K:Exit→St→Prop)(st:St):Prop :=
 ∀ (B:Nat) (w0 w:World) (μ:Mem) (a:Act),fe P B w0 w st.J μ→FR w st.J μ st.fr a →
  c.wp P (fun e a' w'=>∃ st' μ',K e st'∧fe P B w0 w' st'.J μ'∧FR w' st'.J μ' st'.fr a'∧dX n w st.J μ w' st'.J μ') a w
theorem PC.mono{P:Program}{f:Nat}{args:List V}{J:ae}{Q Q':V→ae→Prop}(h:PC P f args J Q)(hq:∀ r J',Q r J'→Q' r J'):PC P f args J Q' :=
 fun B w0 w μ vs hs hv=>(h B w0 w μ vs hs hv).mono fun _ _ ⟨r,v,J',μ',he,hQ,rest⟩=>⟨r,v,J',μ',he,hq _ _ hQ,rest⟩
theorem PW.mono{n:Nat}{P:Program}{c:Code}{K K':Exit→St→Prop}{st:St}(h:PW n P c K st)(hk:∀ e st',K e st'→K' e st'):PW n P c K' st :=
 fun B w0 w μ a hs hf=>wp_mono (h B w0 w μ a hs hf) fun _ _ _ ⟨st',μ',hK,rest⟩=>⟨st',μ',hk _ _ hK,rest⟩
theorem PW.skip{n:Nat}{P:Program}{K:Exit→St→Prop}{st:St}(h:K .normal st):PW n P .skip K st :=
 fun _ _ _ μ _ hs hf=>wp_skip ⟨st,μ,h,hs,hf,dX.refl _ _ _ _⟩
theorem PW.ret{n:Nat}{P:Program}{K:Exit→St→Prop}{st:St}(h:K .ret st):PW n P .ret K st :=
 fun _ _ _ μ _ hs hf=>wp_ret ⟨st,μ,h,hs,hf,dX.refl _ _ _ _⟩
theorem PW.exit{n:Nat}{P:Program}{id:Nat}{K:Exit→St→Prop}{st:St}(h:K (.exit id) st):PW n P (.exit id) K st :=
 fun _ _ _ μ _ hs hf=>wp_exit ⟨st,μ,h,hs,hf,dX.refl _ _ _ _⟩
def SV(n:Nat)(P:Program)(y:Code)(K:Exit→St→Prop):Exit→St→Prop
 | .normal,st=>PW n P y K st
 | e,st=>K e st
theorem PW.seq{n:Nat}{P:Program}{x y:Code}{K:Exit→St→Prop}{st:St}(h:PW n P x (SV n P y K) st):PW n P (.seq x y) K st:=by
 intro B w0 w μ a hs hf;refine wp_seq (wp_mono (h B w0 w μ a hs hf) ?_);rintro e a' w' ⟨st',μ',hK,hs',hf',hk⟩;cases e with
 | normal=>exact wp_mono (hK B w0 w' μ' a' hs' hf') fun _ _ _ ⟨st2,μ2,h1,h2,h3,h4⟩=>⟨st2,μ2,h1,h2,h3,hk.trans h4⟩
 | exit id=>exact⟨st',μ',hK,hs',hf',hk⟩
 | goto l=>exact⟨st',μ',hK,hs',hf',hk⟩
 | ret=>exact⟨st',μ',hK,hs',hf',hk⟩
 | panic c=>exact⟨st',μ',hK,hs',hf',hk⟩
 | outgrown=>exact⟨st',μ',hK,hs',hf',hk⟩
def tu(id:Nat)(K:Exit→St→Prop):Exit→St→Prop
 | .exit id',st=>if id'=id then K .normal st else K (.exit id') st
 | e,st=>K e st
theorem PW.block{n:Nat}{P:Program}{id:Nat}{c:Code}{K:Exit→St→Prop}{st:St}(h:PW n P c (tu id K) st):PW n P (.block id c) K st:=by
 intro B w0 w μ a hs hf;refine wp_block (wp_mono (h B w0 w μ a hs hf) ?_);rintro e a' w' ⟨st',μ',hK,hs',hf',hk⟩;cases e with
 | normal=>exact⟨st',μ',hK,hs',hf',hk⟩
 | exit id' =>
  by_cases hid:id'=id
  ·subst hid;simp only[tu,aR]at hK;simp only[Exit.inBlock,aR];exact⟨st',μ',hK,hs',hf',hk⟩
  ·simp only[tu,hid,aO]at hK;simp only[Exit.inBlock,hid,aO];exact⟨st',μ',hK,hs',hf',hk⟩
 | goto l=>exact⟨st',μ',hK,hs',hf',hk⟩
 | ret=>exact⟨st',μ',hK,hs',hf',hk⟩
 | panic c=>exact⟨st',μ',hK,hs',hf',hk⟩
 | outgrown=>exact⟨st',μ',hK,hs',hf',hk⟩
theorem oe{P:Program}{Q:Exit→Act→World→Prop}{a:Act}{w:World}{c:Code}(n:Nat)(Jj:Nat→Act→World→Prop)(h0:Jj n a w)
  (round:∀ k a w,Jj k a w→c.wp P (Exit.then (fun a' w'=>∃ k',k'<k∧Jj k' a' w') Q) a w):(Code.loop c).wp P Q a w:=by
 intro b k cs
 have key:∀ n a w,Jj n a w→∃ e a' w',Q e a' w'∧Arrives P (lone (b.at a (.code c::.inLoop c::k)) cs w) b k cs e a' w':=by
  intro n
  induction n using Nat.strongRecOn with
  | _ n ih =>
   intro a w hJ;obtain⟨e,a₁,w₁,hq,qy⟩:=round n a w hJ b (.inLoop c::k) cs;cases e with
   | normal =>
    obtain⟨k',cM,hJ₁⟩:=hq;obtain⟨e₂,a₂,w₂,hq₂,harr₂⟩:=ih k' cM a₁ w₁ hJ₁;exact⟨e₂,a₂,w₂,hq₂,.of_steps (Steps.trans qy (.one step_inLoop)) harr₂⟩
   | exit id=>exact⟨_,a₁,w₁,hq,.pass (x:=.inLoop c) rfl (fun _ _=>.inl (by simp)) qy⟩
   | goto l=>exact⟨_,a₁,w₁,hq,.pass (x:=.inLoop c) rfl (fun _ _=>.inl (by simp)) qy⟩
   | ret=>exact⟨_,a₁,w₁,hq,.pass (x:=.inLoop c) rfl (fun _ _=>.inl (by simp)) qy⟩
   | panic ch=>exact⟨_,a₁,w₁,hq,.pass (x:=.inLoop c) rfl (fun _ _=>.inl (by simp)) qy⟩
   | outgrown=>exact⟨_,a₁,w₁,hq,.pass (x:=.inLoop c) rfl (fun _ _=>.inl (by simp)) qy⟩
 obtain⟨e,a',w',hq,qy⟩:=key _ a w h0;exact⟨e,a',w',hq,.of_steps (.one step_loop) qy⟩
def Pp(I:St→Prop)(m:St→Nat)(k:Nat)(K:Exit→St→Prop):Exit→St→Prop
 | .normal,st=>I st∧m st<k
 | e,st=>K e st
theorem PW.loop{n:Nat}{P:Program}{c:Code}{K:Exit→St→Prop}{st:St}(I:St→Prop)(m:St→Nat)(h0:I st)(h:∀ st,I st→PW n P c (Pp I m (m st) K) st):PW n P (.loop c) K st:=by
 intro B w0 w μ a hs hf
 have key:∀ (N:Nat) (st1:St) (w1:World) (μ1:Mem) (a1:Act),m st1=N→I st1→fe P B w0 w1 st1.J μ1→FR w1 st1.J μ1 st1.fr a1→dX n w st.J μ w1 st1.J μ1 →
   (Code.loop c).wp P (fun e a' w'=>∃ st' μ',K e st'∧fe P B w0 w' st'.J μ'∧FR w' st'.J μ' st'.fr a'∧dX n w st.J μ w' st'.J μ') a1 w1:=by
  intro N st1 w1 μ1 a1 hn hI yf Su EH;refine oe N (fun k a2 w2=>∃ st2 μ2,m st2=k∧I st2∧fe P B w0 w2 st2.J μ2∧FR w2 st2.J μ2 st2.fr a2∧dX n w st.J μ w2 st2.J μ2) ⟨st1,μ1,hn,hI,yf,Su,EH⟩ ?_;rintro k a2 w2 ⟨st2,μ2,hm2,Rc,DF,AS,ny⟩;refine wp_mono (h st2 Rc B w0 w2 μ2 a2 DF AS) ?_;rintro e a' w' ⟨st',μ',hK,hs',hf',hk⟩;cases e with
  | normal=>exact⟨m st',hm2▸hK.2,st',μ',rfl,hK.1,hs',hf',ny.trans hk⟩
  | exit id=>exact⟨st',μ',hK,hs',hf',ny.trans hk⟩
  | goto l=>exact⟨st',μ',hK,hs',hf',ny.trans hk⟩
  | ret=>exact⟨st',μ',hK,hs',hf',ny.trans hk⟩
  | panic c=>exact⟨st',μ',hK,hs',hf',ny.trans hk⟩
  | outgrown=>exact⟨st',μ',hK,hs',hf',ny.trans hk⟩
 exact key _ st w μ a rfl h0 hs hf (dX.refl _ _ _ _)
theorem Ax{w w':World}{base:Nat}{e:TypeId}{size:Nat}{v:Value}{n:Nat}{xs:List Value}(h:w.ownsRow base e size v n xs)
  (hb:∀ g,fR v=some g→w'.heap[g]?=w.heap[g]?):w'.ownsRow base e size v n xs:=by
 obtain⟨h1,h2⟩:=h;refine⟨h1,?_⟩;rcases h2 with h2 | ⟨g,cap,cur,hv,hg,hh,r⟩
 ·exact .inl h2
 ·exact .inr ⟨g,cap,cur,hv,hg,by rw[hb g (by simp[hv,fR])];exact hh,r⟩
theorem uL.nV{P:Program}{B:Nat}{w:World}{J:ae}{μ:Mem}{v:Value}{o:Ob}(h:uL P B w J μ v o)(ho:o≠.dead){b:Nat}(hb:fR v=some b):B≤b∧b<w.heap.size:=by
 cases o with
 | dead=>exact absurd rfl ho
 | box T cs =>
  obtain⟨b',vs,rfl,h1,h2,_⟩:=h;simp only[fR,aa]at hb;subst hb;exact⟨h1,(aN.1 h2).1⟩
 | row E sz by' g sh xs =>
  obtain⟨_,vals,⟨_,h2⟩,_⟩:=h;rcases h2 with⟨rfl,_⟩ | ⟨g,cap,cur,rfl,hg,hh,_⟩
  ·simp[fR]at hb
  ·simp only[fR,aa]at hb;subst hb;exact⟨hg,(aN.1 hh).1⟩
 | map K E es =>
  obtain⟨r,ents,clock,rfl,h1,h2,_⟩:=h;simp only[fR,aa]at hb;subst hb;exact⟨h1,(aN.1 h2).1⟩
 | iter st m E n ps c =>
  cases st
  ·obtain⟨r,bm,since,seen,rfl,h1,h2,_⟩:=h;simp only[fR,aa]at hb;subst hb;exact⟨h1,(aN.1 h2).1⟩
  ·obtain⟨born,rfl,_⟩:=h;simp[fR]at hb
theorem gR.dY{w:World}{J:ae}{μ:Mem}{w':World}{J':ae}{μ':Mem}{xs:List (List V)}{sz:Nat}{vals:List Value}(h:gR w J μ xs sz vals)(k:kZ w J μ w' J' μ'):gR w' J' μ' xs sz vals :=
 ⟨h.1,fun i j x hx=>⟨(h.2 i j x hx).1,let ⟨v,h1,h2⟩:=(h.2 i j x hx).2;⟨v,h1,k _ _ h2⟩⟩⟩
theorem qH.dY{w:World}{J:ae}{μ:Mem}{w':World}{J':ae}{μ':Mem}{es:List (V×V)}{ents:Array MapEntry}{clock:Nat}(h:qH w J μ es ents clock)(k:kZ w J μ w' J' μ'):qH w' J' μ' es ents clock :=
 ⟨h.1,fun i a x hx=>let ⟨h1,h2,e,h3,h4,h5⟩:=h.2.1 i a x hx;⟨h1,h2,e,h3,k _ _ h4,k _ _ h5⟩,h.2.2⟩
def sa(w:World)(J:ae)(μ:Mem)(w':World)(J':ae)(μ':Mem)(m:Nat):Prop :=
 ∀ (K E:Nat) (es:List (V×V)) (bm:Nat) (ents:Array MapEntry) (clock:Nat),J[m]?=some (.map K E es)→μ m=.map (some bm)→w.heap[bm]?=some (.map ents clock) →
  μ' m=.map (some bm)∧∃ K' E' es' ents' clock',J'[m]?=some (.map K' E' es')∧w'.heap[bm]?=some (.map ents' clock')∧E≤E' ∧
   (E'=E→es.length≤es'.length∧(es'.length=es.length→clock'=clock∧∀ (i:Nat) (e':MapEntry),ents'[i]?=some e'→∃ e,ents[i]?=some e∧e.born=e'.born) ∧
    ∀ (i:Nat) (e:MapEntry),ents[i]?=some e→∃ e',ents'[i]?=some e'∧e'.born=e.born)
theorem GO.step{w:World}{J:ae}{μ:Mem}{w':World}{J':ae}{μ':Mem}{m E0 n0:Nat}{ps:List Nat}{cur:Option Nat}{bm since:Nat}{seen:Array Nat}(h:GO w J μ m E0 n0 ps cur bm since seen)(hl:sa w J μ w' J' μ' m):GO w' J' μ' m E0 n0 ps cur bm since seen:=by
 obtain⟨h1,h0,K,E,es,ents,clock,h2,h3,h4,h5⟩:=h;obtain⟨g1,K',E',es',ents',clock',g2,g3,g4,g5⟩:=hl K E es bm ents clock h2 h1 h3;refine⟨g1,h0,K',E',es',ents',clock',g2,g3,bl h4 g4,fun he=>?_⟩;have e1:E=E0:=by omega
 have e2:E'=E:=by omega
 obtain⟨h6,h7⟩:=h5 e1;obtain⟨g6,g7,g8⟩:=g5 e2;refine⟨bl h6 g6,fun hn=>?_⟩;have e3:es.length=n0:=by omega
 obtain⟨a1,a2,a3⟩:=h7 e3;obtain⟨b1,b2⟩:=g7 (by omega);refine⟨b1.trans a1,fun i e' hi=>?_,fun c hc=>?_⟩
 ·obtain⟨e,h8,h9⟩:=b2 i e' hi;rw[← h9];exact a2 i e h8
 ·obtain⟨e,h8,h9⟩:=a3 c hc;obtain⟨e',CZ,uG⟩:=g8 c e h8;exact⟨e',CZ,by rw[uG];exact h9⟩
theorem GM.step{w:World}{J:ae}{μ:Mem}{w':World}{J':ae}{μ':Mem}{m E0 n0:Nat}{cur:Option Nat}{born:Int}(h:GM w J μ m E0 n0 cur born)(hl:sa w J μ w' J' μ' m):GM w' J' μ' m E0 n0 cur born:=by
 obtain⟨bm,h1,K,E,es,ents,clock,h2,h3,h4,h5⟩:=h;obtain⟨g1,K',E',es',ents',clock',g2,g3,g4,g5⟩:=hl K E es bm ents clock h2 h1 h3;refine⟨bm,g1,K',E',es',ents',clock',g2,g3,bl h4 g4,fun he=>?_⟩;have e1:E=E0:=by omega
 have e2:E'=E:=by omega
 obtain⟨h6,h7⟩:=h5 e1;obtain⟨g6,_,g7⟩:=g5 e2;refine⟨bl h6 g6,fun c hc=>?_⟩;obtain⟨e,h8,h9⟩:=h7 c hc;obtain⟨e',CZ,uG⟩:=g7 c e h8;exact⟨e',CZ,by rw[uG];exact h9⟩
theorem sa.same{w:World}{J:ae}{μ:Mem}{w':World}{J':ae}{μ':Mem}{m:Nat}(h1:J'[m]?=J[m]?)(h2:μ' m=μ m)(h3:∀ b,fR (μ m)=some b→w'.heap[b]?=w.heap[b]?):sa w J μ w' J' μ' m:=by
 intro K E es bm ents clock g1 g2 g3;exact⟨h2.trans g2,K,E,es,ents,clock,h1.trans g1,by rw[h3 bm (by rw[g2];rfl)];exact g3,aq _,fun _=>⟨aq _,fun _=>⟨rfl,fun i e' h=>⟨e',h,rfl⟩⟩,fun i e h=>⟨e,h,rfl⟩⟩⟩
theorem uL.dY{P:Program}{B:Nat}{w:World}{J:ae}{μ:Mem}{w':World}{J':ae}{μ':Mem}{v:Value}{o:Ob}(h:uL P B w J μ v o)(k:kZ w J μ w' J' μ')
  (hb:∀ b,fR v=some b→w'.heap[b]?=w.heap[b]?) (hi:∀ st m E n ps c,o=.iter st m E n ps c→sa w J μ w' J' μ' m:=by intro _ _ _ _ _ _ h;cases h):uL P B w' J' μ' v o:=by
 cases o with
 | dead=>trivial
 | box T cs =>
  obtain⟨b',vs,rfl,h1,h2,h3,h4⟩:=h;exact⟨b',vs,rfl,h1,by rw[hb b' rfl];exact h2,h3,fun j x hx=>let ⟨u,h5,h6⟩:=h4 j x hx;⟨u,h5,k _ _ h6⟩⟩
 | row E sz by' g sh xs =>
  obtain⟨ht,vals,h1,h2⟩:=h;exact⟨ht,vals,Ax h1 hb,h2.dY k⟩
 | map K E es =>
  obtain⟨r,ents,clock,rfl,h1,h2,h3⟩:=h;exact⟨r,ents,clock,rfl,h1,by rw[hb r rfl];exact h2,h3.dY k⟩
 | iter st m E n ps c =>
  cases st
  ·obtain⟨r,bm,since,seen,rfl,h1,h2,h4⟩:=h;exact⟨r,bm,since,seen,rfl,h1,by rw[hb r rfl];exact h2,h4.step (hi _ m E n ps c rfl)⟩
  ·obtain⟨born,rfl,h⟩:=h;exact⟨born,rfl,h.step (hi _ m E n ps c rfl)⟩
theorem fe.nV{P:Program}{B:Nat}{w0 w:World}{J:ae}{μ:Mem}(h:fe P B w0 w J μ){id:Nat}{o:Ob}(ho:J[id]?=some o)(hd:o≠.dead){b:Nat}(hb:fR (μ id)=some b):B≤b∧b<w.heap.size :=
 (h.obj id o ho).nV hd hb
theorem fe.update{P:Program}{B:Nat}{w0 w:World}{J:ae}{μ:Mem}{w':World}{J':ae}{μ':Mem}(hS:fe P B w0 w J μ)(id:Nat)(row:Option Nat)
  (hg:w.grownBy w' row)
  (bT:∀ b,row=some b→∃ o,J[id]?=some o∧o≠.dead∧fR (μ id)=some b)
  (hlen:J.length≤J'.length)
  (hσ:∀ j,j≠id→J'[j]?=J[j]?)
  (hμ:∀ j,j≠id→μ' j=μ j)
  (ik:∀ b,fR (μ' id)=some b→(∃ o,J[id]?=some o∧o≠.dead∧fR (μ id)=some b)∨w.heap.size≤b)
  (qd:∀ b off v o,J[id]?=some o→o≠.dead→fR (μ id)=some b→w.cell? ⟨b,off,none⟩=some v→¬ wr J μ b off →
   w'.cell? ⟨b,off,none⟩=some v∧∀ o',J'[id]?=some o'→fR (μ' id)=some b→¬ o'.WT off)
  (N0:∀ T cs,J[id]?=some (.box T cs)→(∃ cs',J'[id]?=some (.box T cs'))∧μ' id=μ id)
  (Ii:∀ K E es,J[id]?=some (.map K E es)→(∃ E' es',J'[id]?=some (.map K E' es'))∧μ' id=μ id∧sa w J μ w' J' μ' id)
  (hrg:∀ E sz by' g' sh xs,id<J.length→J'[id]?=some (.row E sz by' g' sh xs)→∃ g sh0 xs0,J[id]?=some (.row E sz by' g sh0 xs0)∧g≤g'∧(g=g'→xs0.length=xs.length∧μ' id=μ id))
  (cK:ky w J μ w' J' μ'→∀ o,J'[id]?=some o→uL P B w' J' μ' (μ' id) o)
  (Yv:∀ st m E n ps c,J[id]?=some (.iter st m E n ps c)→(∃ ps' c',J'[id]?=some (.iter st m E n ps' c'))∧μ' id=μ id:=by intro _ _ _ _ _ _ h;simp_all) :
  fe P B w0 w' J' μ'∧ky w J μ w' J' μ':=by
 have hp:ky w J μ w' J' μ':=by
  refine⟨fun b off v hc hw=>?_,hlen,fun j T cs hj=>?_,fun j K E es hj=>?_,fun j st m E n ps c hj=>?_,fun j E sz by' g' sh xs jr hj=>?_⟩
  ·have cM:=World.block_lt_of_cell? w _ hc;refine⟨?_,?_⟩
   ·by_cases hb:some b=row
    ·obtain⟨o,h1,h2,h3⟩:=bT b hb.symm;exact(qd b off v o h1 h2 h3 hc hw).1
    ·exact hg.cell hc hb
   ·rintro⟨j,oj,hj,K4,hwj⟩
    by_cases nz:j=id
    ·subst nz;rcases ik b K4 with⟨o,h1,h2,h3⟩ | h
     ·exact(qd b off v o h1 h2 h3 hc hw).2 oj hj K4 hwj
     ·exact absurd cM (Nat.not_lt.2 h)
    ·rw[hσ j nz]at hj;rw[hμ j nz]at K4;exact hw ⟨j,oj,hj,K4,hwj⟩
  ·by_cases nz:j=id
   ·subst nz;exact N0 T cs hj
   ·exact⟨⟨cs,by rw[hσ j nz];exact hj⟩,hμ j nz⟩
  ·by_cases nz:j=id
   ·subst nz;exact⟨(Ii K E es hj).1,(Ii K E es hj).2.1⟩
   ·exact⟨⟨E,es,by rw[hσ j nz];exact hj⟩,hμ j nz⟩
  ·by_cases nz:j=id
   ·subst nz;exact Yv st m E n ps c hj
   ·exact⟨⟨ps,c,by rw[hσ j nz];exact hj⟩,hμ j nz⟩
  ·by_cases nz:j=id
   ·subst nz;exact hrg E sz by' g' sh xs jr hj
   ·rw[hσ j nz]at hj;exact⟨g',sh,xs,hj,aq _,fun _=>⟨rfl,hμ j nz⟩⟩
 refine⟨⟨hS.below.grown hg hS.base (fun k hk=>?_),bl hS.base hg.size,fun j o hj=>?_,fun i j oi oj b hi hj Mi KW Vz K4=>?_⟩,hp⟩
 ·obtain⟨o,h1,h2,h3⟩:=bT k hk;exact(hS.nV h1 h2 h3).1
 ·by_cases nz:j=id
  ·subst nz;exact cK hp o hj
  ·rw[hσ j nz]at hj;rw[hμ j nz]
   by_cases hd:o=.dead
   ·subst hd;trivial
   ·have hblk:∀ (j:Nat) (o:Ob),J[j]?=some o→o≠.dead→j≠id→∀ b,fR (μ j)=some b→w'.heap[b]?=w.heap[b]?:=by
     intro j o hj hd nz b hb;refine hg.block b (hS.nV hj hd hb).2 fun YP=>?_;obtain⟨o2,h1,h2,h3⟩:=bT b YP.symm;exact nz (hS.sep j id o o2 b hj h1 hd h2 hb h3)
    refine(hS.obj j o hj).dY hp.dY (hblk j o hj hd nz) fun st m E n ps c ho=>?_;intro K2 E2 es2 bm ents clock h1 h2 h3
    by_cases U9:m=id
    ·subst U9;exact(Ii K2 E2 es2 h1).2.2 K2 E2 es2 bm ents clock h1 h2 h3
    ·exact sa.same (hσ m U9) (hμ m U9) (hblk m _ h1 (by simp) U9) K2 E2 es2 bm ents clock h1 h2 h3
 ·by_cases EI:i=id
  ·subst EI
   by_cases nz:j=i
   ·exact nz.symm
   ·rw[hσ j nz]at hj;rw[hμ j nz]at K4;rcases ik b Vz with⟨o,h1,h2,h3⟩ | h
    ·exact hS.sep i j o oj b h1 hj h2 KW h3 K4
    ·exact absurd (hS.nV hj KW K4).2 (Nat.not_lt.2 h)
  ·rw[hσ i EI]at hi;rw[hμ i EI]at Vz
   by_cases nz:j=id
   ·subst nz;rcases ik b K4 with⟨o,h1,h2,h3⟩ | h
    ·exact hS.sep i j oi o b hi h1 Mi h2 Vz h3
    ·exact absurd (hS.nV hi Mi Vz).2 (Nat.not_lt.2 h)
   ·rw[hσ j nz]at hj;rw[hμ j nz]at K4;exact hS.sep i j oi oj b hi hj Mi KW Vz K4
theorem fe.grown{P:Program}{B:Nat}{w0 w:World}{J:ae}{μ:Mem}{w':World}(hS:fe P B w0 w J μ)(hg:w.grownBy w' none):fe P B w0 w' J μ∧ky w J μ w' J μ:=by
 have hp:ky w J μ w' J μ:=⟨fun b off v hc hw=>⟨hg.cell hc (by simp),hw⟩,aq _,fun _ _ cs h=>⟨⟨cs,h⟩,rfl⟩,fun _ _ E es h=>⟨⟨E,es,h⟩,rfl⟩,fun _ _ _ _ _ ps c h=>⟨⟨ps,c,h⟩,rfl⟩,fun _ _ _ _ g sh xs _ h=>⟨g,sh,xs,h,aq _,fun _=>⟨rfl,rfl⟩⟩⟩;refine⟨⟨hS.below.grown hg hS.base (by simp),bl hS.base hg.size,fun j o hj=>?_,hS.sep⟩,hp⟩
 by_cases hd:o=.dead
 ·subst hd;trivial
 ·refine(hS.obj j o hj).dY hp.dY (fun b hb=>hg.block b (hS.nV hj hd hb).2 (by simp)) fun st m E n ps c ho=>?_;intro K2 E2 es2 bm ents clock h1 h2 h3;exact sa.same rfl rfl (fun b hb=>hg.block b (hS.nV h1 (by simp) hb).2 (by simp)) K2 E2 es2 bm ents clock h1 h2 h3
def oh(μ:Mem)(id:Nat)(v:Value):Mem:=fun j=>if j=id then v else μ j
theorem cX(μ:Mem)(id:Nat)(v:Value):oh μ id v id=v:=by simp[oh]
theorem ki(μ:Mem)(id:Nat)(v:Value)(j:Nat)(h:j≠id):oh μ id v j=μ j:=by simp[oh,h]
theorem th(J:ae)(o:Ob)(j:Nat)(h:j≠J.length):(J++[o])[j]?=J[j]?:=by
 rcases ft j J.length with h1 | h1
 ·rw[ag h1]
 ·have h2:J.length<j:=by omega
  rw[a7 (by simp;omega),a7 h1]
theorem gO(J:ae)(o:Ob):¬ (J[J.length]?=some o):=by simp
theorem fe.ov{P:Program}{B:Nat}{w0 w:World}{J:ae}{μ:Mem}{w':World}(hS:fe P B w0 w J μ)(o:Ob)(v:Value)(hg:w.grownBy w' none)
  (hv:∀ b,fR v=some b→w.heap.size≤b)
  (cK:ky w J μ w' (J++[o]) (oh μ J.length v)→uL P B w' (J++[o]) (oh μ J.length v) v o) :
  fe P B w0 w' (J++[o]) (oh μ J.length v)∧ky w J μ w' (J++[o]) (oh μ J.length v):=by
 refine hS.update J.length none hg (by simp) (by simp) (fun j hj=>th J o j hj) (fun j hj=>ki μ _ v j hj) ?_ ?_ ?_ ?_ ?_ ?_ (fun _ _ _ _ _ _ h=>absurd h (gO J _))
 ·intro b hb;rw[cX]at hb;exact .inr (hv b hb)
 ·intro b off u o' h;exact absurd h (gO J o')
 ·intro T cs h;exact absurd h (gO J _)
 ·intro K E es h;exact absurd h (gO J _)
 ·intro _ _ _ _ _ _ h;omega
 ·intro hp o' ho';have:o'=o:=by simpa using ho'.symm
  subst this;rw[cX];exact cK hp
inductive O where
 | t (n:Nat)
 | c (v:V)
inductive I where
 | bg (x:O)
 | pick (c a b:O)
 | box (T:Nat) (x:O)
 | alloc (T:Nat) (zs:List V)
 | build (zs:List V) (parts:List (Nat×Nat×O))
 | c6 (sz:Nat) (szs:List (Option Nat)) (xs:List O)
 | Dq (E sz by':Nat) (szs:List (Option Nat)) (xs:List O)
 | load (k:Option Nat) (a:O)
 | store (k:Nat) (szs:List (Option Nat)) (a x:O)
 | cF (x:O)
 | bin (op:BinOp) (x y:O)
 | beq (neg:Bool) (ks:List Nat) (x y:O)
 | PQ (neg:Bool) (x y:O)
 | un (op:UnOp) (x:O)
 | De (k:IntKind) (x:O)
 | Fc (x:O)
 | slice (sz:Nat) (x:O) (lo hi:Option O)
 | fN (x:O) (lo hi:Option O)
 | gi (off:Nat) (x:O)
 | idx (sz:Nat) (x i:O)
 | gY (x i:O)
 | Dw (n sz:Nat) (x i:O)
 | Sz (n:Nat) (x:O)
 | ext (k:Nat) (x:O)
 | len (str:Bool) (x:O)
 | max2 (x y:O)
 | min2 (x y:O)
 | app (E sz by':Nat) (x y:O)
 | apps (E:Nat) (x y:O)
 | mk (E sz by':Nat) (zs:List V) (l c:O)
 | kU (K E:Nat)
 | look (kd:Nat) (z:V) (ok:Bool) (m k:O)
 | qu (kd:Nat) (szs:List (Option Nat)) (m k x:O)
 | wq (x:O)
 | call (f:Nat) (args:List O)
 | jA (x:O) (args:List O)
 | LI (f:Nat) (xs:List O)
 | Bu (sz:Nat) (zs:List V) (x:O)
 | yb (kd:Nat) (m k:O)
 | rE (kd:Nat) (z:V) (m k:O)
 | rD (szs:List (Option Nat)) (m s x:O)
 | range (x:O)
 | next (x:O)
 | Gy (x:O)
 | GV (off:Nat) (x:O)
 | GU (n:Nat) (x i:O)
 | clip (sz:Nat) (x h m:O)
 | yH (x y:O)
 | Qn (E by':Nat) (l c:O)
 | stop
def tm:Value→Option V
 | .bool x=>some (.b x)
 | .int k n=>some (.i k n)
 | .string x=>if x.data.toList.length≤maxLen then some (.s x.data.toList)else none
 | .slice none 0 0=>some .nil
 | .pointer none=>some .fp
 | .map none=>some .cV
 | _=>none
def cO:Operand→Option O
 | .tmp t=>some (.t t)
 | .const v=>(tm v).map .c
 | .func f=>some (.c (.fn f []))
 | .global _=>none
def Mn:List Operand→Option (List O)
 | []=>some []
 | x::xs=>match cO x,Mn xs with
  | some y,some ys=>some (y::ys)
  | _,_=>none
def fY:List Value→Option (List V)
 | []=>some []
 | x::xs=>match tm x,fY xs with
  | some y,some ys=>some (y::ys)
  | _,_=>none
def ia(P:Program)(n:Nat):List Field→Option (List Nat)
 | []=>some []
 | f::fs=>if f.offset=n∧f.name ≠ "_" then match P.underlying f.type,ia P (n+1) fs with
   | some (.int _),some ks=>some (0::ks)
   | some .string,some ks=>some (1::ks)
   | some .bool,some ks=>some (2::ks)
   | _,_=>none
  else none
def EU(P:Program)(T:Nat):Option (List Nat) :=
 match P.underlying T with
 | some (.struct fs)=>if P.stoodInHeld T=false∧P.eqGuardType P.depth T=false then ia P 0 fs.toList else none
 | some (.array 2 e)=>if P.eqGuardType P.depth T=false∧P.cellsOf e=1 then match P.underlying e with
   | some (.int _)=>some [0,0]
   | _=>none
  else none
 | _=>none
def MR(P:Program)(T:Nat):Bool :=
 match P.underlying T with
 | some (.int _) | some .string=>true
 | _=>false
def LV(P:Program)(T:Nat):Bool :=
 match P.underlying T with
 | some .bool=>true
 | _=>false
def dO(P:Program)(T:Nat):Option Bool :=
 match P.underlying T with
 | some (.struct _) | some (.array _ _)=>some true
 | some _=>some false
 | none=>none
def pc:Nat→List (Nat×Operand)→Option (List O)
 | _,[]=>some []
 | n,(i,x)::r=>if i=n then(match cO x,pc (n+1) r with | some y,some ys=>some (y::ys) | _,_=>none)else none
def pd(places:List (Nat×Nat)):List (Nat×Operand)→Option (List (Nat×Nat×O))
 | []=>some []
 | (i,x)::r=>match places[i]?,cO x,pd places r with
  | some (off,sz),some y,some ys=>some ((off,sz,y)::ys)
  | _,_,_=>none
def placesOf(P:Program)(fs:List Field):Option (List (Nat×Nat)):=fs.mapM fun f=>(P.info? f.type).map fun i=>(f.offset,i.size)
def QH:List Nat→Option Nat
 | [1,1]=>some 4
 | [0,1,0]=>some 5
 | _=>none
def im(P:Program)(K:Nat):Option Nat :=
 match P.underlying K with
 | some (.int _)=>some 0
 | some .string=>some 1
 | some (.struct fs)=>if P.stoodInHeld K=false then(ia P 0 fs.toList).bind QH else none
 | some (.array 2 e)=>match P.underlying e with
  | some (.int _)=>if P.cellsOf e=1 then some 3 else none
  | _=>none
 | _=>none
def ja(kd:Nat)(k:V):Bool:=match kd with
 | 3=>(match k with
  | .agg [.i _ _,.i _ _]=>true
  | _=>false)
 | 4=>(match k with
  | .agg [.s _,.s _]=>true
  | _=>false)
 | 5=>(match k with
  | .agg [.i _ _,.s _,.i _ _]=>true
  | _=>false)
 | _=>k.mZ
theorem qv{kd:Nat}{k:V}(h:ja kd k=true):k.mZ=true:=by
 unfold ja at h;split at h
 ·split at h
  ·rfl
  ·simp at h
 ·split at h
  ·rfl
  ·simp at h
 ·split at h
  ·rfl
  ·simp at h
 ·exact h
theorem Nz(k:V):ja 0 k=k.mZ:=rfl
theorem Ny(k:V):ja 1 k=k.mZ:=rfl
theorem Nx(k l:IntKind)(a b:Int):ja 3 (.agg [.i k a,.i l b])=true:=rfl
theorem Nw(a b:List UInt8):ja 4 (.agg [.s a,.s b])=true:=rfl
theorem Nv(k l:IntKind)(a b:Int)(c:List UInt8):ja 5 (.agg [.i k a,.s c,.i l b])=true:=rfl
def pS:Option Operand→Option (Option O)
 | none=>some none
 | some x=>(cO x).map some
def s5:BinOp→Bool
 | .eql | .neq=>true
 | _=>false
def lD(P:Program):Nat→Nat→List (Option Nat)
 | 0,_=>[]
 | d+1,T=>match P.underlying T with
  | some (.slice e)=>[some (P.cellsOf e)]
  | some (.struct fs)=>fs.toList.flatMap fun f=>lD P d f.type
  | _=>[none]
def kT:Option Nat→V→V
 | some sz,.nil=>.sl sz []
 | _,.lit sz xs=>.sl sz xs
 | _,x=>x
def bW:List (Option Nat)→List V→List V
 | s::ss,x::xs=>kT s x::bW ss xs
 | _,xs=>xs
def cz(szs:List (Option Nat)):V→V
 | .agg xs=>.agg (bW szs xs)
 | y=>y
def zeroV(P:Program)(E:Nat):Option V :=
 match P.info? E with
 | some t=>match t.zero with
  | some (.agg cs)=>(fY cs.toList).map fun zs=>.agg (bW (lD P 6 E) zs)
  | some z=>tm z
  | none=>none
 | none=>none
def CC:Value→Bool
 | .int .u8 0=>true
 | _=>false
def iB(P:Program)(c:Call):Option I :=
 match c.callee,c.args.toList,c.argTypes.toList with
 | .builtin .len,[x],[T]=>match P.underlying T,cO x with
  | some .string,some x=>some (.len true x)
  | some (.slice _),some x=>some (.len false x)
  | some (.map _ _),some x=>some (.wq x)
  | _,_=>none
 | .builtin .max,[x,y],_=>match cO x,cO y with
  | some x,some y=>some (.max2 x y)
  | _,_=>none
 | .builtin .min,[x,y],_=>match cO x,cO y with
  | some x,some y=>some (.min2 x y)
  | _,_=>none
 | .builtin .append,[x,y],[T,U]=>match P.underlying T,cO x,cO y with
  | some (.slice E),some x,some y=>match P.info? E with
   | some t=>match t.zero with
    | some z=>if T=U then(if 0<t.size∧z.cells.size=t.size then some (.app E t.size t.bytes x y)else none)
     else match P.underlying U with
      | some .string=>if t.size=1∧t.bytes=1∧CC z=true then some (.apps E x y)else none
      | _=>none
    | none=>none
   | none=>none
  | _,_,_=>none
 | .builtin .delete,[m,k],[T,K']=>match P.underlying T,cO m,cO k with
  | some (.map K _),some m,some k=>if K'=K then(im P K).map fun kd=>.yb kd m k else none
  | _,_,_=>none
 | .builtin .clear,[x],[T]=>match P.underlying T,cO x with
  | some (.slice E),some x=>match P.info? E with
   | some t=>match t.zero with
    | some z=>if 0<t.size∧z.cells.size=t.size then(fY z.cells.toList).map fun zs=>.Bu t.size (bW (lD P 6 E) zs) x else none
    | none=>none
   | none=>none
  | _,_=>none
 | .value (.func f),args,_=>match P.funcs[f]? with
  | some fn=>if fn.body.isSome∧fn.name ≠ "runtime.NumGoroutine" then(Mn args).map (.call f)
   else if fn.body.isNone∧fn.name = "math/bits.Sub64" ∧ fn.origin = "" then match Mn args with
    | some [x,y,.c (.i .u64 0)]=>some (.yH x y)
    | _=>none
   else none
  | none=>none
 | .value (.tmp t),args,_=>(Mn args).map (.jA (.t t))
 | _,_,_=>none
def Uw:Option Nat→Nat→List O→Bool
 | some 23,_,[.t 18,.t 20,.t 22]=>true
 | some 46,_,[.t 45]=>true
 | some 53,2,[.t 52]=>true
 | some 79,11,[.t 78]=>true
 | _,_,_=>false
def Ga:BinOp→Bool
 | .neq=>true
 | _=>false
def compile(P:Program)(o:Oper):Option I :=
 match o.op with
 | .move x | .assign x=>(cO x).map .bg
 | .pick c a b=>match cO c,cO a,cO b with
  | some c,some a,some b=>some (.pick c a b)
  | _,_,_=>none
 | .box T x=>(cO x).map (.box T)
 | .alloc T=>match P.info? T with
  | some t=>match t.zero with
   | some z=>(fY z.cells.toList).map (.alloc T)
   | none=>none
  | none=>none
 | .build T parts=>match P.info? T,P.underlying T with
  | some t,some (.struct fs)=>match t.zero with
   | some z=>match fY z.cells.toList,placesOf P fs.toList with
    | some zs,some places=>(pd places parts.toList).map (.build zs)
    | _,_=>none
   | none=>none
  | some t,some (.array n E)=>match t.zero,P.info? E with
   | some z,some te=>match fY z.cells.toList with
    | some zs=>(pd ((List.range n).map fun i=>(i*te.size,te.size)) parts.toList).map (.build zs)
    | none=>none
   | _,_=>none
  | _,_=>none
 | .buildSlice T len parts=>match P.underlying T with
  | some (.slice E)=>match P.info? E with
   | some t=>match t.zero with
    | some z=>if parts.size=len∧0<t.size∧z.cells.size=t.size∧len*t.size≤2^24 then(pc 0 parts.toList).map fun xs=>if Uw o.dst t.size xs=true then .Dq E t.size t.bytes (lD P 6 E) xs else .c6 t.size (lD P 6 E) xs else none
    | none=>none
   | none=>none
  | _=>none
 | .load T a=>match cO a,dO P T,P.info? T with
  | some a,some true,some t=>some (.load (some t.size) a)
  | some a,some false,some _=>some (.load none a)
  | _,_,_=>none
 | .store T a x=>match cO a,cO x,P.info? T with
  | some a,some x,some t=>some (.store t.size (lD P 6 T) a x)
  | _,_,_=>none
 | .nilCheck x=>(cO x).map .cF
 | .binOp op T x y _=>match cO x,cO y with
  | some x,some y=>if s5 op then(if MR P T then some (.bin op x y)else if LV P T then some (.PQ (Ga op) x y)else(EU P T).map fun ks=>.beq (Ga op) ks x y)else some (.bin op x y)
  | _,_=>none
 | .unOp op _ x=>(cO x).map (.un op)
 | .convert s d x=>match P.underlying s,P.underlying d,cO x with
  | some (.int _),some (.int k),some x=>some (.De k x)
  | some (.slice e),some .string,some x=>match P.underlying e with
   | some (.int .u8)=>some (.Fc x)
   | _=>none
  | _,_,_=>none
 | .slice T x lo hi none=>match P.underlying T,cO x,pS lo,pS hi with
  | some .string,some x,some lo,some hi=>some (.fN x lo hi)
  | some (.slice E),some x,some lo,some hi=>match P.info? E with
   | some t=>some (.slice t.size x lo hi)
   | none=>none
  | some (.array n E),some x,some none,some none=>match P.info? E with
   | some t=>if t.size=1∧n≤1024 then some (.Sz n x)else none
   | none=>none
  | _,_,_,_=>none
 | .slice T x none (some h) (some m)=>match P.underlying T,cO x,cO h,cO m with
  | some (.slice E),some x,some h,some m=>match P.info? E with
   | some t=>some (.clip t.size x h m)
   | none=>none
  | _,_,_,_=>none
 | .fieldAddr T x f=>match P.underlying T,cO x with
  | some (.struct fs),some x=>match fs[f]? with
   | some fd=>match P.info? fd.type with
    | some t=>if t.size=0 then none else some (.gi fd.offset x)
    | none=>none
   | none=>none
  | _,_=>none
 | .indexAddr T x i=>match P.underlying T,cO x,cO i with
  | some (.slice E),some x,some i=>match P.info? E with
   | some t=>some (.idx t.size x i)
   | none=>none
  | some (.array n E),some x,some i=>match P.info? E with
   | some t=>some (.Dw n t.size x i)
   | none=>none
  | _,_,_=>none
 | .index T x i=>match P.underlying T,cO x,cO i with
  | some .string,some x,some i=>some (.gY x i)
  | some (.array n E),some x,some i=>if dO P E=some false∧P.cellsOf E=1 then some (.GU n x i)else none
  | _,_,_=>none
 | .extract t k=>(cO t).map (.ext k)
 | .field T x f=>match P.underlying T,cO x with
  | some (.struct fs),some x=>match fs[f]? with
   | some fd=>if dO P fd.type=some false then some (.GV fd.offset x)else none
   | none=>none
  | _,_=>none
 | .makeSlice T l c=>match P.underlying T with
  | some (.slice E)=>match P.info? E with
   | some t=>match t.zero,cO l,cO c with
    | some (.slice none 0 0),some l,some c=>if t.size=1 then some (.Qn E t.bytes l c)else none
    | some z,some l,some c=>if 0<t.size∧z.cells.size=t.size then(fY z.cells.toList).map fun zs=>.mk E t.size t.bytes (bW (lD P 6 E) zs) l c else none
    | _,_,_=>none
   | none=>none
  | _=>none
 | .lookup T m k ok=>match P.underlying T,cO m,cO k with
  | some (.map K E),some m,some k=>match im P K,zeroV P E with
   | some kd,some z=>some (.look kd z ok m k)
   | _,_=>none
  | _,_,_=>none
 | .mapUpdate T m k x=>match P.underlying T,cO m,cO k,cO x with
  | some (.map K E),some m,some k,some x=>(im P K).map fun kd=>.qu kd (lD P 6 E) m k x
  | _,_,_,_=>none
 | .mapEntry T m k=>match P.underlying T,cO m,cO k with
  | some (.map K E),some m,some k=>match im P K,zeroV P E with
   | some kd,some z=>some (.rE kd z m k)
   | _,_=>none
  | _,_,_=>none
 | .entryStore T m s x=>match P.underlying T,cO m,cO s,cO x with
  | some (.map _ E),some m,some s,some x=>some (.rD (lD P 6 E) m s x)
  | _,_,_,_=>none
 | .range T x=>match P.underlying T,cO x with
  | some (.map _ _),some x=>some (.range x)
  | _,_=>none
 | .next x false=>(cO x).map .next
 | .entry x=>(cO x).map .Gy
 | .makeMap T none=>match P.underlying T with
  | some (.map K E)=>some (.kU K E)
  | _=>none
 | .call c=>iB P c
 | .makeFunc (.func f) first caps=>if first.size=0 then(Mn caps.toList).map (.LI f)else none
 | _=>none
def ev(fr:List V):O→V
 | .t n=>fr.getD n .u
 | .c v=>v
def dL:V→List V
 | .agg xs=>xs
 | x=>[x]
def eL(J:ae):V→Bool
 | .u | .agg _ | .fa _ | .it _ | .r7 _ _=>false
 | .own id g=>match J[id]? with
  | some (.row _ _ _ g' _ _)=>g==g'
  | _=>false
 | .sub id g _ _=>match J[id]? with
  | some (.row _ _ _ g' _ _)=>g==g'
  | _=>false
 | .rp id g _ _=>match J[id]? with
  | some (.row _ _ _ g' _ _)=>g==g'
  | _=>false
 | _=>true
def eO(J:ae)(x:V):Bool:=match x with
 | .agg xs=>xs.all (eL J)
 | x=>eL J x
def qh(cells:List V):List (Nat×Nat×List V)→Option (List V)
 | []=>some cells
 | (off,sz,x)::r=>if x.length=sz∧off+sz≤cells.length then qh (cells.take off++x++cells.drop (off+sz)) r else none
def Ea:List V→List V→Option Bool
 | [.i k a,.i l b],[.i k' a',.i l' b']=>if k=k'∧l=l' then some (a==a'&&b==b')else none
 | _,_=>none
def vF:List V→List V→Option Bool
 | [.s a,.s b],[.s a',.s b']=>some (a==a'&&b==b')
 | _,_=>none
def BF:List V→List V→Option Bool
 | [.i k a,.s b,.i l c],[.i k' a',.s b',.i l' c']=>if k=k'∧l=l' then some (a==a'&&(b==b'&&c==c'))else none
 | _,_=>none
def bI:Nat→V→V→Option Bool
 | 0,.i k a,.i k' b=>if k=k' then some (a==b)else none
 | 1,.s a,.s b=>some (a==b)
 | 2,.b a,.b b=>some (a==b)
 | 3,.agg xs,.agg ys=>Ea xs ys
 | 4,.agg xs,.agg ys=>vF xs ys
 | 5,.agg xs,.agg ys=>BF xs ys
 | _,_,_=>none
def dM:List Nat→List V→List V→Option Bool
 | [],[],[]=>some true
 | k::ks,x::xs,y::ys=>match bI k x y,dM ks xs ys with
  | some p,some q=>some (p&&q)
  | _,_=>none
 | _,_,_=>none
def eU(op:BinOp):V→V→Option (Prop×V)
 | .i k a,.i k' b=>match op with
  | .shl=>some (0≤b,.i k (k.wrap (a*2^(min b.toNat k.bits))))
  | .shr=>some (0≤b,.i k (a.fdiv (2^(min b.toNat k.bits))))
  | _=>if k=k' then match op with
   | .add=>some (True,.i k (k.wrap (a+b)))
   | .sub=>some (True,.i k (k.wrap (a - b)))
   | .mul=>some (True,.i k (k.wrap (a*b)))
   | .quo=>some (b≠0,.i k (k.wrap (a.tdiv b)))
   | .rem=>some (b≠0,.i k (a.tmod b))
   | .and=>some (True,.i k (k.wrap ((BitVec.ofInt k.bits a &&& BitVec.ofInt k.bits b).toNat:Int)))
   | .or=>some (True,.i k (k.wrap ((BitVec.ofInt k.bits a ||| BitVec.ofInt k.bits b).toNat:Int)))
   | .xor=>some (True,.i k (k.wrap ((BitVec.ofInt k.bits a ^^^ BitVec.ofInt k.bits b).toNat:Int)))
   | .eql=>some (True,.b (a==b))
   | .neq=>some (True,.b (a != b))
   | .lss=>some (True,.b (a<b))
   | .leq=>some (True,.b (a≤b))
   | .gtr=>some (True,.b (b<a))
   | .geq=>some (True,.b (b≤a))
   | _=>none
   else none
 | .s a,.s b=>match op with
  | .add=>some (a.length+b.length≤maxLen,.s (a++b))
  | .eql=>some (True,.b (a==b))
  | .neq=>some (True,.b (!(a==b)))
  | .lss=>some (True,.b (Op.bytesLess a b))
  | .leq=>some (True,.b (Op.bytesLess a b||a==b))
  | .gtr=>some (True,.b (!(Op.bytesLess a b||a==b)))
  | .geq=>some (True,.b (!Op.bytesLess a b))
  | _=>none
 | _,_=>none
def rowsOf(J:ae)(sz:Nat):V→Option (List (List V))
 | .nil=>some []
 | .lit sz' xs=>if sz'=sz then some xs else none
 | .sl sz' xs=>if sz'=sz then some xs else none
 | .own id g=>match J[id]? with
  | some (.row _ sz' _ g' _ xs)=>if g=g'∧sz'=sz then some xs else none
  | _=>none
 | .sub id g lo hi=>match J[id]? with
  | some (.row _ sz' _ g' _ xs)=>if g=g'∧sz'=sz then some ((xs.drop lo).take (hi - lo))else none
  | _=>none
 | _=>none
def nr:List V→Option UInt8
 | [.i .u8 n]=>some (UInt8.ofNat n.toNat)
 | _=>none
def bytesOf:List (List V)→Option (List UInt8)
 | []=>some []
 | r::rs=>match nr r,bytesOf rs with
  | some x,some xs=>some (x::xs)
  | _,_=>none
def c4(kd:Nat)(k:V):List (V×V)→Nat→Option (Option (Nat×V))
 | [],_=>some none
 | (a,x)::es,i=>match bI kd k a with
  | some true=>some (some (i,x))
  | some false=>c4 kd k es (i+1)
  | none=>none
def bX(J:ae)(kd:Nat)(m k:V):Option (Option (Nat×V)) :=
 match m with
 | .cV=>some none
 | .mp id=>match J[id]? with
  | some (.map _ _ es)=>c4 kd k es 0
  | _=>none
 | _=>none
def aJ(fr:List V)(J:ae):I→Option (Prop×V)
 | .bg x=>some (True,ev fr x)
 | .pick c a b=>match ev fr c with
  | .b x=>some (True,match ev fr a,ev fr b with
   | .b p,.b q=>.b (bif x then p else q)
   | p,q=>bif x then p else q)
  | _=>none
 | .build zs parts=>match qh zs (parts.map fun(off,sz,x)=>(off,sz,dL (ev fr x)))with
  | some cs=>some (∀ p∈parts,eO J (ev fr p.2.2)=true,.agg cs)
  | none=>none
 | .c6 sz szs xs=>some ((∀ x∈xs,eO J (ev fr x)=true)∧∀ r∈xs.map fun x=>bW szs (dL (ev fr x)),r.length=sz∧∀ c∈r,c.pure=true,.lit sz (xs.map fun x=>bW szs (dL (ev fr x))))
 | .load k a=>match ev fr a with
  | .ptr id off=>match J[id]? with
   | some (.box _ cs)=>match k with
    | none=>match cs[off]? with
     | some x=>some (True,x)
     | none=>none
    | some n=>some (off+n≤cs.length,.agg ((cs.drop off).take n))
   | _=>none
  | .ep _ xs i off=>match k with
   | none=>match eV xs i off with
    | some x=>some (True,x)
    | none=>none
   | some n=>some (off+n≤(xs.getD i []).length,.agg (((xs.getD i []).drop off).take n))
  | .rp id g i off=>match J[id]? with
   | some (.row _ _ _ g' _ xs)=>if g=g' then match k with
    | none=>match eV xs i off with
     | some x=>some (True,x)
     | none=>none
    | some n=>some (off+n≤(xs.getD i []).length,.agg (((xs.getD i []).drop off).take n))
    else none
   | _=>none
  | _=>none
 | .cF x=>match ev fr x with
  | .ptr id off=>some (True,.ptr id off)
  | .ep sz xs i off=>some (True,.ep sz xs i off)
  | .rp id g i off=>match J[id]? with
   | some (.row _ _ _ g' _ _)=>if g=g' then some (True,.rp id g i off)else none
   | _=>none
  | _=>none
 | .bin op x y=>eU op (ev fr x) (ev fr y)
 | .beq neg ks x y=>match ev fr x,ev fr y with
  | .agg xs,.agg ys=>match dM ks xs ys with
   | some r=>some (True,.b (bif neg then !r else r))
   | none=>none
  | _,_=>none
 | .PQ neg x y=>match ev fr x,ev fr y with
  | .b p,.b q=>some (True,.b (bif neg then !(p==q)else(p==q)))
  | _,_=>none
 | .un op x=>match op,ev fr x with
  | .not,.b p=>some (True,.b (!p))
  | .neg,.i k n=>some (True,.i k (k.wrap (0 - n)))
  | _,_=>none
 | .De k x=>match ev fr x with
  | .i _ n=>some (True,.i k (k.wrap n))
  | _=>none
 | .Fc x=>match rowsOf J 1 (ev fr x)with
  | some xs=>match bytesOf xs with
   | some l=>some (True,.s l)
   | none=>none
  | none=>none
 | .slice sz x lo hi =>
  let n:Option Nat:=match ev fr x with
   | .nil=>some 0
   | .lit sz' xs=>if sz'=sz then some xs.length else none
   | .sl sz' xs=>if sz'=sz then some xs.length else none
   | .own id g=>match J[id]? with
    | some (.row _ sz' _ g' _ xs)=>if g=g'∧sz'=sz then some xs.length else none
    | _=>none
   | _=>none
  match n with
  | none=>none
  | some n =>
   let l:Option Int:=match lo with
    | none=>some 0
    | some x=>match ev fr x with
     | .i _ a=>some a
     | _=>none
   let h:Option Int:=match hi with
    | none=>some n
    | some x=>match ev fr x with
     | .i _ a=>some a
     | _=>none
   match l,h with
   | some l,some h=>match ev fr x with
    | .nil=>some (l=0∧h=0,.nil)
    | .lit _ xs=>some (0≤l∧l≤h∧h≤n,.sl sz ((xs.drop l.toNat).take (h.toNat - l.toNat)))
    | .sl _ xs=>some (0≤l∧l≤h∧h≤n,.sl sz ((xs.drop l.toNat).take (h.toNat - l.toNat)))
    | .own id g=>some (0≤l∧l≤h∧h≤n,.sub id g l.toNat h.toNat)
    | _=>none
   | _,_=>none
 | .fN x lo hi=>match ev fr x with
  | .s a =>
   let l:Option Int:=match lo with
    | none=>some 0
    | some x=>match ev fr x with
     | .i _ a=>some a
     | _=>none
   let h:Option Int:=match hi with
    | none=>some a.length
    | some x=>match ev fr x with
     | .i _ a=>some a
     | _=>none
   match l,h with
   | some l,some h=>some (0≤l∧l≤h∧h≤a.length,.s ((a.drop l.toNat).take (h.toNat - l.toNat)))
   | _,_=>none
  | _=>none
 | .gi off x=>match ev fr x with
  | .ptr id o=>some (True,.ptr id (o+off))
  | .ep sz xs i o=>some (True,.ep sz xs i (o+off))
  | .rp id g i o=>match J[id]? with
   | some (.row _ _ _ g' _ _)=>if g=g' then some (True,.rp id g i (o+off))else none
   | _=>none
  | _=>none
 | .idx sz x i=>match ev fr i with
  | .i _ n=>match ev fr x with
   | .sl sz' xs=>if sz'=sz then some (0≤n∧n<xs.length,.ep sz xs n.toNat 0)else none
   | .lit sz' xs=>if sz'=sz then some (0≤n∧n<xs.length,.ep sz xs n.toNat 0)else none
   | .own id g=>match J[id]? with
    | some (.row _ sz' _ g' _ xs)=>if g=g'∧sz'=sz then some (0≤n∧n<xs.length,.rp id g n.toNat 0)else none
    | _=>none
   | .sub id g lo hi=>match J[id]? with
    | some (.row _ sz' _ g' _ _)=>if g=g'∧sz'=sz then some (0≤n∧n<(hi - lo:Nat),.rp id g (lo+n.toNat) 0)else none
    | _=>none
   | .r7 id m=>if sz=1 then some (0≤n∧n<m,.ptr id n.toNat)else none
   | _=>none
  | _=>none
 | .Dw n sz x i=>match ev fr x,ev fr i with
  | .ptr id o,.i _ k=>some (0≤k∧k<n,.ptr id (o+k.toNat*sz))
  | _,_=>none
 | .Sz n x=>match ev fr x with
  | .ep _ xs i 0=>if(xs.getD i []).length=n then some (n≤1024,.sl 1 ((xs.getD i []).map fun c=>[c]))else none
  | _=>none
 | .gY x i=>match ev fr x,ev fr i with
  | .s l,.i _ n=>some (0≤n∧n<l.length,.i .u8 (l.getD n.toNat 0).toNat)
  | _,_=>none
 | .ext k x=>match ev fr x with
  | .fa xs=>match xs[k]? with
   | some y=>some (True,y)
   | none=>none
  | _=>none
 | .len true x=>match ev fr x with
  | .s l=>some (True,.i .i64 l.length)
  | _=>none
 | .len false x=>match ev fr x with
  | .nil=>some (True,.i .i64 0)
  | .lit _ xs=>some (True,.i .i64 xs.length)
  | .sl _ xs=>some (True,.i .i64 xs.length)
  | .own id g=>match J[id]? with
   | some (.row _ _ _ g' _ xs)=>if g=g' then some (True,.i .i64 xs.length)else none
   | _=>none
  | .sub id g lo hi=>match J[id]? with
   | some (.row _ _ _ g' _ _)=>if g=g' then some (True,.i .i64 (hi - lo:Nat))else none
   | _=>none
  | .r7 _ n=>some (True,.i .i64 n)
  | _=>none
 | .wq x=>match ev fr x with
  | .cV=>some (True,.i .i64 0)
  | .mp id=>match J[id]? with
   | some (.map _ _ es)=>some (True,.i .i64 es.length)
   | _=>none
  | _=>none
 | .look kd z ok m k=>match bX J kd (ev fr m) (ev fr k)with
  | some none=>some (ja kd (ev fr k)=true,if ok then .fa [z,.b false]else z)
  | some (some (_,x))=>some (ja kd (ev fr k)=true,if ok then .fa [x,.b true]else x)
  | none=>none
 | .max2 x y=>match ev fr x,ev fr y with
  | .i k a,.i _ b=>some (True,.i k (if a<b then b else a))
  | _,_=>none
 | .min2 x y=>match ev fr x,ev fr y with
  | .i k a,.i _ b=>some (True,.i k (if b<a then b else a))
  | _,_=>none
 | .LI f xs=>some (True,.fn f (xs.map (ev fr)))
 | .GV off x=>match ev fr x with
  | .agg xs=>match xs[off]? with
   | some y=>some (True,y)
   | none=>none
  | _=>none
 | .GU n x i=>match ev fr x,ev fr i with
  | .agg xs,.i _ k=>some (0≤k∧k<n∧xs.length=n,xs.getD k.toNat .u)
  | _,_=>none
 | .yH x y=>match ev fr x,ev fr y with
  | .i .u64 p,.i .u64 q=>some (0≤p∧0≤q∧q<18446744073709551616,.fa [.i .u64 ((p+18446744073709551616 - q) % 18446744073709551616),.i .u64 (if p<q then 1 else 0)])
  | _,_=>none
 | .clip sz x h m=>match ev fr h,ev fr m with
  | .i _ p,.i _ q=>match ev fr x with
   | .sl sz' xs=>if sz'=sz then some (0≤p∧p≤q∧q≤xs.length,.sl sz (xs.take p.toNat))else none
   | _=>none
  | _,_=>none
 | .Gy x=>match ev fr x with
  | .it j=>match J[j]? with
   | some (.iter false m E n _ (some c))=>match J[m]? with
    | some (.map _ E' es)=>if E'=E∧es.length=n then match es[c]? with
     | some (k,y)=>some (True,.fa [k,y])
     | none=>none
     else none
    | _=>none
   | _=>none
  | _=>none
 | _=>none
def r9(E sz by':Nat)(J:ae)(x:V)(ys:List (List V)):Option (Prop×V×ae) :=
 match x with
 | .nil=>some (ys.length*by'≤2^47∧ys.length≤maxLen,.own J.length 0,J++[.row E sz by' 0 false ys])
 | .lit sz' xs=>if sz'=sz then some ((xs.length+ys.length)*by'≤2^47∧xs.length+ys.length≤maxLen,
   if ys.isEmpty then .lit sz xs else .own J.length 0,if ys.isEmpty then J else J++[.row E sz by' 0 false (xs++ys)])else none
 | .own id g=>match J[id]? with
  | some (.row E' sz' by2 g' sh xs)=>if g=g'∧E=E'∧sz=sz'∧by'=by2 then
    some ((xs.length+ys.length)*by'≤2^47∧xs.length+ys.length≤maxLen,.own id (g+1),J.set id (.row E sz by' (g+1) sh (xs++ys)))
   else none
  | _=>none
 | .sub id g lo hi=>match J[id]? with
  | some (.row E' sz' by2 g' sh xs)=>if g=g'∧E=E'∧sz=sz'∧by'=by2∧lo=0∧sh=false then
    some (hi≤xs.length∧(hi+ys.length)*by'≤2^47∧hi+ys.length≤maxLen,.own id (g+1),J.set id (.row E sz by' (g+1) false (xs.take hi++ys)))
   else none
  | _=>none
 | _=>none
def cN(l:List UInt8):List (List V):=l.map fun c=>[V.i .u8 c.toNat]
def bC(fr:List V)(J:ae):I→Option (Prop×V×ae)
 | .box T x=>some (eO J (ev fr x)=true,.ptr J.length 0,J++[.box T (dL (ev fr x))])
 | .alloc T zs=>some (True,.ptr J.length 0,J++[.box T zs])
 | .store k szs a x=>match ev fr a with
  | .ptr id off=>match J[id]? with
   | some (.box T cs)=>some (eO J (ev fr x)=true∧(dL (ev fr x)).length=k∧off+k≤cs.length,.u,J.set id (.box T (cs.take off++dL (ev fr x)++cs.drop (off+k))))
   | _=>none
  | .rp id g i off=>match J[id]? with
   | some (.row E sz by' g' sh xs)=>if g=g'∧sh=false then
     some (eO J (ev fr x)=true∧(∀ c∈bW szs (dL (ev fr x)),c.pure=true)∧(dL (ev fr x)).length=k∧off+k≤sz∧i<xs.length,.u,
      J.set id (.row E sz by' g sh (xs.set i ((xs.getD i []).take off++bW szs (dL (ev fr x))++(xs.getD i []).drop (off+k)))))
    else none
   | _=>none
  | _=>none
 | .app E sz by' x y=>match rowsOf J sz (ev fr y)with
  | some ys=>r9 E sz by' J (ev fr x) ys
  | none=>none
 | .apps E x y=>match ev fr y with
  | .s l=>r9 E 1 1 J (ev fr x) (cN l)
  | _=>none
 | .mk E sz by' zs l c=>match ev fr l,ev fr c with
  | .i _ n,.i _ m=>some (0≤n∧(n=m∨n=0)∧0≤m∧m*by'≤2^48∧m≤maxLen∧(∀ z∈zs,z.pure=true),.own J.length 0,J++[.row E sz by' 0 false (List.replicate n.toNat zs)])
  | _,_=>none
 | .kU K E=>some (True,.mp J.length,J++[.map K E []])
 | .Bu sz zs x=>match ev fr x with
  | .sub id g lo hi=>match J[id]? with
   | some (.row E sz' by' g' sh xs)=>if g=g'∧sz'=sz∧sh=false then
     some (∀ z∈zs,z.pure=true,.fa [],J.set id (.row E sz' by' g' sh (xs.take lo++List.replicate (hi - lo) zs++xs.drop hi)))
    else none
   | _=>none
  | _=>none
 | .Dq E sz by' szs xs=>some ((∀ x∈xs,eO J (ev fr x)=true)∧∀ r∈xs.map fun x=>bW szs (dL (ev fr x)),r.length=sz∧∀ c∈r,c.pure=true,.own J.length 0,J++[.row E sz by' 0 false (xs.map fun x=>bW szs (dL (ev fr x)))])
 | .qu kd szs m k x =>
  let xv:=cz szs (ev fr x)
  match ev fr m with
  | .mp id=>match J[id]? with
   | some (.map K E es)=>match c4 kd (ev fr k) es 0 with
    | some none=>some (ja kd (ev fr k)=true∧xv.gx=true,.u,J.set id (.map K E (es++[(ev fr k,xv)])))
    | some (some (i,_))=>some (ja kd (ev fr k)=true∧xv.gx=true,.u,J.set id (.map K E (es.set i (ev fr k,xv))))
    | none=>none
   | _=>none
  | _=>none
 | .yb kd m k=>match ev fr m with
  | .mp id=>match J[id]? with
   | some (.map K E es)=>match c4 kd (ev fr k) es 0 with
    | some none=>some (ja kd (ev fr k)=true,.fa [],J)
    | some (some (i,_))=>some (ja kd (ev fr k)=true,.fa [],J.set id (.map K (E+1) (es.eraseIdx i)))
    | none=>none
   | _=>none
  | _=>none
 | .rE kd z m k=>match ev fr m with
  | .mp id=>match J[id]? with
   | some (.map K E es)=>match c4 kd (ev fr k) es 0 with
    | some none=>some (ja kd (ev fr k)=true∧z.gx=true,.fa [z,.it J.length],J.set id (.map K E (es++[(ev fr k,z)]))++[.iter true id E (es.length+1) [] (some es.length)])
    | some (some (i,x))=>some (ja kd (ev fr k)=true,.fa [x,.it J.length],J++[.iter true id E es.length [] (some i)])
    | none=>none
   | _=>none
  | _=>none
 | .rD szs m s x =>
  let xv:=cz szs (ev fr x)
  match ev fr m,ev fr s with
  | .mp id,.it j=>match J[id]?,J[j]? with
   | some (.map K E es),some (.iter true id' E' _ _ (some c))=>if id'=id∧E'=E then match es[c]? with
    | some (k,_)=>some (xv.gx=true,.u,J.set id (.map K E (es.set c (k,xv))))
    | none=>none
    else none
   | _,_=>none
  | _,_=>none
 | .range x=>match ev fr x with
  | .mp id=>match J[id]? with
   | some (.map _ E es)=>some (True,.it J.length,J++[.iter false id E es.length (List.range es.length) none])
   | _=>none
  | _=>none
 | .Qn E by' l c=>match ev fr l,ev fr c with
  | .i _ n,.i _ m=>some (n=m∧0≤n∧n*by'≤2^48∧n≤maxLen,.r7 J.length n.toNat,J++[.box E (List.replicate n.toNat .nil)])
  | _,_=>none
 | _=>none
def wo(J:ae)(x:V):Option (Nat×Nat×Nat×Nat×List Nat) :=
 match x with
 | .it j=>match J[j]? with
  | some (.iter false m E n ps _)=>match J[m]? with
   | some (.map _ E' es)=>if E'=E∧es.length=n then some (j,m,E,n,ps)else none
   | _=>none
  | _=>none
 | _=>none
end Go.Pm

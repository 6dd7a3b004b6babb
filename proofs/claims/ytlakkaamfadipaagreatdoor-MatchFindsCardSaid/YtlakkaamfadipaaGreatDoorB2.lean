/- A part of a proof; the claim's last text says of what. -/
import Derived.Calls
import Derived.Below
import Derived.Laws.AppendOwn
import Derived.Laws.OwnMore
import Derived.Lib.LaidTab
set_option linter.all false
namespace Go
def Ag.{u}:=@List.getLast?_concat.{u}
def BT.{u}:=@bne_eq_false_iff_eq.{u}
def BU.{u}:=@List.replicate_succ.{u}
def BV.{u}:=@List.perm_iff_count.{u}
def BW.{u}:=@List.getElem_of_mem.{u}
def BX.{u}:=@Array.getElem?_push.{u}
def Bh.{u}:=@List.take_left'.{u}
def Bi.{u}:=@List.takeWhile_append_of_pos.{u}
def Bj.{u}:=@List.idxOf_cons.{u}
def Bk:=@Int.natCast_add
def Bl:=@Int.ediv_nonneg
def Bm.{u,v}:=@Except.ok.injEq.{u,v}
def Bn.{u}:=@Array.getElem?_setIfInBounds.{u}
def C8:=@UInt8.toNat_ofNat'
def C9.{u}:=@List.perm_ext_iff_of_nodup.{u}
def Ca.{u}:=@List.idxOf_lt_length_of_mem.{u}
def Cb:=@Int.add_zero
def Da.{u}:=@List.drop_take.{u}
def Db.{u}:=@List.count_eq_zero.{u}
def Dc:=@Int.tmod_eq_emod_of_nonneg
def Dd:=@Int.not_lt
def De:=@Int.mul_nonneg
def Df:=@Int.mul_le_mul
def Fb.{u}:=@List.mem_of_find?_eq_some.{u}
def Ff:=@true_or
def Fg:=@UInt8.ofNat_toNat
def Fh:=@UInt8.le_antisymm
def Fi.{u}:=@List.take_sublist.{u}
def Fj.{u}:=@List.filter_congr.{u}
def Fk:=@Iff.rfl
def Fl.{u,v,w}:=@Function.comp_def.{u,v,w}
def Gt:=@false_imp_iff
def Gu.{u,v}:=@List.filterMap_cons_some.{u,v}
def Gv.{u,v}:=@List.filterMap_cons_none.{u,v}
def Gw.{u}:=@Array.getElem?_replicate.{u}
def HG:=@false_and
def HH.{u,v}:=@Option.bind_eq_some_iff.{u,v}
def HI:=@Nat.mod_eq_of_lt
def HJ.{u}:=@List.getElem?_set_self'.{u}
def HK:=@Int.eq_ofNat_of_zero_le
def HL:=@Int.ediv_le_self
def KS:=@eq_iff_iff
def KT.{u}:=@cond_false.{u}
def KU:=@List.range_succ_eq_map
def KV.{u}:=@List.drop_eq_nil_of_le.{u}
def KW:=@Int.ofNat_le
def KX.{u}:=@Array.getElem?_push_lt.{u}
def L4.{u}:=@List.cons_lt_cons_iff.{u}
def L5:=@Bool.and_eq_false_iff
def L6.{u,v}:=@Array.getElem?_mapIdx.{u,v}
def LZ.{u}:=@List.takeWhile_prefix.{u}
def La:=@List.range_succ
def Lb.{u}:=@List.find?_some.{u}
def Ng.{u}:=@List.length_filter_lt_length_iff_exists.{u}
def Nh.{u}:=@Array.getElem?_setIfInBounds_self_of_lt.{u}
def Pc:=@Nat.mul_one
def Pd:=@Int.add_le_add_right
def Pe:=@Bool.and_eq_true_iff
def SF:=@Int.add_assoc
def Su.{u}:=@List.replicate_zero.{u}
def Sv.{u}:=@Array.toList_append.{u}
def UD:=@of_decide_eq_false
def UF.{u}:=@List.filter_filter.{u}
def UG.{u}:=@List.all_takeWhile.{u}
def UH.{u}:=@Array.ext_getElem?.{u}
def UI.{u}:=@Array.empty_append.{u}
def UJ.{u}:=@Array.append_empty.{u}
def YA.{u}:=@dif_neg.{u}
def YB.{u}:=@Ne.symm.{u}
def YC:=@Nat.zero_mul
def YD:=@Nat.min_self
def YE:=@Nat.le_of_lt
def YF.{u}:=@List.set_set.{u}
def YG.{u,v}:=@List.pairwise_map.{u,v}
def YH.{u}:=@List.length_filter_eq_length_iff.{u}
def YI.{u}:=@List.flatten_cons.{u}
def YJ:=@Decidable.not_not
def YK:=@Bool.not_eq_false
def YL.{u}:=@Array.all_eq_true.{u}
def aA.{u}:=@List.getD_cons_zero.{u}
def aD:=@Nat.le_refl
def aF.{u,v}:=@Option.map_eq_some_iff.{u,v}
def aH.{u,v}:=@List.map_cons.{u,v}
def aI:=@Bool.false_eq_true
def aJ:=@Bool.and_eq_true
def aL.{u}:=@List.getElem?_set_self.{u}
def aM.{u}:=@List.getElem?_cons_zero.{u}
def aP.{u}:=@List.length_take.{u}
def aQ.{u,v}:=@Prod.mk.injEq.{u,v}
def aR.{u}:=@List.getD_cons_succ.{u}
def aS.{u}:=@if_false.{u}
def aT.{u}:=@if_true.{u}
def aU.{u}:=@List.getElem?_append_right.{u}
def aV:=@decide_eq_true_eq
def aW.{u}:=@List.eq_nil_of_length_eq_zero.{u}
def aY:=@Nat.zero_add
def acV:=@Int.add_mul
def acr:=@false_iff
def acs:=@Nat.lt_add_right
def acu:=@Nat.le_of_not_lt
def acv:=@Nat.le_add_right
def acw.{u}:=@List.take_append.{u}
def acx.{u,v}:=@List.lookup_cons.{u,v}
def acy.{u}:=@List.any_eq_true.{u}
def ae.{u}:=@Option.some.injEq.{u}
def afK:=@Nat.div_add_mod
def afL.{u,v}:=@List.filter_map.{u,v}
def afM:=@Int.natCast_one
def ag.{u,v}:=@List.length_map.{u,v}
def agI:=@eq_true
def ah.{u}:=@List.getElem?_eq_some_iff.{u}
def ai.{u}:=@List.length_cons.{u}
def aj.{u}:=@List.length_append.{u}
def ajl:=@Nat.lt_add_one
def ajm.{u}:=@List.takeWhile_cons_of_pos.{u}
def ajn.{u}:=@List.takeWhile_cons_of_neg.{u}
def ajo.{u}:=@List.Perm.refl.{u}
def ajp:=@Int.toNat_zero
def ajq:=@Int.fdiv_eq_ediv_of_nonneg
def al.{u}:=@List.length_nil.{u}
def an.{u}:=@if_neg.{u}
def ao:=@Int.toNat_natCast
def ao0.{u}:=@List.erase_append_right.{u}
def aoY:=@Nat.pos_of_mul_pos_left
def aoZ:=@Nat.le_mul_of_pos_right
def aoi.{u}:=@List.take_nil.{u}
def aoj.{u}:=@List.eq_of_mem_replicate.{u}
def aok.{u}:=@List.drop_nil.{u}
def aol.{u}:=@List.Pairwise.imp_of_mem.{u}
def aom.{u}:=@Bool.beq_comm.{u}
def aq.{u}:=@List.getD_eq_getElem?_getD.{u}
def arD:=@List.pairwise_lt_range
def arG.{u}:=@List.length_pos_of_mem.{u}
def arH.{u}:=@List.getElem?_eraseIdx.{u}
def ax.{u}:=@List.getElem?_eq_getElem.{u}
def ay.{u}:=@List.getElem?_append_left.{u}
def az.{u}:=@if_pos.{u}
def bA.{u}:=@List.length_drop.{u}
def bC.{u}:=@List.mem_cons.{u}
def bE.{u}:=@List.mem_of_getElem?.{u}
def bF.{u,v}:=@List.mem_map.{u,v}
def bI:=@Nat.mul_le_mul_right
def bJ.{u}:=@List.cons_append.{u}
def bL.{u}:=@List.append_nil.{u}
def bN:=@Classical.byContradiction
def bO.{u}:=@Array.getElem?_eq_getElem.{u}
def bP.{u}:=@List.mem_append.{u}
def bR.{u,v}:=@List.map_nil.{u,v}
def bW.{u}:=@List.take_of_length_le.{u}
def bX.{u}:=@List.getElem?_cons_succ.{u}
def bY.{u}:=@List.all_eq_true.{u}
def bc.{u}:=@List.nil_append.{u}
def bh.{u}:=@Array.length_toList.{u}
def bk.{u}:=@List.append_assoc.{u}
def bz.{u}:=@List.getElem?_set_ne.{u}
def cB:=@Bool.eq_iff_iff
def cE.{u}:=@beq_iff_eq.{u}
def cF.{u}:=@List.mem_of_mem_take.{u}
def cH.{u}:=@List.mem_of_mem_drop.{u}
def cI.{u}:=@List.getElem?_eq_none.{u}
def cJ:=@Nat.add_mul
def cL.{u,v}:=@Option.map_some.{u,v}
def cM.{u,v}:=@List.map_append.{u,v}
def cP:=@not_false_eq_true
def cT.{u}:=@List.length_pos_iff.{u}
def cZ.{u}:=@List.mem_filter.{u}
def cc:=@Bool.true_and
def cg.{u}:=@Array.getElem?_eq_some_iff.{u}
def ck.{u,v}:=@List.getElem?_map.{u,v}
def cu:=@Nat.le_trans
def cv.{u}:=@List.mem_singleton.{u}
def cx.{u}:=@Array.getD_eq_getD_getElem?.{u}
def cy.{u}:=@List.takeWhile_cons.{u}
def cz.{u}:=@List.getElem?_take_of_lt.{u}
def dA.{u}:=@List.set_append_right.{u}
def dB:=@decide_eq_false_iff_not
def dC.{u}:=@List.getElem_mem.{u}
def dG.{u}:=@List.drop_eq_getElem_cons.{u}
def dI.{u}:=@List.eq_nil_iff_forall_not_mem.{u}
def dJ:=@Int.le_refl
def dL.{u}:=@List.take_append_of_le_length.{u}
def dQ:=@Bool.not_eq_false'
def dR:=@Bool.false_and
def dW.{u,v}:=@List.foldl_cons.{u,v}
def dZ.{u}:=@List.take_append_drop.{u}
def da.{u}:=@List.concat_eq_append.{u}
def db.{u}:=@List.getElem?_drop.{u}
def de:=@Nat.add_zero
def df:=@Bool.and_true
def di.{u}:=@beq_eq_false_iff_ne.{u}
def dm:=@Bool.not_eq_true'
def dn.{u}:=@List.eq_nil_or_concat.{u}
def dp.{u}:=@Array.getElem?_modify.{u}
def dt.{u}:=@List.take_succ_cons.{u}
def dw.{u}:=@List.sum_cons.{u}
def dx.{u}:=@List.pairwise_cons.{u}
def eA.{u,v}:=@List.map_congr_left.{u,v}
def eB.{u}:=@List.length_filter_le.{u}
def eC:=@List.mem_range
def eD:=@Bool.or_eq_true
def eH.{u}:=@Array.getElem?_setIfInBounds_ne.{u}
def eI.{u}:=@List.length_singleton.{u}
def eJ.{u,v}:=@List.flatMap_cons.{u,v}
def eN:=@not_true
def eO.{u,v}:=@List.map_drop.{u,v}
def eU.{u}:=@List.size_toArray.{u}
def eV.{u}:=@List.mem_cons_of_mem.{u}
def eY:=@Int.tdiv_eq_ediv_of_nonneg
def ed.{u}:=@List.mem_iff_getElem?.{u}
def ee.{u}:=@List.getElem?_take.{u}
def eu.{u,v}:=@List.map_take.{u,v}
def ey:=@Int.natCast_zero
def fA:=@Nat.zero_le
def fF:=@Nat.add_sub_cancel_left
def fG.{u}:=@List.length_eq_zero_iff.{u}
def fI.{u}:=@List.singleton_append.{u}
def fK.{u}:=@List.set_cons_zero.{u}
def fO:=@Bool.not_true
def fW:=@decide_true
def fb:=@Nat.min_eq_left
def fc.{u}:=@ne_eq.{u}
def fq.{u}:=@List.length_set.{u}
def fv:=@Nat.lt_of_lt_of_le
def fx.{u}:=@List.filter_cons.{u}
def gA:=@true_and
def gB:=@Bool.and_false
def gF:=@Int.le_trans
def gG.{u}:=@List.getLast?_singleton.{u}
def gN.{u,v}:=@List.mem_map_of_mem.{u,v}
def gO.{u}:=@List.all_cons.{u}
def gQ.{u}:=@List.set_eq_take_append_cons_drop.{u}
def gv.{u,v}:=@Option.bind_some.{u,v}
def gw.{u}:=@List.not_mem_nil.{u}
def gy.{u}:=@Option.some.inj.{u}
def gz.{u}:=@List.nodup_cons.{u}
def iE.{u}:=@List.set_cons_succ.{u}
def iJ.{u}:=@List.drop_succ_cons.{u}
def iK:=@Int.zero_add
def iW:=@Nat.add_assoc
def iX.{u}:=@List.nodup_append.{u}
def iY:=@Bool.false_or
def ir:=@Nat.one_mul
def iu.{u}:=@List.set_append_left.{u}
def iv:=@Bool.or_eq_false_iff
def iw:=@Bool.not_false
def jJ.{u}:=@List.filter_cons_of_pos.{u}
def jT.{u}:=@List.take_left.{u}
def jU.{u}:=@List.cons.injEq.{u}
def jf.{u}:=@List.pairwise_append.{u}
def jg.{u}:=@List.getLast?_append.{u}
def jm:=@Nat.sub_self
def jn.{u,v,w}:=@List.map_map.{u,v,w}
def jx:=@and_self
def kD:=@Nat.mul_comm
def kE:=@Nat.lt_or_ge
def kG.{u}:=@List.filter_append.{u}
def kO.{u}:=@beq_self_eq_true.{u}
def kP:=@and_true
def kQ.{u}:=@Option.getD_some.{u}
def kR.{u}:=@List.filter_cons_of_neg.{u}
def kg.{u}:=@List.filter_eq_self.{u}
def kr.{u,v}:=@List.length_filterMap_le.{u,v}
def l4.{u}:=@List.pairwise_iff_getElem.{u}
def l6.{u}:=@Array.getElem?_toList.{u}
def lA.{u}:=@bne_self_eq_false.{u}
def lB.{u}:=@List.take_take.{u}
def lC.{u}:=@Array.getElem?_append_left.{u}
def lE.{u,v}:=@List.filterMap_cons.{u,v}
def lJ.{u,v}:=@Option.map_none.{u,v}
def lK:=@Int.mul_add
def lQ.{u}:=@List.takeWhile_append_dropWhile.{u}
def lz:=@decide_eq_true
def mA.{u}:=@List.take_zero.{u}
def mB.{u}:=@List.nodup_nil.{u}
def mC.{u}:=@List.forall_mem_cons.{u}
def mD.{u}:=@List.drop_zero.{u}
def mS.{u}:=@List.ext_getElem?.{u}
def mg:=@Bool.true_eq_false
def mh.{u,v}:=@Array.toList_map.{u,v}
def mz.{u}:=@Option.some_or.{u}
def nN.{u,v}:=@List.mem_flatMap.{u,v}
def nO.{u,v}:=@List.getElem_map.{u,v}
def nP.{u,v}:=@List.flatMap_nil.{u,v}
def nf:=@decide_eq_false
def ng.{u}:=@List.find?_cons.{u}
def nk:=@false_or
def np:=@List.getElem?_range
def oL.{u}:=@List.all_nil.{u}
def pB.{u}:=@Option.isSome_iff_exists.{u}
def pC.{u}:=@List.Perm.eq_of_pairwise.{u}
def pT:=@List.nodup_range
def qG:=@Int.mul_le_mul_of_nonneg_left
def qT.{u}:=@bne_iff_ne.{u}
def qU.{u}:=@List.takeWhile_sublist.{u}
def qV.{u}:=@List.takeWhile_nil.{u}
def qW.{u,v}:=@List.mem_filterMap.{u,v}
def qX.{u}:=@List.Sublist.length_le.{u}
def qY.{u}:=@Array.getElem?_eq_none.{u}
def s8:=@or_false
def s9:=@Nat.sub_mul
def sj.{u}:=@List.getElem?_toArray.{u}
def sk.{u}:=@List.Perm.append_left.{u}
def so.{u}:=@List.drop_sublist.{u}
def sq.{u}:=@Array.size_append.{u}
def tc:=@Nat.mod_lt
def td:=@Nat.div_lt_of_lt_mul
def tf.{u,v}:=@List.foldl_nil.{u,v}
def uQ:=@Bool.and_self
def uR.{u}:=@Array.getElem?_push_size.{u}
def uV:=@UInt8.toNat_inj
def ud:=@UInt8.not_lt
def ue.{u}:=@Option.getD_none.{u}
def uf.{u}:=@List.perm_middle.{u}
def ug.{u}:=@List.drop_length.{u}
def uj.{u}:=@List.mem_or_eq_of_mem_set.{u}
def uy:=@not_or
def uz.{u}:=@List.mergeSort_perm.{u}
def v8:=@Nat.lt_of_le_of_lt
def wc.{u}:=@List.mem_cons_self.{u}
def we:=@Array.toList_range
def wq.{u}:=@List.pairwise_mergeSort.{u}
def wu.{u}:=@List.getElem?_replicate.{u}
def xE:=@of_decide_eq_true
def xF:=@decide_false
def xG:=@Nat.sub_zero
def xH:=@Nat.le_of_eq
def xJ:=@Classical.em
def xK:=@Bool.true_or
def xL.{u}:=@Array.size_modify.{u}
def yR.{u}:=@List.set_getElem_self.{u}
def yS.{u}:=@List.length_replicate.{u}
def yU.{u}:=@Array.mem_of_getElem?.{u}
def zT:=@Int.mul_le_mul_of_nonneg_right
def zU.{u}:=@Array.eq_empty_of_size_eq_zero.{u}
end Go
namespace Go
def aC{a b:Prop}(x:a)(y:b):a/\b:=⟨x,y⟩
abbrev dq:=List (List UInt8)
abbrev aG:=List UInt8
abbrev bH:=List Int
abbrev dK:=List Nat
abbrev cU:=Option Nat
abbrev Cc:=Option Int
abbrev bD:=World
abbrev bo:=Program
abbrev eR:=List (Int×Int)
abbrev fJ:=List (Nat×Bool)
end Go

namespace Go.Pm
open Go Go.RowKit
inductive V where
 |u
 |b (x:Bool)
 |i (k:IntKind) (n:Int)
 |s (l:aG)
 |nil
 |lit (sz:Nat) (xs:List (List V))
 |sl (sz:Nat) (xs:List (List V))
 |own (id g:Nat)
 |sub (id g lo hi:Nat)
 |ptr (id off:Nat)
 |ep (sz:Nat) (xs:List (List V)) (i off:Nat)
 |rp (id g i off:Nat)
 |mp (id:Nat)
 |it (id:Nat)
 |Af (id n:Nat)
 |jG
 |mu
 |fn (f:Nat) (caps:List V)
 |agg (xs:List V)
 |iQ (xs:List V)
@[match_pattern]abbrev V.I(a:Int):V:=.i .i64 a
abbrev dF:=List (List V)
abbrev aB:=List V
def V.pure:V->Bool
 |.b _|.i _ _|.s _|.sl _ _=>true
 |_=>false
def V.cell:V->Bool
 |.u|.agg _|.iQ _|.it _|.Af _ _=>false
 |_=>true
inductive Ob where
 |dead
 |box (T:Nat) (cs:aB)
 |row (E sz by':Nat) (g:Nat) (sh:Bool) (xs:dF)
 |map (K E:Nat) (es:List (V×V))
 |iter (st:Bool) (m E n:Nat) (ps:dK) (cur:cU)
abbrev ak:=List Ob
abbrev Mem:=Nat->Value
def lZ:Value->cU
 |.pointer (some a)=>some a.block
 |.slice (some a) _ _=>some a.block
 |.map (some r)=>some r
 |_=>none
def Ob.wat(off:Nat):Ob->Prop
 |.dead=>False
 |.box _ _=>True
 |.row _ sz _ _ sh xs=>sh=true->xs.length*sz<=off
 |.map _ _ _=>True
 |.iter _ _ _ _ _ _=>True
def wr(J:ak)(μ:Mem)(b off:Nat):Prop:=∃id o,J[id]?=some o/\lZ (μ id)=some b/\o.wat off
def gj(xs:dF)(i j:Nat):Option V:=(xs[i]?).bind (·[j]?)
def pO(v:Value)(b hi sz:Nat):Value :=
 match v with
 |.slice a _ cap=>.slice (if cap=b then a else a.map (·.add (b*sz))) (hi - b) (cap - b)
 |v=>v
def rpv(v:Value)(i off sz:Nat):Value :=
 match v with
 |.slice (some a) _ _=>.pointer (some ⟨a.block,i*sz+off,none⟩)
 |v=>v
inductive VR (w:bD) (J:ak) (μ:Mem):V->Value->Prop
 |u (v:Value):VR w J μ .u v
 |b (x:Bool):VR w J μ (.b x) (.bool x)
 |i (k:IntKind) (n:Int):VR w J μ (.i k n) (.int k n)
 |s (l:aG) (x:ByteArray) (hl:x.data.toList=l) (hm:l.length<=maxLen):VR w J μ (.s l) (.string x)
 |nil:VR w J μ .nil (.slice none 0 0)
 |K4 (sz:Nat):VR w J μ (.sl sz []) (.slice none 0 0)
 |sle (sz:Nat) (a:Addr):VR w J μ (.sl sz []) (.slice (some a) 0 0)
 |sl (sz:Nat) (xs:dF) (b o cap:Nat) (f:Nat->Nat->Value) (hlen:xs.length<=cap) (qi:cap<=maxLen) (dd:∀r∈xs,r.length=sz)
   (hc:∀i j x,gj xs i j=some x->w.cell? ⟨b,o+i*sz+j,none⟩=some (f i j)/\¬wr J μ b (o+i*sz+j)/\x.pure=true)
   (hv:∀i j x,gj xs i j=some x->VR w J μ x (f i j)):VR w J μ (.sl sz xs) (.slice (some ⟨b,o,none⟩) xs.length cap)
 |Ou (sz:Nat):VR w J μ (.lit sz []) (.slice none 0 0)
 |lit (sz:Nat) (xs:dF) (b o:Nat) (f:Nat->Nat->Value) (qi:xs.length<=maxLen) (dd:∀r∈xs,r.length=sz)
   (hc:∀i j x,gj xs i j=some x->w.cell? ⟨b,o+i*sz+j,none⟩=some (f i j)/\¬wr J μ b (o+i*sz+j)/\x.pure=true)
   (hv:∀i j x,gj xs i j=some x->VR w J μ x (f i j)):VR w J μ (.lit sz xs) (.slice (some ⟨b,o,none⟩) xs.length xs.length)
 |own (id g:Nat) (v:Value) (hid:id<J.length) (h:∀E sz by' g' sh xs,J[id]?=some (.row E sz by' g' sh xs)->g<=g'/\(g=g'->v=μ id)):VR w J μ (.own id g) v
 |sub (id g lo hi:Nat) (v:Value) (hid:id<J.length)
   (h:∀E sz by' g' sh xs,J[id]?=some (.row E sz by' g' sh xs)->g<=g'/\(g=g'->lo<=hi/\hi<=xs.length/\v=pO (μ id) lo hi sz)):VR w J μ (.sub id g lo hi) v
 |ptr (id off b:Nat) (h:∃T cs,J[id]?=some (.box T cs)) (hm:μ id=.pointer (some ⟨b,0,none⟩)):VR w J μ (.ptr id off) (.pointer (some ⟨b,off,none⟩))
 |ep (sz:Nat) (xs:dF) (i off b o:Nat) (f:Nat->Value) (hi:i<xs.length) (dd:∀r∈xs,r.length=sz)
   (hc:∀j x,gj xs i j=some x->w.cell? ⟨b,o+j,none⟩=some (f j)/\¬wr J μ b (o+j)/\x.pure=true)
   (hv:∀j x,gj xs i j=some x->VR w J μ x (f j)):VR w J μ (.ep sz xs i off) (.pointer (some ⟨b,o+off,none⟩))
 |rp (id g i off:Nat) (v:Value) (hid:id<J.length)
   (h:∀E sz by' g' sh xs,J[id]?=some (.row E sz by' g' sh xs)->g<=g'/\(g=g'->i<xs.length/\v=rpv (μ id) i off sz)):VR w J μ (.rp id g i off) v
 |mp (id r:Nat) (h:∃K E es,J[id]?=some (.map K E es)) (hm:μ id=.map (some r)):VR w J μ (.mp id) (.map (some r))
 |it (id:Nat) (v:Value) (h:∃st m E n ps c,J[id]?=some (.iter st m E n ps c)) (hm:μ id=v):VR w J μ (.it id) v
 |Af (id n b:Nat) (h:∃T cs,J[id]?=some (.box T cs)) (hm:μ id=.pointer (some ⟨b,0,none⟩)):VR w J μ (.Af id n) (.slice (some ⟨b,0,none⟩) n n)
 |jG:VR w J μ .jG (.map none)
 |mu:VR w J μ .mu (.pointer none)
 |fn (f:Nat) (caps:aB) (vs:Array Value) (hl:caps.length=vs.size) (hv:∀i x,caps[i]?=some x->VR w J μ x (vs.getD i undef)) :
   VR w J μ (.fn f caps) (.func (.func f) #[] vs)
 |agg (xs:aB) (vs:Array Value) (hl:xs.length=vs.size) (hv:∀i x,xs[i]?=some x->VR w J μ x (vs.getD i undef)):VR w J μ (.agg xs) (.agg vs)
 |iQ (xs:aB) (vs:Array Value) (hl:xs.length=vs.size) (hv:∀i x,xs[i]?=some x->VR w J μ x (vs.getD i undef)):VR w J μ (.iQ xs) (.tuple vs)
inductive V.Lt (n:Nat):V->Prop
 |u:Lt n .u
 |b (x):Lt n (.b x)
 |i (k a):Lt n (.i k a)
 |s (l):Lt n (.s l)
 |nil:Lt n .nil
 |lit (sz xs):Lt n (.lit sz xs)
 |sl (sz xs):Lt n (.sl sz xs)
 |own (id g) (h:id<n):Lt n (.own id g)
 |sub (id g lo hi) (h:id<n):Lt n (.sub id g lo hi)
 |ptr (id off) (h:id<n):Lt n (.ptr id off)
 |ep (sz xs i off):Lt n (.ep sz xs i off)
 |rp (id g i off) (h:id<n):Lt n (.rp id g i off)
 |mp (id) (h:id<n):Lt n (.mp id)
 |it (id) (h:id<n):Lt n (.it id)
 |Af (id m) (h:id<n):Lt n (.Af id m)
 |jG:Lt n .jG
 |mu:Lt n .mu
 |fn (f caps) (h:∀(i:Nat) (x:V),caps[i]?=some x->Lt n x):Lt n (.fn f caps)
 |agg (xs) (h:∀(i:Nat) (x:V),xs[i]?=some x->Lt n x):Lt n (.agg xs)
 |iQ (xs) (h:∀(i:Nat) (x:V),xs[i]?=some x->Lt n x):Lt n (.iQ xs)
def VR.lt{w:bD}{J:ak}{μ:Mem}{x:V}{v:Value}(h:VR w J μ x v):x.Lt J.length:=by
 induction h with
 |u v=>exact .u
 |b x=>exact .b x
 |i k n=>exact .i k n
 |s l x A z=>exact .s l
 |nil=>exact .nil
 |K4 d=>exact .sl d _
 |sle d a=>exact .sl d _
 |sl d p b o L f C M F G t ih=>exact .sl d p
 |Ou d=>exact .lit d _
 |lit d p b o f M F G t ih=>exact .lit d p
 |own id g v j h=>exact .own id g j
 |sub id g H D v j h=>exact .sub id g H D j
 |ptr id e b h z =>
  obtain⟨T,I,q⟩:=h;exact .ptr id e (ah.1 q).1
 |ep d p i e b o f D F G t ih=>exact .ep d p i e
 |rp id g i e v j h=>exact .rp id g i e j
 |mp id r h z =>
  obtain⟨K,E,O,q⟩:=h;exact .mp id (ah.1 q).1
 |it id v h z =>
  obtain⟨P,m,E,n,N,c,q⟩:=h;exact .it id (ah.1 q).1
 |Af id n b h z =>
  obtain⟨T,I,q⟩:=h;exact .Af id n (ah.1 q).1
 |jG=>exact .jG
 |mu=>exact .mu
 |fn f y B A t ih=>exact .fn f y ih
 |agg p B A t ih=>exact .agg p ih
 |iQ p B A t ih=>exact .iQ p ih
def V.Lt.mono{n m:Nat}{x:V}(h:x.Lt n)(e:n<=m):x.Lt m:=by
 induction h with
 |u=>exact .u
 |b x=>exact .b x
 |i k a=>exact .i k a
 |s l=>exact .s l
 |nil=>exact .nil
 |lit j d=>exact .lit j d
 |sl j d=>exact .sl j d
 |own id g h=>exact .own id g (fv h e)
 |sub id g q p h=>exact .sub id g q p (fv h e)
 |ptr id c h=>exact .ptr id c (fv h e)
 |ep j d i c=>exact .ep j d i c
 |rp id g i c h=>exact .rp id g i c (fv h e)
 |mp id h=>exact .mp id (fv h e)
 |it id h=>exact .it id (fv h e)
 |Af id n h=>exact .Af id n (fv h e)
 |jG=>exact .jG
 |mu=>exact .mu
 |fn f o h ih=>exact .fn f o ih
 |agg d h ih=>exact .agg d ih
 |iQ d h ih=>exact .iQ d ih
structure s7 (w:bD) (J:ak) (μ:Mem) (w':bD) (J':ak) (μ':Mem):Prop where
 cell:∀b o v,w.cell? ⟨b,o,none⟩=some v->¬wr J μ b o->w'.cell? ⟨b,o,none⟩=some v/\¬wr J' μ' b o
 len:J.length<=J'.length
 box:∀id T cs,J[id]?=some (.box T cs)->(∃cs',J'[id]?=some (.box T cs'))/\μ' id=μ id
 map:∀id K E es,J[id]?=some (.map K E es)->(∃E' es',J'[id]?=some (.map K E' es'))/\μ' id=μ id
 itr:∀id st m E n ps c,J[id]?=some (.iter st m E n ps c)->(∃ps' c',J'[id]?=some (.iter st m E n ps' c'))/\μ' id=μ id
 row:∀id E sz by' g' sh xs,id<J.length->J'[id]?=some (.row E sz by' g' sh xs)->∃g sh0 xs0,J[id]?=some (.row E sz by' g sh0 xs0)/\g<=g'/\(g=g'->xs0.length=xs.length/\μ' id=μ id)
def VR.mono{w:bD}{J:ak}{μ:Mem}{w':bD}{J':ak}{μ':Mem}(p:s7 w J μ w' J' μ'){x:V}{v:Value}(h:VR w J μ x v):VR w' J' μ' x v:=by
 induction h with
 |u v=>exact .u v
 |b x=>exact .b x
 |i k n=>exact .i k n
 |s l x I F=>exact .s l x I F
 |nil=>exact .nil
 |K4 d=>exact .K4 d
 |sle d a=>exact .sle d a
 |sl d z b o ab f Q qi X t R ih =>
  exact .sl d z b o ab f Q qi X (λi j x e=>⟨(p.cell _ _ _ (t i j x e).1 (t i j x e).2.1).1,(p.cell _ _ _ (t i j x e).1 (t i j x e).2.1).2,(t i j x e).2.2⟩) ih
 |Ou d=>exact .Ou d
 |lit d z b o f qi X t R ih =>
  exact .lit d z b o f qi X (λi j x e=>⟨(p.cell _ _ _ (t i j x e).1 (t i j x e).2.1).1,(p.cell _ _ _ (t i j x e).1 (t i j x e).2.1).2,(t i j x e).2.2⟩) ih
 |own id g v q h =>
  refine .own id g v (fv q p.len) λE d C H S z W=>?_;obtain⟨U,O,N,B,A,y⟩:=p.row id E d C H S z q W;have G:=h _ _ _ _ _ _ B;refine⟨cu G.1 A,λhg=>?_⟩;have M:U=H:=by omega
  rw[(y M).2];exact G.2 (by omega)
 |sub id g lo hi v q h =>
  refine .sub id g lo hi v (fv q p.len) λE d C H S z W=>?_;obtain⟨U,O,N,B,A,y⟩:=p.row id E d C H S z q W;have G:=h _ _ _ _ _ _ B;refine⟨cu G.1 A,λhg=>?_⟩;have M:U=H:=by omega
  rw[(y M).2,<- (y M).1];exact G.2 (by omega)
 |ptr id D b h F =>
  obtain⟨T,Z,B⟩:=h;obtain⟨⟨L,A⟩,y⟩:=p.box id T Z B;exact .ptr id D b ⟨T,L,A⟩ (y.trans F)
 |ep d z i D b o f hi X t R ih =>
  exact .ep d z i D b o f hi X (λj x e=>⟨(p.cell _ _ _ (t j x e).1 (t j x e).2.1).1,(p.cell _ _ _ (t j x e).1 (t j x e).2.1).2,(t j x e).2.2⟩) ih
 |rp id g i D v q h =>
  refine .rp id g i D v (fv q p.len) λE d C H S z W=>?_;obtain⟨U,O,N,B,A,y⟩:=p.row id E d C H S z q W;have G:=h _ _ _ _ _ _ B;refine⟨cu G.1 A,λhg=>?_⟩;have M:U=H:=by omega
  rw[(y M).2,<- (y M).1];exact G.2 (by omega)
 |mp id r h F =>
  obtain⟨K,E,es,B⟩:=h;obtain⟨⟨E',ac,A⟩,y⟩:=p.map id K E es B;exact .mp id r ⟨K,E',ac,A⟩ (y.trans F)
 |it id v h F =>
  obtain⟨st,m,E,n,ps,c,B⟩:=h;obtain⟨⟨aa,c',A⟩,y⟩:=p.itr id st m E n ps c B;exact .it id v ⟨st,m,E,n,aa,c',A⟩ (y.trans F)
 |Af id n b h F =>
  obtain⟨T,Z,B⟩:=h;obtain⟨⟨L,A⟩,y⟩:=p.box id T Z B;exact .Af id n b ⟨T,L,A⟩ (y.trans F)
 |jG=>exact .jG
 |mu=>exact .mu
 |fn f Y P I R ih=>exact .fn f Y P I ih
 |agg z P I R ih=>exact .agg z P I ih
 |iQ z P I R ih=>exact .iQ z P I ih
def s7.refl(w:bD)(J:ak)(μ:Mem):s7 w J μ w J μ :=
 ⟨λ_ _ _ h b=>⟨h,b⟩,aD _,λ_ _ d h=>⟨⟨d,h⟩,rfl⟩,λ_ _ E f h=>⟨⟨E,f,h⟩,rfl⟩,λ_ _ _ _ _ a c h=>⟨⟨a,c,h⟩,rfl⟩,λ_ _ _ _ g i e _ h=>⟨g,i,e,h,aD _,λ_=>⟨rfl,rfl⟩⟩⟩
def uc(w:bD)(J:ak)(μ:Mem)(w':bD)(J':ak)(μ':Mem):Prop:=∀x v,VR w J μ x v->VR w' J' μ' x v
def s7.jF{w:bD}{J:ak}{μ:Mem}{w':bD}{J':ak}{μ':Mem}(p:s7 w J μ w' J' μ'):uc w J μ w' J' μ':=λ_ _ h=>h.mono p
def jO(n:Nat)(w:bD)(J:ak)(μ:Mem)(w':bD)(J':ak)(μ':Mem):Prop:=∀x v,VR w J μ x v->x.Lt n->VR w' J' μ' x v
def uc.Wr{n:Nat}{w:bD}{J:ak}{μ:Mem}{w':bD}{J':ak}{μ':Mem}(k:uc w J μ w' J' μ'):jO n w J μ w' J' μ':=λx v h _=>k x v h
def jO.refl(n:Nat)(w:bD)(J:ak)(μ:Mem):jO n w J μ w J μ:=λ_ _ h _=>h
def jO.trans{n:Nat}{w:bD}{J:ak}{μ:Mem}{w':bD}{J':ak}{μ':Mem}{c:bD}{b:ak}{a:Mem}
  (h:jO n w J μ w' J' μ') (k:jO n w' J' μ' c b a):jO n w J μ c b a:=λx v e d=>k x v (h x v e d) d
def uc.refl(w:bD)(J:ak)(μ:Mem):uc w J μ w J μ:=λ_ _ h=>h
def uc.trans{w:bD}{J:ak}{μ:Mem}{w':bD}{J':ak}{μ':Mem}{c:bD}{b:ak}{a:Mem}
  (h:uc w J μ w' J' μ') (k:uc w' J' μ' c b a):uc w J μ c b a:=λx v d=>k x v (h x v d)
def Ti(P:bo)(E sz by':Nat):Prop :=
 0<sz/\∃(t:TypeInfo) (z:Value),P.info? E=some t/\t.zero=some z/\t.size=sz/\t.bytes=by'/\z.cells.size=sz
def kN(w:bD)(J:ak)(μ:Mem)(xs:dF)(sz:Nat)(vals:List Value):Prop :=
 (∀r∈xs,r.length=sz)/\∀i j x,gj xs i j=some x->x.pure=true/\∃v,vals[i*sz+j]?=some v/\VR w J μ x v
def V.WI:V->Bool
 |.i _ _|.s _|.b _=>true
 |_=>false
def V.yf:V->Bool
 |.i _ _|.s _|.b _=>true
 |.agg xs=>xs.all V.WI
 |_=>false
def V.lO:V->Bool
 |.agg xs=>xs.all V.cell
 |x=>x.cell
def C6(w:bD)(J:ak)(μ:Mem)(b:List (V×V))(a:Array MapEntry)(clock:Nat):Prop :=
 a.size=b.length/\(∀(i:Nat) (k x:V),b[i]?=some (k,x)->k.yf=true/\x.lO=true/\∃e,a[i]?=some e/\VR w J μ k e.key/\VR w J μ x e.val) /\
 (∀(i:Nat) (e:MapEntry),a[i]?=some e->e.born<clock)/\(∀(i j:Nat) (e c:MapEntry),a[i]?=some e->a[j]?=some c->e.born=c.born->i=j)
def Wj(w:bD)(J:ak)(μ:Mem)(m h n0:Nat)(j:dK)(d:cU)(g since:Nat)(b:Array Nat):Prop :=
 μ m=.map (some g)/\(∀p∈j,p<n0)/\∃K E f a clock,J[m]?=some (.map K E f)/\w.heap[g]?=some (.map a clock)/\h<=E /\
  (E=h->n0<=f.length/\(f.length=n0->clock=since/\(∀(i:Nat) (e:MapEntry),a[i]?=some e->(b.contains e.born=false<->i∈j)) /\
   ∀c,d=some c->∃e:MapEntry,a[c]?=some e/\b.back?=some e.born))
def Wh(w:bD)(J:ak)(μ:Mem)(m f n0:Nat)(b:cU)(born:Int):Prop :=
 ∃d,μ m=.map (some d)/\∃K E g a clock,J[m]?=some (.map K E g)/\w.heap[d]?=some (.map a clock)/\f<=E /\
  (E=f->n0<=g.length/\∀c,b=some c->∃e:MapEntry,a[c]?=some e/\(e.born:Int)=born)
def HE(P:bo)(B:Nat)(w:bD)(J:ak)(μ:Mem)(v:Value):Ob->Prop
 |.dead=>True
 |.box T cs=>∃(b:Nat) (f:Array Value),v=.pointer (some ⟨b,0,none⟩)/\B<=b/\w.heap[b]?=some (.cells f T (0,0))/\f.size=cs.length /\
   ∀(j:Nat) (x:V),cs[j]?=some x->∃u,f[j]?=some u/\VR w J μ x u
 |.row E sz by' _ _ xs=>Ti P E sz by'/\∃a:List Value,w.ownsRow B E sz v xs.length a/\kN w J μ xs sz a
 |.map _ _ es=>∃(r:Nat) (e:Array MapEntry) (clock:Nat),v=.map (some r)/\B<=r/\w.heap[r]?=some (.map e clock)/\C6 w J μ es e clock
 |.iter true m E0 n0 _ cur=>∃(d:Int),v=.int .i64 d/\Wh w J μ m E0 n0 cur d
 |.iter false m E0 n0 ps cur=>∃(r g since:Nat) (c:Array Nat),v=.pointer (some ⟨r,0,none⟩)/\B<=r/\w.heap[r]?=some (.mapIter (some g) since c since)/\Wj w J μ m E0 n0 ps cur g since c
def IY:bH:=[1,10,100,1000,10000,100000,1000000,10000000,100000000,1000000000,10000000000,100000000000,1000000000000,10000000000000,100000000000000,1000000000000000,10000000000000000,100000000000000000,1000000000000000000,10000000000000000000]
def ac6:List (String×IntKind×bH):=[("internal/strconv.uint64pow10",.u64,IY)]
def Laid(P:bo)(B:Nat)(w:bD):Prop:=∀t∈ac6,∀g,P.globalNamed t.1=some g->g<B/\Lib.TabIs P w t.1 t.2.1 t.2.2
structure C7 (P:bo) (B:Nat) (w0 w:bD):Prop extends Below B w0 w where
 laid:Laid P B w0
def C7.grown{P:bo}{B:Nat}{a w w':bD}{row:cU}(h:C7 P B a w)(d:w.grownBy w' row)(c:B<=w.heap.size)(b:∀k,row=some k->B<=k):C7 P B a w' :=
 ⟨h.toBelow.grown d c b,h.laid⟩
def C7.tab{P:bo}{B:Nat}{w0 w:bD}(h:C7 P B w0 w){t:String×IntKind×bH}(d:t∈ac6){g:Nat}(b:P.globalNamed t.1=some g):Lib.TabIs P w t.1 t.2.1 t.2.2:=by
 obtain⟨c,a⟩:=h.laid t d g b;unfold Lib.TabIs World.var? at a |-;simp only[b,gv]at a |-;rw[h.block g c];exact a
structure lj (P:bo) (B:Nat) (w0 w:bD) (J:ak) (μ:Mem):Prop where
 below:C7 P B w0 w
 base:B<=w.heap.size
 obj:∀id o,J[id]?=some o->HE P B w J μ (μ id) o
 sep:∀i j oi oj b,J[i]?=some oi->J[j]?=some oj->oi≠.dead->oj≠.dead->lZ (μ i)=some b->lZ (μ j)=some b->i=j
def FR(w:bD)(J:ak)(μ:Mem)(fr:aB)(a:Act):Prop :=
 a.defers=[]/\a.tmps.size=fr.length/\∀i x,fr[i]?=some x->VR w J μ x (a.tmps.getD i undef)
def FR.jF{w:bD}{J:ak}{μ:Mem}{w':bD}{J':ak}{μ':Mem}(k:uc w J μ w' J' μ'){fr:aB}{a:Act}(h:FR w J μ fr a):FR w' J' μ' fr a :=
 ⟨h.1,h.2.1,λi x b=>k _ _ (h.2.2 i x b)⟩
structure St where
 fr:aB
 J:ak
abbrev bl:=Exit->St->Prop
abbrev ca:=St->Prop
def VRs(w:bD)(J:ak)(μ:Mem)(xs:aB)(a:Array Value):Prop:=a.size=xs.length/\∀i x,xs[i]?=some x->VR w J μ x (a.getD i undef)
def PC(P:bo)(f:Nat)(args:aB)(J:ak)(Q:V->ak->Prop):Prop :=
 ∀(B:Nat) (h w:bD) (c:Mem) (g:Array Value),lj P B h w J c->VRs w J c args g ->
  Calls P f g w λe d=>∃r v b a,e=.returned v/\Q r b/\lj P B h d b a/\VR d b a r v/\uc w J c d b a
def PW(n:Nat)(P:bo)(c:Code)(K:bl)(f:St):Prop :=
 ∀(B:Nat) (i w:bD) (g:Mem) (a:Act),lj P B i w f.J g->FR w f.J g f.fr a ->
  c.wp P (λe j h=>∃b d,K e b/\lj P B i h b.J d/\FR h b.J d b.fr j/\jO n w f.J g h b.J d) a w
def PC.mono{P:bo}{f:Nat}{args:aB}{J:ak}{Q c:V->ak->Prop}(h:PC P f args J Q)(k:∀r J',Q r J'->c r J'):PC P f args J c :=
 λB e w d j g l=>(h B e w d j g l).mono λ_ _ ⟨r,v,J',b,m,i,a⟩=>⟨r,v,J',b,m,k _ _ i,a⟩
def PW.mono{n:Nat}{P:bo}{c:Code}{K i:bl}{g:St}(h:PW n P c K g)(o:∀e b,K e b->i e b):PW n P c i g :=
 λB l w k a m j=>wp_mono (h B l w k a m j) λ_ _ _ ⟨b,f,p,d⟩=>⟨b,f,o _ _ p,d⟩
def PW.skip{n:Nat}{P:bo}{K:bl}{a:St}(h:K .normal a):PW n P .skip K a :=
 λ_ _ _ c _ d b=>wp_skip ⟨a,c,h,d,b,jO.refl _ _ _ _⟩
def PW.ret{n:Nat}{P:bo}{K:bl}{a:St}(h:K .ret a):PW n P .ret K a :=
 λ_ _ _ c _ d b=>wp_ret ⟨a,c,h,d,b,jO.refl _ _ _ _⟩
def PW.exit{n:Nat}{P:bo}{id:Nat}{K:bl}{a:St}(h:K (.exit id) a):PW n P (.exit id) K a :=
 λ_ _ _ c _ d b=>wp_exit ⟨a,c,h,d,b,jO.refl _ _ _ _⟩
def aj1(n:Nat)(P:bo)(y:Code)(K:bl):bl
 |.normal,a=>PW n P y K a
 |e,a=>K e a
def PW.seq{n:Nat}{P:bo}{x y:Code}{K:bl}{p:St}(h:PW n P x (aj1 n P y K) p):PW n P (.seq x y) K p:=by
 intro B o w r a v q;refine wp_seq (wp_mono (h B o w r a v q) ?_);rintro e z s ⟨g,f,j,b,d,i⟩;cases e with
 |normal=>exact wp_mono (j B o s f z b d) λ_ _ _ ⟨k,m,C,t,u,A⟩=>⟨k,m,C,t,u,i.trans A⟩
 |exit id=>exact⟨g,f,j,b,d,i⟩
 |goto l=>exact⟨g,f,j,b,d,i⟩
 |ret=>exact⟨g,f,j,b,d,i⟩
 |panic c=>exact⟨g,f,j,b,d,i⟩
 |outgrown=>exact⟨g,f,j,b,d,i⟩
def Gm(id:Nat)(K:bl):bl
 |.exit id',a=>if id'=id then K .normal a else K (.exit id') a
 |e,a=>K e a
def PW.block{n:Nat}{P:bo}{id:Nat}{c:Code}{K:bl}{o:St}(h:PW n P c (Gm id K) o):PW n P (.block id c) K o:=by
 intro B r w q a s p;refine wp_block (wp_mono (h B r w q a s p) ?_);rintro e u t ⟨d,g,i,b,f,j⟩;cases e with
 |normal=>exact⟨d,g,i,b,f,j⟩
 |exit m =>
  by_cases k:m=id
  .subst k;simp only[Gm,aT]at i;simp only[Exit.inBlock,aT];exact⟨d,g,i,b,f,j⟩
  .simp only[Gm,k,aS]at i;simp only[Exit.inBlock,k,aS];exact⟨d,g,i,b,f,j⟩
 |goto l=>exact⟨d,g,i,b,f,j⟩
 |ret=>exact⟨d,g,i,b,f,j⟩
 |panic c=>exact⟨d,g,i,b,f,j⟩
 |outgrown=>exact⟨d,g,i,b,f,j⟩
def zV{P:bo}{Q:Exit->Act->bD->Prop}{a:Act}{w:bD}{c:Code}(n:Nat)(s:Nat->Act->bD->Prop)(h0:s n a w)
  (round:∀k a w,s k a w->c.wp P (Exit.then (λo w'=>∃k',k'<k/\s k' o w') Q) a w):(Code.loop c).wp P Q a w:=by
 intro b k t
 have u:∀n a w,s n a w->∃e o w',Q e o w'/\Arrives P (lone (b.at a (.code c::.inLoop c::k)) t w) b k t e o w':=by
  intro n
  induction n using Nat.strongRecOn with
  |_ n ih =>
   intro a w y;obtain⟨e,f,d,h,i⟩:=round n a w y b (.inLoop c::k) t;cases e with
   |normal =>
    obtain⟨k',v,m⟩:=h;obtain⟨p,q,r,j,g⟩:=ih k' v f d m;exact⟨p,q,r,j,.of_steps (Steps.trans i (.one step_inLoop)) g⟩
   |exit id=>exact⟨_,f,d,h,.pass (x:=.inLoop c) rfl (λ_ _=>.inl (by simp)) i⟩
   |goto l=>exact⟨_,f,d,h,.pass (x:=.inLoop c) rfl (λ_ _=>.inl (by simp)) i⟩
   |ret=>exact⟨_,f,d,h,.pass (x:=.inLoop c) rfl (λ_ _=>.inl (by simp)) i⟩
   |panic z=>exact⟨_,f,d,h,.pass (x:=.inLoop c) rfl (λ_ _=>.inl (by simp)) i⟩
   |outgrown=>exact⟨_,f,d,h,.pass (x:=.inLoop c) rfl (λ_ _=>.inl (by simp)) i⟩
 obtain⟨e,o,w',h,i⟩:=u _ a w h0;exact⟨e,o,w',h,.of_steps (.one step_loop) i⟩
def agd(I:ca)(m:St->Nat)(k:Nat)(K:bl):bl
 |.normal,a=>I a/\m a<k
 |e,a=>K e a
def PW.loop{n:Nat}{P:bo}{c:Code}{K:bl}{q:St}(I:ca)(m:St->Nat)(h0:I q)(h:∀q,I q->PW n P c (agd I m (m q) K) q):PW n P (.loop c) K q:=by
 intro B z w x a T R
 have E:∀(N:Nat) (f:St) (u:bD) (o:Mem) (F:Act),m f=N->I f->lj P B z u f.J o->FR u f.J o f.fr F->jO n w q.J x u f.J o ->
   (Code.loop c).wp P (λe H y=>∃b d,K e b/\lj P B z y b.J d/\FR y b.J d b.fr H/\jO n w q.J x y b.J d) F u:=by
  intro N f u o F U S L G M;refine zV N (λk C v=>∃g p,m g=k/\I g/\lj P B z v g.J p/\FR v g.J p g.fr C/\jO n w q.J x v g.J p) ⟨f,o,U,S,L,G,M⟩ ?_;rintro k C v ⟨g,p,D,A,Q,O,s⟩;refine wp_mono (h g A B z v p C Q O) ?_;rintro e H y ⟨b,d,r,i,j,t⟩;cases e with
  |normal=>exact⟨m b,D▸r.2,b,d,rfl,r.1,i,j,s.trans t⟩
  |exit id=>exact⟨b,d,r,i,j,s.trans t⟩
  |goto l=>exact⟨b,d,r,i,j,s.trans t⟩
  |ret=>exact⟨b,d,r,i,j,s.trans t⟩
  |panic c=>exact⟨b,d,r,i,j,s.trans t⟩
  |outgrown=>exact⟨b,d,r,i,j,s.trans t⟩
 exact E _ q w x a rfl h0 T R (jO.refl _ _ _ _)
def Oa{w w':bD}{a:Nat}{e:TypeId}{size:Nat}{v:Value}{n:Nat}{xs:List Value}(h:w.ownsRow a e size v n xs)
  (j:∀g,lZ v=some g->w'.heap[g]?=w.heap[g]?):w'.ownsRow a e size v n xs:=by
 obtain⟨l,c⟩:=h;refine⟨l,?_⟩;rcases c with c|⟨g,d,b,f,k,i,r⟩
 .exact .inl c
 .exact .inr ⟨g,d,b,f,k,by rw[j g (by simp[f,lZ])];exact i,r⟩
def HE.zO{P:bo}{B:Nat}{w:bD}{J:ak}{μ:Mem}{v:Value}{o:Ob}(h:HE P B w J μ v o)(t:o≠.dead){b:Nat}(a:lZ v=some b):B<=b/\b<w.heap.size:=by
 cases o with
 |dead=>exact absurd rfl t
 |box T D =>
  obtain⟨y,C,rfl,e,d,_⟩:=h;simp only[lZ,ae]at a;subst a;exact⟨e,(cg.1 d).1⟩
 |row E G q g z H =>
  obtain⟨_,f,⟨_,d⟩,_⟩:=h;rcases d with⟨rfl,_⟩|⟨g,p,s,rfl,l,u,_⟩
  .simp[lZ]at a
  .simp only[lZ,ae]at a;subst a;exact⟨l,(cg.1 u).1⟩
 |map K E I =>
  obtain⟨r,k,clock,rfl,e,d,_⟩:=h;simp only[lZ,ae]at a;subst a;exact⟨e,(cg.1 d).1⟩
 |iter x m E n A c =>
  cases x
  .obtain⟨r,F,since,i,rfl,e,d,_⟩:=h;simp only[lZ,ae]at a;subst a;exact⟨e,(cg.1 d).1⟩
  .obtain⟨j,rfl,_⟩:=h;simp[lZ]at a
def kN.jF{w:bD}{J:ak}{μ:Mem}{w':bD}{J':ak}{μ':Mem}{xs:dF}{sz:Nat}{vals:List Value}(h:kN w J μ xs sz vals)(k:uc w J μ w' J' μ'):kN w' J' μ' xs sz vals :=
 ⟨h.1,λi j x a=>⟨(h.2 i j x a).1,let ⟨v,c,b⟩:=(h.2 i j x a).2;⟨v,c,k _ _ b⟩⟩⟩
def C6.jF{w:bD}{J:ak}{μ:Mem}{w':bD}{J':ak}{μ':Mem}{c:List (V×V)}{b:Array MapEntry}{clock:Nat}(h:C6 w J μ c b clock)(k:uc w J μ w' J' μ'):C6 w' J' μ' c b clock :=
 ⟨h.1,λi a x g=>let ⟨l,d,e,f,j,m⟩:=h.2.1 i a x g;⟨l,d,e,f,k _ _ j,k _ _ m⟩,h.2.2⟩
def Fa(w:bD)(J:ak)(μ:Mem)(w':bD)(J':ak)(μ':Mem)(m:Nat):Prop :=
 ∀(K E:Nat) (h:List (V×V)) (g:Nat) (c:Array MapEntry) (clock:Nat),J[m]?=some (.map K E h)->μ m=.map (some g)->w.heap[g]?=some (.map c clock) ->
  μ' m=.map (some g)/\∃k j d a b,J'[m]?=some (.map k j d)/\w'.heap[g]?=some (.map a b)/\E<=j /\
   (j=E->h.length<=d.length/\(d.length=h.length->b=clock/\∀(i:Nat) (f:MapEntry),a[i]?=some f->∃e,c[i]?=some e/\e.born=f.born) /\
    ∀(i:Nat) (e:MapEntry),c[i]?=some e->∃f,a[i]?=some f/\f.born=e.born)
def Wj.step{w:bD}{J:ak}{μ:Mem}{w':bD}{J':ak}{μ':Mem}{m l n0:Nat}{q:dK}{f:cU}{j since:Nat}{b:Array Nat}(h:Wj w J μ m l n0 q f j since b)(z:Fa w J μ w' J' μ' m):Wj w' J' μ' m l n0 q f j since b:=by
 obtain⟨O,M,K,E,s,g,clock,t,A,u,P⟩:=h;obtain⟨T,I,r,o,d,a,N,g3,y,W⟩:=z K E s j g clock t O A;refine⟨T,M,I,r,o,d,a,N,g3,cu u y,λhe=>?_⟩;have C:E=l:=by omega
 have x:r=E:=by omega
 obtain⟨V,Q⟩:=P C;obtain⟨G,v,S⟩:=W x;refine⟨cu V G,λhn=>?_⟩;have X:s.length=n0:=by omega
 obtain⟨Y,D,R⟩:=Q X;obtain⟨H,U⟩:=v (by omega);refine⟨H.trans Y,λi n B=>?_,λc F=>?_⟩
 .obtain⟨e,k,p⟩:=U i n B;rw[<- p];exact D i e k
 .obtain⟨e,k,p⟩:=R c F;obtain⟨n,Z,L⟩:=S c e k;exact⟨n,Z,by rw[L];exact p⟩
def Wh.step{w:bD}{J:ak}{μ:Mem}{w':bD}{J':ak}{μ':Mem}{m i n0:Nat}{f:cU}{born:Int}(h:Wh w J μ m i n0 f born)(C:Fa w J μ w' J' μ' m):Wh w' J' μ' m i n0 f born:=by
 obtain⟨k,s,K,E,D,d,clock,n,F,r,t⟩:=h;obtain⟨A,O,j,g,b,a,q,p,z,H⟩:=C K E D k d clock n s F;refine⟨k,A,O,j,g,b,a,q,p,cu r z,λP=>?_⟩;have L:E=i:=by omega
 have y:j=E:=by omega
 obtain⟨G,u⟩:=t L;obtain⟨l,_,x⟩:=H y;refine⟨cu G l,λc M=>?_⟩;obtain⟨e,B,I⟩:=u c M;obtain⟨v,N,o⟩:=x c e B;exact⟨v,N,by rw[o];exact I⟩
def Fa.same{w:bD}{J:ak}{μ:Mem}{w':bD}{J':ak}{μ':Mem}{m:Nat}(h1:J'[m]?=J[m]?)(g:μ' m=μ m)(k:∀b,lZ (μ m)=some b->w'.heap[b]?=w.heap[b]?):Fa w J μ w' J' μ' m:=by
 intro K E j d a clock f c n;exact⟨g.trans c,K,E,j,a,clock,h1.trans f,by rw[k d (by rw[c];rfl)];exact n,aD _,λ_=>⟨aD _,λ_=>⟨rfl,λi l h=>⟨l,h,rfl⟩⟩,λi e h=>⟨e,h,rfl⟩⟩⟩
def HE.jF{P:bo}{B:Nat}{w:bD}{J:ak}{μ:Mem}{w':bD}{J':ak}{μ':Mem}{v:Value}{o:Ob}(h:HE P B w J μ v o)(k:uc w J μ w' J' μ')
  (p:∀b,lZ v=some b->w'.heap[b]?=w.heap[b]?) (hi:∀y m E n q c,o=.iter y m E n q c->Fa w J μ w' J' μ' m:=by intro _ _ _ _ _ _ h;cases h):HE P B w' J' μ' v o:=by
 cases o with
 |dead=>trivial
 |box T M =>
  obtain⟨z,C,rfl,d,a,t,s⟩:=h;exact⟨z,C,rfl,d,by rw[p z rfl];exact a,t,λj x H=>let ⟨u,D,I⟩:=s j x H;⟨u,D,k _ _ I⟩⟩
 |row E N F g L O =>
  obtain⟨A,e,d,a⟩:=h;exact⟨A,e,Oa d p,a.jF k⟩
 |map K E Q =>
  obtain⟨r,l,clock,rfl,d,a,t⟩:=h;exact⟨r,l,clock,rfl,d,by rw[p r rfl];exact a,t.jF k⟩
 |iter y m E n q c =>
  cases y
  .obtain⟨r,G,since,f,rfl,d,a,s⟩:=h;exact⟨r,G,since,f,rfl,d,by rw[p r rfl];exact a,s.step (hi _ m E n q c rfl)⟩
  .obtain⟨i,rfl,h⟩:=h;exact⟨i,rfl,h.step (hi _ m E n q c rfl)⟩
def lj.zO{P:bo}{B:Nat}{w0 w:bD}{J:ak}{μ:Mem}(h:lj P B w0 w J μ){id:Nat}{o:Ob}(c:J[id]?=some o)(a:o≠.dead){b:Nat}(d:lZ (μ id)=some b):B<=b/\b<w.heap.size :=
 (h.obj id o c).zO a d
def lj.update{P:bo}{B:Nat}{w0 w:bD}{J:ak}{μ:Mem}{w':bD}{J':ak}{μ':Mem}(s:lj P B w0 w J μ)(id:Nat)(row:cU)
  (U:w.grownBy w' row)
  (dd:∀b,row=some b->∃o,J[id]?=some o/\o≠.dead/\lZ (μ id)=some b)
  (H:J.length<=J'.length)
  (f:∀j,j≠id->J'[j]?=J[j]?)
  (l:∀j,j≠id->μ' j=μ j)
  (oC:∀b,lZ (μ' id)=some b->(∃o,J[id]?=some o/\o≠.dead/\lZ (μ id)=some b)\/w.heap.size<=b)
  (pk:∀b off v o,J[id]?=some o->o≠.dead->lZ (μ id)=some b->w.cell? ⟨b,off,none⟩=some v->¬wr J μ b off ->
   w'.cell? ⟨b,off,none⟩=some v/\∀o',J'[id]?=some o'->lZ (μ' id)=some b->¬o'.wat off)
  (JY:∀T cs,J[id]?=some (.box T cs)->(∃aa,J'[id]?=some (.box T aa))/\μ' id=μ id)
  (Z:∀K E O,J[id]?=some (.map K E O)->(∃E' af,J'[id]?=some (.map K E' af))/\μ' id=μ id/\Fa w J μ w' J' μ' id)
  (ad:∀E sz by' D sh xs,id<J.length->J'[id]?=some (.row E sz by' D sh xs)->∃g W N,J[id]?=some (.row E sz by' g W N)/\g<=D/\(g=D->N.length=xs.length/\μ' id=μ id))
  (fR:s7 w J μ w' J' μ'->∀o,J'[id]?=some o->HE P B w' J' μ' (μ' id) o)
  (ac:∀L m E n G c,J[id]?=some (.iter L m E n G c)->(∃ab c',J'[id]?=some (.iter L m E n ab c'))/\μ' id=μ id:=by intro _ _ _ _ _ _ h;simp_all) :
  lj P B w0 w' J' μ'/\s7 w J μ w' J' μ':=by
 have hp:s7 w J μ w' J' μ':=by
  refine⟨λb off v S Y=>?_,H,λj T cs d=>?_,λj K E O d=>?_,λj L m E n G c d=>?_,λj E sz by' D sh xs pR d=>?_⟩
  .have fk:=World.block_lt_of_cell? w _ S;refine⟨?_,?_⟩
   .by_cases F:some b=row
    .obtain⟨o,p,q,r⟩:=dd b F.symm;exact(pk b off v o p q r S Y).1
    .exact U.cell S F
   .rintro⟨j,Q,d,e,I⟩
    by_cases a:j=id
    .subst a;rcases oC b e with⟨o,p,q,r⟩|h
     .exact(pk b off v o p q r S Y).2 Q d e I
     .exact absurd fk (Nat.not_lt.2 h)
    .rw[f j a]at d;rw[l j a]at e;exact Y ⟨j,Q,d,e,I⟩
  .by_cases a:j=id
   .subst a;exact JY T cs d
   .exact⟨⟨cs,by rw[f j a];exact d⟩,l j a⟩
  .by_cases a:j=id
   .subst a;exact⟨(Z K E O d).1,(Z K E O d).2.1⟩
   .exact⟨⟨E,O,by rw[f j a];exact d⟩,l j a⟩
  .by_cases a:j=id
   .subst a;exact ac L m E n G c d
   .exact⟨⟨G,c,by rw[f j a];exact d⟩,l j a⟩
  .by_cases a:j=id
   .subst a;exact ad E sz by' D sh xs pR d
   .rw[f j a]at d;exact⟨D,sh,xs,d,aD _,λ_=>⟨rfl,l j a⟩⟩
 refine⟨⟨s.below.grown U s.base (λk hk=>?_),cu s.base U.size,λj o d=>?_,λi j oi Q b R d z A t e=>?_⟩,hp⟩
 .obtain⟨o,p,q,r⟩:=dd k hk;exact(s.zO p q r).1
 .by_cases a:j=id
  .subst a;exact fR hp o d
  .rw[f j a]at d;rw[l j a]
   by_cases M:o=.dead
   .subst M;trivial
   .have y:∀(j:Nat) (o:Ob),J[j]?=some o->o≠.dead->j≠id->∀b,lZ (μ j)=some b->w'.heap[b]?=w.heap[b]?:=by
     intro j o d M a b F;refine U.block b (s.zO d M F).2 λam=>?_;obtain⟨o2,p,q,r⟩:=dd b am.symm;exact a (s.sep j id o o2 b d p M q F r)
    refine(s.obj j o d).jF hp.jF (y j o d M a) λL m E n G c ho=>?_;intro V X C bm x clock p q r
    by_cases u:m=id
    .subst u;exact(Z V X C p).2.2 V X C bm x clock p q r
    .exact Fa.same (f m u) (l m u) (y m _ p (by simp) u) V X C bm x clock p q r
 .by_cases OK:i=id
  .subst OK
   by_cases a:j=i
   .exact a.symm
   .rw[f j a]at d;rw[l j a]at e;rcases oC b t with⟨o,p,q,r⟩|h
    .exact s.sep i j o Q b p d q A r e
    .exact absurd (s.zO d A e).2 (Nat.not_lt.2 h)
  .rw[f i OK]at R;rw[l i OK]at t
   by_cases a:j=id
   .subst a;rcases oC b e with⟨o,p,q,r⟩|h
    .exact s.sep i j oi o b R p z q t r
    .exact absurd (s.zO R z t).2 (Nat.not_lt.2 h)
   .rw[f j a]at d;rw[l j a]at e;exact s.sep i j oi Q b R d z A t e
def lj.grown{P:bo}{B:Nat}{w0 w:bD}{J:ak}{μ:Mem}{w':bD}(a:lj P B w0 w J μ)(d:w.grownBy w' none):lj P B w0 w' J μ/\s7 w J μ w' J μ:=by
 have q:s7 w J μ w' J μ:=⟨λb C v H z=>⟨d.cell H (by simp),z⟩,aD _,λ_ _ x h=>⟨⟨x,h⟩,rfl⟩,λ_ _ E F h=>⟨⟨E,F,h⟩,rfl⟩,λ_ _ _ _ _ l c h=>⟨⟨l,c,h⟩,rfl⟩,λ_ _ _ _ g t D _ h=>⟨g,t,D,h,aD _,λ_=>⟨rfl,rfl⟩⟩⟩;refine⟨⟨a.below.grown d a.base (by simp),cu a.base d.size,λj o r=>?_,a.sep⟩,q⟩
 by_cases k:o=.dead
 .subst k;trivial
 .refine(a.obj j o r).jF q.jF (λb f=>d.block b (a.zO r k f).2 (by simp)) λK m E n l c I=>?_;intro u y i A e clock p s G;exact Fa.same rfl rfl (λb f=>d.block b (a.zO p (by simp) f).2 (by simp)) u y i A e clock p s G
def yO(μ:Mem)(id:Nat)(v:Value):Mem:=λj=>if j=id then v else μ j
def gR(μ:Mem)(id:Nat)(v:Value):yO μ id v id=v:=by simp[yO]
def sI(μ:Mem)(id:Nat)(v:Value)(j:Nat)(h:j≠id):yO μ id v j=μ j:=by simp[yO,h]
def F4(J:ak)(o:Ob)(j:Nat)(h:j≠J.length):(J++[o])[j]?=J[j]?:=by
 rcases kE j J.length with a|a
 .rw[ay a]
 .have b:J.length<j:=by omega
  rw[cI (by simp;omega),cI a]
def nY(J:ak)(o:Ob):¬(J[J.length]?=some o):=by simp
def lj.z6{P:bo}{B:Nat}{w0 w:bD}{J:ak}{μ:Mem}{w':bD}(l:lj P B w0 w J μ)(o:Ob)(v:Value)(i:w.grownBy w' none)
  (k:∀b,lZ v=some b->w.heap.size<=b)
  (m:s7 w J μ w' (J++[o]) (yO μ J.length v)->HE P B w' (J++[o]) (yO μ J.length v) v o) :
  lj P B w0 w' (J++[o]) (yO μ J.length v)/\s7 w J μ w' (J++[o]) (yO μ J.length v):=by
 refine l.update J.length none i (by simp) (by simp) (λj d=>F4 J o j d) (λj d=>sI μ _ v j d) ?_ ?_ ?_ ?_ ?_ ?_ (λ_ _ _ _ _ _ h=>absurd h (nY J _))
 .intro b e;rw[gR]at e;exact .inr (k b e)
 .intro b g u c h;exact absurd h (nY J c)
 .intro T p h;exact absurd h (nY J _)
 .intro K E n h;exact absurd h (nY J _)
 .intro _ _ _ _ _ _ h;omega
 .intro f c a;have:c=o:=by simpa using a.symm
  subst this;rw[gR];exact m f
inductive O where
 |t (n:Nat)
 |c (v:V)
inductive I where
 |gm (x:O)
 |pick (c a b:O)
 |box (T:Nat) (x:O)
 |alloc (T:Nat) (zs:aB)
 |build (zs:aB) (parts:List (Nat×Nat×O))
 |dH (sz:Nat) (szs:List (cU)) (xs:List O)
 |Sg (E sz by':Nat) (szs:List (cU)) (xs:List O)
 |load (k:cU) (a:O)
 |store (k:Nat) (szs:List (cU)) (a x:O)
 |gU (x:O)
 |bin (op:BinOp) (x y:O)
 |beq (neg:Bool) (ks:dK) (x y:O)
 |bbq (neg:Bool) (x y:O)
 |un (op:UnOp) (x:O)
 |cvi (k:IntKind) (x:O)
 |b2s (x:O)
 |slice (sz:Nat) (x:O) (lo hi:Option O)
 |za (x:O) (lo hi:Option O)
 |pq (off:Nat) (x:O)
 |idx (sz:Nat) (x i:O)
 |Dy (x i:O)
 |Sl (n sz:Nat) (x i:O)
 |asl (n:Nat) (x:O)
 |ext (k:Nat) (x:O)
 |len (str:Bool) (x:O)
 |max2 (x y:O)
 |min2 (x y:O)
 |app (E sz by':Nat) (x y:O)
 |apps (E:Nat) (x y:O)
 |mk (E sz by':Nat) (zs:aB) (l c:O)
 |GP (K E:Nat)
 |look (kd:Nat) (z:V) (ok:Bool) (m k:O)
 |FK (kd:Nat) (szs:List (cU)) (m k x:O)
 |Jj (x:O)
 |call (f:Nat) (args:List O)
 |uD (x:O) (args:List O)
 |clo (f:Nat) (xs:List O)
 |RZ (sz:Nat) (zs:aB) (x:O)
 |Lx (kd:Nat) (m k:O)
 |Oi (kd:Nat) (z:V) (m k:O)
 |Oh (szs:List (cU)) (m s x:O)
 |range (x:O)
 |next (x:O)
 |ent (x:O)
 |Wn (off:Nat) (x:O)
 |SJ (n:Nat) (x i:O)
 |clip (sz:Nat) (x h m:O)
 |PT (x y:O)
 |mkb (E by':Nat) (l c:O)
 |stop
def Gh:Value->Option V
 |.bool x=>some (.b x)
 |.int k n=>some (.i k n)
 |.string x=>if x.data.toList.length<=maxLen then some (.s x.data.toList)else none
 |.slice none 0 0=>some .nil
 |.pointer none=>some .mu
 |.map none=>some .jG
 |_=>none
def cO:Operand->Option O
 |.tmp t=>some (.t t)
 |.const v=>(Gh v).map .c
 |.func f=>some (.c (.fn f []))
 |.global _=>none
def cOs:List Operand->Option (List O)
 |[]=>some []
 |x::xs=>match cO x,cOs xs with
  |some y,some a=>some (y::a)
  |_,_=>none
def mP:List Value->Option (aB)
 |[]=>some []
 |x::xs=>match Gh x,mP xs with
  |some y,some a=>some (y::a)
  |_,_=>none
def ot(P:bo)(n:Nat):List Field->Option (dK)
 |[]=>some []
 |f::fs=>if f.offset=n/\f.name ≠ "_" then match P.underlying f.type,ot P (n+1) fs with
   |some (.int _),some ks=>some (0::ks)
   |some .string,some ks=>some (1::ks)
   |some .bool,some ks=>some (2::ks)
   |_,_=>none
  else none
def Ug(P:bo)(T:Nat):Option (dK) :=
 match P.underlying T with
 |some (.struct fs)=>if P.stoodInHeld T=false/\P.eqGuardType P.depth T=false then ot P 0 fs.toList else none
 |some (.array 2 e)=>if P.eqGuardType P.depth T=false/\P.cellsOf e=1 then match P.underlying e with
   |some (.int _)=>some [0,0]
   |_=>none
  else none
 |_=>none
def adm(P:bo)(T:Nat):Bool :=
 match P.underlying T with
 |some (.int _)|some .string=>true
 |_=>false
def ach(P:bo)(T:Nat):Bool :=
 match P.underlying T with
 |some .bool=>true
 |_=>false
def jC(P:bo)(T:Nat):Option Bool :=
 match P.underlying T with
 |some (.struct _)|some (.array _ _)=>some true
 |some _=>some false
 |none=>none
def A9:Nat->List (Nat×Operand)->Option (List O)
 |_,[]=>some []
 |n,(i,x)::r=>if i=n then(match cO x,A9 (n+1) r with|some y,some a=>some (y::a)|_,_=>none)else none
def Ba(places:List (Nat×Nat)):List (Nat×Operand)->Option (List (Nat×Nat×O))
 |[]=>some []
 |(i,x)::r=>match places[i]?,cO x,Ba places r with
  |some (a,b),some y,some c=>some ((a,b,y)::c)
  |_,_,_=>none
def placesOf(P:bo)(a:List Field):Option (List (Nat×Nat)):=a.mapM λf=>(P.info? f.type).map λi=>(f.offset,i.size)
def ahM:dK->cU
 |[1,1]=>some 4
 |[0,1,0]=>some 5
 |_=>none
def oG(P:bo)(K:Nat):cU :=
 match P.underlying K with
 |some (.int _)=>some 0
 |some .string=>some 1
 |some (.struct fs)=>if P.stoodInHeld K=false then(ot P 0 fs.toList).bind ahM else none
 |some (.array 2 e)=>match P.underlying e with
  |some (.int _)=>if P.cellsOf e=1 then some 3 else none
  |_=>none
 |_=>none
def qd(a:Nat)(k:V):Bool:=match a with
 |3=>(match k with
  |.agg [.i _ _,.i _ _]=>true
  |_=>false)
 |4=>(match k with
  |.agg [.s _,.s _]=>true
  |_=>false)
 |5=>(match k with
  |.agg [.i _ _,.s _,.i _ _]=>true
  |_=>false)
 |_=>k.yf
def CS{a:Nat}{k:V}(h:qd a k=true):k.yf=true:=by
 unfold qd at h;split at h
 .split at h
  .rfl
  .simp at h
 .split at h
  .rfl
  .simp at h
 .split at h
  .rfl
  .simp at h
 .exact h
def aed(k:V):qd 0 k=k.yf:=rfl
def aec(k:V):qd 1 k=k.yf:=rfl
def aeb(k l:IntKind)(a b:Int):qd 3 (.agg [.i k a,.i l b])=true:=rfl
def aea(a b:aG):qd 4 (.agg [.s a,.s b])=true:=rfl
def ad9(k l:IntKind)(a b:Int)(c:aG):qd 5 (.agg [.i k a,.s c,.i l b])=true:=rfl
def B6:Option Operand->Option (Option O)
 |none=>some none
 |some x=>(cO x).map some
def FY:BinOp->Bool
 |.eql|.neq=>true
 |_=>false
def uN(P:bo):Nat->Nat->List (cU)
 |0,_=>[]
 |d+1,T=>match P.underlying T with
  |some (.slice e)=>[some (P.cellsOf e)]
  |some (.struct fs)=>fs.toList.flatMap λf=>uN P d f.type
  |_=>[none]
def tJ:cU->V->V
 |some sz,.nil=>.sl sz []
 |_,.lit sz xs=>.sl sz xs
 |_,x=>x
def eT:List (cU)->aB->aB
 |s::ss,x::a=>tJ s x::eT ss a
 |_,a=>a
def eS(a:List (cU)):V->V
 |.agg xs=>.agg (eT a xs)
 |y=>y
def zeroV(P:bo)(E:Nat):Option V :=
 match P.info? E with
 |some t=>match t.zero with
  |some (.agg cs)=>(mP cs.toList).map λzs=>.agg (eT (uN P 6 E) zs)
  |some z=>Gh z
  |none=>none
 |none=>none
def Rh:Value->Bool
 |.int .u8 0=>true
 |_=>false
def pw(P:bo)(c:Call):Option I :=
 match c.callee,c.args.toList,c.argTypes.toList with
 |.builtin .len,[x],[T]=>match P.underlying T,cO x with
  |some .string,some x=>some (.len true x)
  |some (.slice _),some x=>some (.len false x)
  |some (.map _ _),some x=>some (.Jj x)
  |_,_=>none
 |.builtin .max,[x,y],_=>match cO x,cO y with
  |some x,some y=>some (.max2 x y)
  |_,_=>none
 |.builtin .min,[x,y],_=>match cO x,cO y with
  |some x,some y=>some (.min2 x y)
  |_,_=>none
 |.builtin .append,[x,y],[T,U]=>match P.underlying T,cO x,cO y with
  |some (.slice E),some x,some y=>match P.info? E with
   |some t=>match t.zero with
    |some z=>if T=U then(if 0<t.size/\z.cells.size=t.size then some (.app E t.size t.bytes x y)else none)
     else match P.underlying U with
      |some .string=>if t.size=1/\t.bytes=1/\Rh z=true then some (.apps E x y)else none
      |_=>none
    |none=>none
   |none=>none
  |_,_,_=>none
 |.builtin .delete,[m,k],[T,K']=>match P.underlying T,cO m,cO k with
  |some (.map K _),some m,some k=>if K'=K then(oG P K).map λd=>.Lx d m k else none
  |_,_,_=>none
 |.builtin .clear,[x],[T]=>match P.underlying T,cO x with
  |some (.slice E),some x=>match P.info? E with
   |some t=>match t.zero with
    |some z=>if 0<t.size/\z.cells.size=t.size then(mP z.cells.toList).map λzs=>.RZ t.size (eT (uN P 6 E) zs) x else none
    |none=>none
   |none=>none
  |_,_=>none
 |.value (.func f),a,_=>match P.funcs[f]? with
  |some b=>if b.body.isSome/\b.name ≠ "runtime.NumGoroutine" then(cOs a).map (.call f)
   else if b.body.isNone/\b.name = "math/bits.Sub64" /\ b.origin = "" then match cOs a with
    |some [x,y,.c (.i .u64 0)]=>some (.PT x y)
    |_=>none
   else none
  |none=>none
 |.value (.tmp t),a,_=>(cOs a).map (.uD (.t t))
 |_,_,_=>none
def amy:cU->Nat->List O->Bool
 |some 23,_,[.t 18,.t 20,.t 22]=>true
 |some 46,_,[.t 45]=>true
 |some 53,2,[.t 52]=>true
 |some 79,11,[.t 78]=>true
 |_,_,_=>false
def VD:BinOp->Bool
 |.neq=>true
 |_=>false
def compile(P:bo)(o:Oper):Option I :=
 match o.op with
 |.move x|.assign x=>(cO x).map .gm
 |.pick c a b=>match cO c,cO a,cO b with
  |some c,some a,some b=>some (.pick c a b)
  |_,_,_=>none
 |.box T x=>(cO x).map (.box T)
 |.alloc T=>match P.info? T with
  |some t=>match t.zero with
   |some z=>(mP z.cells.toList).map (.alloc T)
   |none=>none
  |none=>none
 |.build T parts=>match P.info? T,P.underlying T with
  |some t,some (.struct fs)=>match t.zero with
   |some z=>match mP z.cells.toList,placesOf P fs.toList with
    |some zs,some places=>(Ba places parts.toList).map (.build zs)
    |_,_=>none
   |none=>none
  |some t,some (.array n E)=>match t.zero,P.info? E with
   |some z,some te=>match mP z.cells.toList with
    |some zs=>(Ba ((List.range n).map λi=>(i*te.size,te.size)) parts.toList).map (.build zs)
    |none=>none
   |_,_=>none
  |_,_=>none
 |.buildSlice T len parts=>match P.underlying T with
  |some (.slice E)=>match P.info? E with
   |some t=>match t.zero with
    |some z=>if parts.size=len/\0<t.size/\z.cells.size=t.size/\len*t.size<=2^24 then(A9 0 parts.toList).map λq=>if amy o.dst t.size q=true then .Sg E t.size t.bytes (uN P 6 E) q else .dH t.size (uN P 6 E) q else none
    |none=>none
   |none=>none
  |_=>none
 |.load T a=>match cO a,jC P T,P.info? T with
  |some a,some true,some t=>some (.load (some t.size) a)
  |some a,some false,some _=>some (.load none a)
  |_,_,_=>none
 |.store T a x=>match cO a,cO x,P.info? T with
  |some a,some x,some t=>some (.store t.size (uN P 6 T) a x)
  |_,_,_=>none
 |.nilCheck x=>(cO x).map .gU
 |.binOp op T x y _=>match cO x,cO y with
  |some x,some y=>if FY op then(if adm P T then some (.bin op x y)else if ach P T then some (.bbq (VD op) x y)else(Ug P T).map λr=>.beq (VD op) r x y)else some (.bin op x y)
  |_,_=>none
 |.unOp op _ x=>(cO x).map (.un op)
 |.convert s d x=>match P.underlying s,P.underlying d,cO x with
  |some (.int _),some (.int k),some x=>some (.cvi k x)
  |some (.slice e),some .string,some x=>match P.underlying e with
   |some (.int .u8)=>some (.b2s x)
   |_=>none
  |_,_,_=>none
 |.slice T x lo hi none=>match P.underlying T,cO x,B6 lo,B6 hi with
  |some .string,some x,some lo,some hi=>some (.za x lo hi)
  |some (.slice E),some x,some lo,some hi=>match P.info? E with
   |some t=>some (.slice t.size x lo hi)
   |none=>none
  |some (.array n E),some x,some none,some none=>match P.info? E with
   |some t=>if t.size=1/\n<=1024 then some (.asl n x)else none
   |none=>none
  |_,_,_,_=>none
 |.slice T x none (some h) (some m)=>match P.underlying T,cO x,cO h,cO m with
  |some (.slice E),some x,some h,some m=>match P.info? E with
   |some t=>some (.clip t.size x h m)
   |none=>none
  |_,_,_,_=>none
 |.fieldAddr T x f=>match P.underlying T,cO x with
  |some (.struct fs),some x=>match fs[f]? with
   |some g=>match P.info? g.type with
    |some t=>if t.size=0 then none else some (.pq g.offset x)
    |none=>none
   |none=>none
  |_,_=>none
 |.indexAddr T x i=>match P.underlying T,cO x,cO i with
  |some (.slice E),some x,some i=>match P.info? E with
   |some t=>some (.idx t.size x i)
   |none=>none
  |some (.array n E),some x,some i=>match P.info? E with
   |some t=>some (.Sl n t.size x i)
   |none=>none
  |_,_,_=>none
 |.index T x i=>match P.underlying T,cO x,cO i with
  |some .string,some x,some i=>some (.Dy x i)
  |some (.array n E),some x,some i=>if jC P E=some false/\P.cellsOf E=1 then some (.SJ n x i)else none
  |_,_,_=>none
 |.extract t k=>(cO t).map (.ext k)
 |.field T x f=>match P.underlying T,cO x with
  |some (.struct fs),some x=>match fs[f]? with
   |some g=>if jC P g.type=some false then some (.Wn g.offset x)else none
   |none=>none
  |_,_=>none
 |.makeSlice T l c=>match P.underlying T with
  |some (.slice E)=>match P.info? E with
   |some t=>match t.zero,cO l,cO c with
    |some (.slice none 0 0),some l,some c=>if t.size=1 then some (.mkb E t.bytes l c)else none
    |some z,some l,some c=>if 0<t.size/\z.cells.size=t.size then(mP z.cells.toList).map λzs=>.mk E t.size t.bytes (eT (uN P 6 E) zs) l c else none
    |_,_,_=>none
   |none=>none
  |_=>none
 |.lookup T m k ok=>match P.underlying T,cO m,cO k with
  |some (.map K E),some m,some k=>match oG P K,zeroV P E with
   |some j,some z=>some (.look j z ok m k)
   |_,_=>none
  |_,_,_=>none
 |.mapUpdate T m k x=>match P.underlying T,cO m,cO k,cO x with
  |some (.map K E),some m,some k,some x=>(oG P K).map λj=>.FK j (uN P 6 E) m k x
  |_,_,_,_=>none
 |.mapEntry T m k=>match P.underlying T,cO m,cO k with
  |some (.map K E),some m,some k=>match oG P K,zeroV P E with
   |some j,some z=>some (.Oi j z m k)
   |_,_=>none
  |_,_,_=>none
 |.entryStore T m s x=>match P.underlying T,cO m,cO s,cO x with
  |some (.map _ E),some m,some s,some x=>some (.Oh (uN P 6 E) m s x)
  |_,_,_,_=>none
 |.range T x=>match P.underlying T,cO x with
  |some (.map _ _),some x=>some (.range x)
  |_,_=>none
 |.next x false=>(cO x).map .next
 |.entry x=>(cO x).map .ent
 |.makeMap T none=>match P.underlying T with
  |some (.map K E)=>some (.GP K E)
  |_=>none
 |.call c=>pw P c
 |.makeFunc (.func f) first p=>if first.size=0 then(cOs p.toList).map (.clo f)else none
 |_=>none
def ev(fr:aB):O->V
 |.t n=>fr.getD n .u
 |.c v=>v
def jw:V->aB
 |.agg xs=>xs
 |x=>[x]
def kq(J:ak):V->Bool
 |.u|.agg _|.iQ _|.it _|.Af _ _=>false
 |.own id g=>match J[id]? with
  |some (.row _ _ _ g' _ _)=>g==g'
  |_=>false
 |.sub id g _ _=>match J[id]? with
  |some (.row _ _ _ g' _ _)=>g==g'
  |_=>false
 |.rp id g _ _=>match J[id]? with
  |some (.row _ _ _ g' _ _)=>g==g'
  |_=>false
 |_=>true
def kt(J:ak)(x:V):Bool:=match x with
 |.agg xs=>xs.all (kq J)
 |x=>kq J x
def Ct(cells:aB):List (Nat×Nat×aB)->Option (aB)
 |[]=>some cells
 |(off,sz,x)::r=>if x.length=sz/\off+sz<=cells.length then Ct (cells.take off++x++cells.drop (off+sz)) r else none
def Tk:aB->aB->Option Bool
 |[.i k a,.i l b],[.i k' a',.i l' b']=>if k=k'/\l=l' then some (a==a'&&b==b')else none
 |_,_=>none
def IA:aB->aB->Option Bool
 |[.s a,.s b],[.s a',.s b']=>some (a==a'&&b==b')
 |_,_=>none
def Ik:aB->aB->Option Bool
 |[.i k a,.s b,.i l c],[.i k' a',.s b',.i l' c']=>if k=k'/\l=l' then some (a==a'&&(b==b'&&c==c'))else none
 |_,_=>none
def dD:Nat->V->V->Option Bool
 |0,.i k a,.i k' b=>if k=k' then some (a==b)else none
 |1,.s a,.s b=>some (a==b)
 |2,.b a,.b b=>some (a==b)
 |3,.agg xs,.agg ys=>Tk xs ys
 |4,.agg xs,.agg ys=>IA xs ys
 |5,.agg xs,.agg ys=>Ik xs ys
 |_,_,_=>none
def gC:dK->aB->aB->Option Bool
 |[],[],[]=>some true
 |k::ks,x::xs,y::ys=>match dD k x y,gC ks xs ys with
  |some p,some q=>some (p&&q)
  |_,_=>none
 |_,_,_=>none
def kM(c:BinOp):V->V->Option (Prop×V)
 |.i k a,.i k' b=>match c with
  |.shl=>some (0<=b,.i k (k.wrap (a*2^(min b.toNat k.bits))))
  |.shr=>some (0<=b,.i k (a.fdiv (2^(min b.toNat k.bits))))
  |_=>if k=k' then match c with
   |.add=>some (True,.i k (k.wrap (a+b)))
   |.sub=>some (True,.i k (k.wrap (a - b)))
   |.mul=>some (True,.i k (k.wrap (a*b)))
   |.quo=>some (b≠0,.i k (k.wrap (a.tdiv b)))
   |.rem=>some (b≠0,.i k (a.tmod b))
   |.and=>some (True,.i k (k.wrap ((BitVec.ofInt k.bits a &&& BitVec.ofInt k.bits b).toNat:Int)))
   |.or=>some (True,.i k (k.wrap ((BitVec.ofInt k.bits a ||| BitVec.ofInt k.bits b).toNat:Int)))
   |.xor=>some (True,.i k (k.wrap ((BitVec.ofInt k.bits a ^^^ BitVec.ofInt k.bits b).toNat:Int)))
   |.eql=>some (True,.b (a==b))
   |.neq=>some (True,.b (a != b))
   |.lss=>some (True,.b (a<b))
   |.leq=>some (True,.b (a<=b))
   |.gtr=>some (True,.b (b<a))
   |.geq=>some (True,.b (b<=a))
   |_=>none
   else none
 |.s a,.s b=>match c with
  |.add=>some (a.length+b.length<=maxLen,.s (a++b))
  |.eql=>some (True,.b (a==b))
  |.neq=>some (True,.b (!(a==b)))
  |.lss=>some (True,.b (Op.bytesLess a b))
  |.leq=>some (True,.b (Op.bytesLess a b||a==b))
  |.gtr=>some (True,.b (!(Op.bytesLess a b||a==b)))
  |.geq=>some (True,.b (!Op.bytesLess a b))
  |_=>none
 |_,_=>none
def rowsOf(J:ak)(sz:Nat):V->Option (dF)
 |.nil=>some []
 |.lit sz' xs=>if sz'=sz then some xs else none
 |.sl sz' xs=>if sz'=sz then some xs else none
 |.own id g=>match J[id]? with
  |some (.row _ sz' _ g' _ xs)=>if g=g'/\sz'=sz then some xs else none
  |_=>none
 |.sub id g lo hi=>match J[id]? with
  |some (.row _ sz' _ g' _ xs)=>if g=g'/\sz'=sz then some ((xs.drop lo).take (hi - lo))else none
  |_=>none
 |_=>none
def yK:aB->Option UInt8
 |[.i .u8 n]=>some (UInt8.ofNat n.toNat)
 |_=>none
def bytesOf:dF->Option (aG)
 |[]=>some []
 |r::rs=>match yK r,bytesOf rs with
  |some x,some a=>some (x::a)
  |_,_=>none
def gV(b:Nat)(k:V):List (V×V)->Nat->Option (Option (Nat×V))
 |[],_=>some none
 |(a,x)::es,i=>match dD b k a with
  |some true=>some (some (i,x))
  |some false=>gV b k es (i+1)
  |none=>none
def ek(J:ak)(a:Nat)(m k:V):Option (Option (Nat×V)) :=
 match m with
 |.jG=>some none
 |.mp id=>match J[id]? with
  |some (.map _ _ es)=>gV a k es 0
  |_=>none
 |_=>none
def bT(fr:aB)(J:ak):I->Option (Prop×V)
 |.gm x=>some (True,ev fr x)
 |.pick c a b=>match ev fr c with
  |.b x=>some (True,match ev fr a,ev fr b with
   |.b p,.b q=>.b (bif x then p else q)
   |p,q=>bif x then p else q)
  |_=>none
 |.build zs parts=>match Ct zs (parts.map λ(e,t,x)=>(e,t,jw (ev fr x)))with
  |some v=>some (∀p∈parts,kt J (ev fr p.2.2)=true,.agg v)
  |none=>none
 |.dH t szs d=>some ((∀x∈d,kt J (ev fr x)=true)/\∀r∈d.map λx=>eT szs (jw (ev fr x)),r.length=t/\∀c∈r,c.pure=true,.lit t (d.map λx=>eT szs (jw (ev fr x))))
 |.load k a=>match ev fr a with
  |.ptr id e=>match J[id]? with
   |some (.box _ v)=>match k with
    |none=>match v[e]? with
     |some x=>some (True,x)
     |none=>none
    |some n=>some (e+n<=v.length,.agg ((v.drop e).take n))
   |_=>none
  |.ep _ d i e=>match k with
   |none=>match gj d i e with
    |some x=>some (True,x)
    |none=>none
   |some n=>some (e+n<=(d.getD i []).length,.agg (((d.getD i []).drop e).take n))
  |.rp id g i e=>match J[id]? with
   |some (.row _ _ _ g' _ d)=>if g=g' then match k with
    |none=>match gj d i e with
     |some x=>some (True,x)
     |none=>none
    |some n=>some (e+n<=(d.getD i []).length,.agg (((d.getD i []).drop e).take n))
    else none
   |_=>none
  |_=>none
 |.gU x=>match ev fr x with
  |.ptr id e=>some (True,.ptr id e)
  |.ep t d i e=>some (True,.ep t d i e)
  |.rp id g i e=>match J[id]? with
   |some (.row _ _ _ g' _ _)=>if g=g' then some (True,.rp id g i e)else none
   |_=>none
  |_=>none
 |.bin op x y=>kM op (ev fr x) (ev fr y)
 |.beq neg ks x y=>match ev fr x,ev fr y with
  |.agg d,.agg ys=>match gC ks d ys with
   |some r=>some (True,.b (bif neg then !r else r))
   |none=>none
  |_,_=>none
 |.bbq neg x y=>match ev fr x,ev fr y with
  |.b p,.b q=>some (True,.b (bif neg then !(p==q)else(p==q)))
  |_,_=>none
 |.un op x=>match op,ev fr x with
  |.not,.b p=>some (True,.b (!p))
  |.neg,.i k n=>some (True,.i k (k.wrap (0 - n)))
  |_,_=>none
 |.cvi k x=>match ev fr x with
  |.i _ n=>some (True,.i k (k.wrap n))
  |_=>none
 |.b2s x=>match rowsOf J 1 (ev fr x)with
  |some d=>match bytesOf d with
   |some l=>some (True,.s l)
   |none=>none
  |none=>none
 |.slice t x lo hi =>
  let n:cU:=match ev fr x with
   |.nil=>some 0
   |.lit sz' d=>if sz'=t then some d.length else none
   |.sl sz' d=>if sz'=t then some d.length else none
   |.own id g=>match J[id]? with
    |some (.row _ sz' _ g' _ d)=>if g=g'/\sz'=t then some d.length else none
    |_=>none
   |_=>none
  match n with
  |none=>none
  |some n =>
   let l:Cc:=match lo with
    |none=>some 0
    |some x=>match ev fr x with
     |.i _ a=>some a
     |_=>none
   let h:Cc:=match hi with
    |none=>some n
    |some x=>match ev fr x with
     |.i _ a=>some a
     |_=>none
   match l,h with
   |some l,some h=>match ev fr x with
    |.nil=>some (l=0/\h=0,.nil)
    |.lit _ d=>some (0<=l/\l<=h/\h<=n,.sl t ((d.drop l.toNat).take (h.toNat - l.toNat)))
    |.sl _ d=>some (0<=l/\l<=h/\h<=n,.sl t ((d.drop l.toNat).take (h.toNat - l.toNat)))
    |.own id g=>some (0<=l/\l<=h/\h<=n,.sub id g l.toNat h.toNat)
    |_=>none
   |_,_=>none
 |.za x lo hi=>match ev fr x with
  |.s a =>
   let l:Cc:=match lo with
    |none=>some 0
    |some x=>match ev fr x with
     |.i _ a=>some a
     |_=>none
   let h:Cc:=match hi with
    |none=>some a.length
    |some x=>match ev fr x with
     |.i _ a=>some a
     |_=>none
   match l,h with
   |some l,some h=>some (0<=l/\l<=h/\h<=a.length,.s ((a.drop l.toNat).take (h.toNat - l.toNat)))
   |_,_=>none
  |_=>none
 |.pq e x=>match ev fr x with
  |.ptr id o=>some (True,.ptr id (o+e))
  |.ep t d i o=>some (True,.ep t d i (o+e))
  |.rp id g i o=>match J[id]? with
   |some (.row _ _ _ g' _ _)=>if g=g' then some (True,.rp id g i (o+e))else none
   |_=>none
  |_=>none
 |.idx t x i=>match ev fr i with
  |.i _ n=>match ev fr x with
   |.sl sz' d=>if sz'=t then some (0<=n/\n<d.length,.ep t d n.toNat 0)else none
   |.lit sz' d=>if sz'=t then some (0<=n/\n<d.length,.ep t d n.toNat 0)else none
   |.own id g=>match J[id]? with
    |some (.row _ sz' _ g' _ d)=>if g=g'/\sz'=t then some (0<=n/\n<d.length,.rp id g n.toNat 0)else none
    |_=>none
   |.sub id g lo hi=>match J[id]? with
    |some (.row _ sz' _ g' _ _)=>if g=g'/\sz'=t then some (0<=n/\n<(hi - lo:Nat),.rp id g (lo+n.toNat) 0)else none
    |_=>none
   |.Af id m=>if t=1 then some (0<=n/\n<m,.ptr id n.toNat)else none
   |_=>none
  |_=>none
 |.Sl n t x i=>match ev fr x,ev fr i with
  |.ptr id o,.i _ k=>some (0<=k/\k<n,.ptr id (o+k.toNat*t))
  |_,_=>none
 |.asl n x=>match ev fr x with
  |.ep _ d i 0=>if(d.getD i []).length=n then some (n<=1024,.sl 1 ((d.getD i []).map λc=>[c]))else none
  |_=>none
 |.Dy x i=>match ev fr x,ev fr i with
  |.s l,.i _ n=>some (0<=n/\n<l.length,.i .u8 (l.getD n.toNat 0).toNat)
  |_,_=>none
 |.ext k x=>match ev fr x with
  |.iQ d=>match d[k]? with
   |some y=>some (True,y)
   |none=>none
  |_=>none
 |.len true x=>match ev fr x with
  |.s l=>some (True,.i .i64 l.length)
  |_=>none
 |.len false x=>match ev fr x with
  |.nil=>some (True,.i .i64 0)
  |.lit _ d=>some (True,.i .i64 d.length)
  |.sl _ d=>some (True,.i .i64 d.length)
  |.own id g=>match J[id]? with
   |some (.row _ _ _ g' _ d)=>if g=g' then some (True,.i .i64 d.length)else none
   |_=>none
  |.sub id g lo hi=>match J[id]? with
   |some (.row _ _ _ g' _ _)=>if g=g' then some (True,.i .i64 (hi - lo:Nat))else none
   |_=>none
  |.Af _ n=>some (True,.i .i64 n)
  |_=>none
 |.Jj x=>match ev fr x with
  |.jG=>some (True,.i .i64 0)
  |.mp id=>match J[id]? with
   |some (.map _ _ es)=>some (True,.i .i64 es.length)
   |_=>none
  |_=>none
 |.look kd z ok m k=>match ek J kd (ev fr m) (ev fr k)with
  |some none=>some (qd kd (ev fr k)=true,if ok then .iQ [z,.b false]else z)
  |some (some (_,x))=>some (qd kd (ev fr k)=true,if ok then .iQ [x,.b true]else x)
  |none=>none
 |.max2 x y=>match ev fr x,ev fr y with
  |.i k a,.i _ b=>some (True,.i k (if a<b then b else a))
  |_,_=>none
 |.min2 x y=>match ev fr x,ev fr y with
  |.i k a,.i _ b=>some (True,.i k (if b<a then b else a))
  |_,_=>none
 |.clo f d=>some (True,.fn f (d.map (ev fr)))
 |.Wn e x=>match ev fr x with
  |.agg d=>match d[e]? with
   |some y=>some (True,y)
   |none=>none
  |_=>none
 |.SJ n x i=>match ev fr x,ev fr i with
  |.agg d,.i _ k=>some (0<=k/\k<n/\d.length=n,d.getD k.toNat .u)
  |_,_=>none
 |.PT x y=>match ev fr x,ev fr y with
  |.i .u64 p,.i .u64 q=>some (0<=p/\0<=q/\q<18446744073709551616,.iQ [.i .u64 ((p+18446744073709551616 - q) % 18446744073709551616),.i .u64 (if p<q then 1 else 0)])
  |_,_=>none
 |.clip t x h m=>match ev fr h,ev fr m with
  |.i _ p,.i _ q=>match ev fr x with
   |.sl sz' d=>if sz'=t then some (0<=p/\p<=q/\q<=d.length,.sl t (d.take p.toNat))else none
   |_=>none
  |_,_=>none
 |.ent x=>match ev fr x with
  |.it j=>match J[j]? with
   |some (.iter false m E n _ (some c))=>match J[m]? with
    |some (.map _ E' es)=>if E'=E/\es.length=n then match es[c]? with
     |some (k,y)=>some (True,.iQ [k,y])
     |none=>none
     else none
    |_=>none
   |_=>none
  |_=>none
 |_=>none
def E9(E sz by':Nat)(J:ak)(x:V)(ys:dF):Option (Prop×V×ak) :=
 match x with
 |.nil=>some (ys.length*by'<=2^47/\ys.length<=maxLen,.own J.length 0,J++[.row E sz by' 0 false ys])
 |.lit sz' xs=>if sz'=sz then some ((xs.length+ys.length)*by'<=2^47/\xs.length+ys.length<=maxLen,
   if ys.isEmpty then .lit sz xs else .own J.length 0,if ys.isEmpty then J else J++[.row E sz by' 0 false (xs++ys)])else none
 |.own id g=>match J[id]? with
  |some (.row E' sz' by2 g' sh xs)=>if g=g'/\E=E'/\sz=sz'/\by'=by2 then
    some ((xs.length+ys.length)*by'<=2^47/\xs.length+ys.length<=maxLen,.own id (g+1),J.set id (.row E sz by' (g+1) sh (xs++ys)))
   else none
  |_=>none
 |.sub id g lo hi=>match J[id]? with
  |some (.row E' sz' by2 g' sh xs)=>if g=g'/\E=E'/\sz=sz'/\by'=by2/\lo=0/\sh=false then
    some (hi<=xs.length/\(hi+ys.length)*by'<=2^47/\hi+ys.length<=maxLen,.own id (g+1),J.set id (.row E sz by' (g+1) false (xs.take hi++ys)))
   else none
  |_=>none
 |_=>none
def gp(l:aG):dF:=l.map λc=>[V.i .u8 c.toNat]
def dE(fr:aB)(J:ak):I->Option (Prop×V×ak)
 |.box T x=>some (kt J (ev fr x)=true,.ptr J.length 0,J++[.box T (jw (ev fr x))])
 |.alloc T zs=>some (True,.ptr J.length 0,J++[.box T zs])
 |.store k szs a x=>match ev fr a with
  |.ptr id off=>match J[id]? with
   |some (.box T cs)=>some (kt J (ev fr x)=true/\(jw (ev fr x)).length=k/\off+k<=cs.length,.u,J.set id (.box T (cs.take off++jw (ev fr x)++cs.drop (off+k))))
   |_=>none
  |.rp id g i off=>match J[id]? with
   |some (.row E sz by' g' sh xs)=>if g=g'/\sh=false then
     some (kt J (ev fr x)=true/\(∀c∈eT szs (jw (ev fr x)),c.pure=true)/\(jw (ev fr x)).length=k/\off+k<=sz/\i<xs.length,.u,
      J.set id (.row E sz by' g sh (xs.set i ((xs.getD i []).take off++eT szs (jw (ev fr x))++(xs.getD i []).drop (off+k)))))
    else none
   |_=>none
  |_=>none
 |.app E sz by' x y=>match rowsOf J sz (ev fr y)with
  |some d=>E9 E sz by' J (ev fr x) d
  |none=>none
 |.apps E x y=>match ev fr y with
  |.s l=>E9 E 1 1 J (ev fr x) (gp l)
  |_=>none
 |.mk E sz by' zs l c=>match ev fr l,ev fr c with
  |.i _ n,.i _ m=>some (0<=n/\(n=m\/n=0)/\0<=m/\m*by'<=2^48/\m<=maxLen/\(∀z∈zs,z.pure=true),.own J.length 0,J++[.row E sz by' 0 false (List.replicate n.toNat zs)])
  |_,_=>none
 |.GP K E=>some (True,.mp J.length,J++[.map K E []])
 |.RZ sz zs x=>match ev fr x with
  |.sub id g lo hi=>match J[id]? with
   |some (.row E sz' by' g' sh xs)=>if g=g'/\sz'=sz/\sh=false then
     some (∀z∈zs,z.pure=true,.iQ [],J.set id (.row E sz' by' g' sh (xs.take lo++List.replicate (hi - lo) zs++xs.drop hi)))
    else none
   |_=>none
  |_=>none
 |.Sg E sz by' szs xs=>some ((∀x∈xs,kt J (ev fr x)=true)/\∀r∈xs.map λx=>eT szs (jw (ev fr x)),r.length=sz/\∀c∈r,c.pure=true,.own J.length 0,J++[.row E sz by' 0 false (xs.map λx=>eT szs (jw (ev fr x)))])
 |.FK kd szs m k x =>
  let b:=eS szs (ev fr x)
  match ev fr m with
  |.mp id=>match J[id]? with
   |some (.map K E es)=>match gV kd (ev fr k) es 0 with
    |some none=>some (qd kd (ev fr k)=true/\b.lO=true,.u,J.set id (.map K E (es++[(ev fr k,b)])))
    |some (some (i,_))=>some (qd kd (ev fr k)=true/\b.lO=true,.u,J.set id (.map K E (es.set i (ev fr k,b))))
    |none=>none
   |_=>none
  |_=>none
 |.Lx kd m k=>match ev fr m with
  |.mp id=>match J[id]? with
   |some (.map K E es)=>match gV kd (ev fr k) es 0 with
    |some none=>some (qd kd (ev fr k)=true,.iQ [],J)
    |some (some (i,_))=>some (qd kd (ev fr k)=true,.iQ [],J.set id (.map K (E+1) (es.eraseIdx i)))
    |none=>none
   |_=>none
  |_=>none
 |.Oi kd z m k=>match ev fr m with
  |.mp id=>match J[id]? with
   |some (.map K E es)=>match gV kd (ev fr k) es 0 with
    |some none=>some (qd kd (ev fr k)=true/\z.lO=true,.iQ [z,.it J.length],J.set id (.map K E (es++[(ev fr k,z)]))++[.iter true id E (es.length+1) [] (some es.length)])
    |some (some (i,x))=>some (qd kd (ev fr k)=true,.iQ [x,.it J.length],J++[.iter true id E es.length [] (some i)])
    |none=>none
   |_=>none
  |_=>none
 |.Oh szs m s x =>
  let b:=eS szs (ev fr x)
  match ev fr m,ev fr s with
  |.mp id,.it j=>match J[id]?,J[j]? with
   |some (.map K E es),some (.iter true id' E' _ _ (some c))=>if id'=id/\E'=E then match es[c]? with
    |some (k,_)=>some (b.lO=true,.u,J.set id (.map K E (es.set c (k,b))))
    |none=>none
    else none
   |_,_=>none
  |_,_=>none
 |.range x=>match ev fr x with
  |.mp id=>match J[id]? with
   |some (.map _ E es)=>some (True,.it J.length,J++[.iter false id E es.length (List.range es.length) none])
   |_=>none
  |_=>none
 |.mkb E by' l c=>match ev fr l,ev fr c with
  |.i _ n,.i _ m=>some (n=m/\0<=n/\n*by'<=2^48/\n<=maxLen,.Af J.length n.toNat,J++[.box E (List.replicate n.toNat .nil)])
  |_,_=>none
 |_=>none
def Jh(J:ak)(x:V):Option (Nat×Nat×Nat×Nat×dK) :=
 match x with
 |.it j=>match J[j]? with
  |some (.iter false m E n ps _)=>match J[m]? with
   |some (.map _ E' es)=>if E'=E/\es.length=n then some (j,m,E,n,ps)else none
   |_=>none
  |_=>none
 |_=>none
end Go.Pm

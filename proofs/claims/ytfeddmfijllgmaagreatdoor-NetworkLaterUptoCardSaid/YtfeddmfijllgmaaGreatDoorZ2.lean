/- Part of a proof. -/
import Derived.Calls
import Derived.Below
import Derived.Laws.AppendOwn
import Derived.Laws.OwnMore
import Derived.Lib.LaidTab
import Derived.Laws.Cells
import Derived.Laws.Tables
import Derived.Laws.StructEq
import Derived.Laws.Slices
import Derived.Laws.Strings3
import Derived.Laws.DeepStrings4
import Derived.Laws.BytesString
import Derived.Laws.Concat
import Derived.Laws.Cover1
import Derived.Laws.Bits
import Derived.Lib.Strings
import Derived.Laws.BytesArg
set_option linter.all false
open Option renaming some->S,none->Y
open Bool renaming true->G,false->Z
open List renaming length->X
namespace Go
def Af:=@decide_eq_true
def Ag.{u}:=@List.find?_eq_none.{u}
def Ah.{u}:=@List.drop_drop.{u}
def Ai.{u}:=@Array.extract_size.{u}
def BI.{u}:=@List.mem_or_eq_of_mem_set.{u}
def BM.{u}:=@Ne.symm.{u}
def BN.{u,v}:=@List.pairwise_map.{u,v}
def BO.{u}:=@List.flatten_cons.{u}
def CH.{u}:=@Array.getElem?_replicate.{u}
def CI.{u}:=@Array.getElem?_push_size.{u}
def EA.{u}:=@List.filter_cons_of_pos.{u}
def Ew.{u}:=@forall_eq_or_imp.{u}
def Ex.{u,v}:=@List.mem_flatMap.{u,v}
def Ey.{u,v}:=@List.isEmpty_map.{u,v}
def Ez.{u}:=@List.getElem?_replicate.{u}
def H3:=@Nat.le_of_eq
def H4.{u}:=@List.takeWhile_sublist.{u}
def H5.{u}:=@List.all_nil.{u}
def H6.{u}:=@List.Sublist.length_le.{u}
def Ia.{u}:=@List.idxOf_cons.{u}
def Ib.{u}:=@List.drop_left'.{u}
def Jg.{u}:=@List.length_replicate.{u}
def Jh.{u}:=@Classical.choose_spec.{u}
def Ji.{u,v}:=@Array.getElem?_mapIdx.{u,v}
def KV.{u}:=@Array.getElem?_setIfInBounds_self_of_lt.{u}
def N0:=@Iff.rfl
def NT:=@Nat.mul_one
def NU.{u}:=@List.Pairwise.filter.{u}
def Q5.{u}:=@List.replicate_succ.{u}
def TA.{u}:=@cond_false.{u}
def TB.{u}:=@bne_iff_ne.{u}
def TC.{u,v}:=@List.mem_filterMap.{u,v}
def TD:=@List.getElem_range
def TE.{u}:=@List.append_of_mem.{u}
def TF:=@Int.not_lt
def TG:=@Int.emod_lt_of_pos
def TH:=@Array.toList_range
def TI.{u}:=@Array.append_empty.{u}
def Yq:=@UInt8.not_lt
def Yr:=@Nat.pow_succ
def Ys.{u}:=@List.take_sublist.{u}
def Yt.{u,v}:=@List.map_set.{u,v}
def Yu.{u}:=@List.drop_sublist.{u}
def Yv.{u}:=@List.any_eq_false.{u}
def Yw:=@Int.ofNat_le
def aA.{u}:=@List.getElem?_eq_getElem.{u}
def aB:=@Nat.le_refl
def aF.{u}:=@List.cons_append.{u}
def aG.{u}:=@List.getElem?_cons_zero.{u}
def aH.{u,v}:=@Option.map_eq_some_iff.{u,v}
def aI:=@Bool.false_eq_true
def aJ.{u}:=@List.append_assoc.{u}
def aK.{u}:=@beq_self_eq_true.{u}
def aN.{u}:=@List.getElem?_set_self.{u}
def aO.{u}:=@if_pos.{u}
def aP:=@Nat.zero_add
def aQ.{u}:=@List.getD_cons_zero.{u}
def aR.{u}:=@if_true.{u}
def aU.{u}:=@Array.length_toList.{u}
def aV:=@Bool.and_eq_true
def aX.{u}:=@List.length_take.{u}
def aY.{u,v}:=@Prod.mk.injEq.{u,v}
def aa.{u}:=@Option.some.injEq.{u}
def ab.{u,v}:=@List.length_map.{u,v}
def ac1.{u}:=@Option.getD_none.{u}
def ac2:=@Nat.le_add_right
def ac3.{u}:=@List.take_append.{u}
def ac4.{u,v}:=@List.lookup_cons.{u,v}
def ac5.{u,v}:=@List.getElem_map.{u,v}
def ac6.{u}:=@List.countP_cons.{u}
def ae.{u}:=@List.length_append.{u}
def ag.{u}:=@List.getElem?_eq_some_iff.{u}
def agS:=@Nat.div_add_mod
def agT:=@Int.emod_nonneg
def ah.{u}:=@List.length_cons.{u}
def ahA:=@Nat.two_pow_add_eq_or_of_lt
def ahB.{u}:=@List.idxOf_lt_length_of_mem.{u}
def aj.{u}:=@List.length_nil.{u}
def akm:=@eq_iff_iff
def akn.{u}:=@List.nodup_iff_pairwise_ne.{u}
def ako.{u}:=@List.drop_take.{u}
def akp:=@Int.tmod_eq_emod_of_nonneg
def akq:=@Int.pow_nonneg
def al:=@Int.toNat_natCast
def ao.{u}:=@if_neg.{u}
def apS.{u}:=@List.take_nil.{u}
def apT.{u}:=@List.set_eq_of_length_le.{u}
def apU.{u,v}:=@List.length_filterMap_le.{u,v}
def apV.{u}:=@List.drop_nil.{u}
def apW.{u}:=@List.Pairwise.imp_of_mem.{u}
def apX:=@Bool.and_self
def aq.{u,v}:=@List.map_nil.{u,v}
def aqA.{u,v}:=@Option.bind_eq_some_iff.{u,v}
def aqB:=@Nat.pos_of_mul_pos_left
def aqC:=@Nat.le_mul_of_pos_right
def aqD.{u}:=@List.pairwise_mergeSort.{u}
def aqE.{u}:=@List.getElem?_set_self'.{u}
def as2:=@List.pairwise_lt_range
def as4.{u}:=@Array.getElem?_push_lt.{u}
def aw.{u}:=@List.nil_append.{u}
def ax.{u}:=@List.getD_eq_getElem?_getD.{u}
def az.{u,v}:=@List.map_cons.{u,v}
def bB.{u}:=@List.getElem?_append_right.{u}
def bD.{u}:=@List.getElem?_set_ne.{u}
def bE.{u}:=@List.append_nil.{u}
def bJ.{u}:=@List.mem_append.{u}
def bM.{u}:=@List.not_mem_nil.{u}
def bN.{u}:=@List.length_drop.{u}
def bP.{u,v}:=@List.getElem?_map.{u,v}
def bQ.{u}:=@List.eq_nil_of_length_eq_zero.{u}
def bS:=@Nat.mul_le_mul_right
def bT.{u,v}:=@List.foldl_cons.{u,v}
def bV.{u}:=@List.forall_mem_cons.{u}
def bY:=@Classical.byContradiction
def bZ.{u}:=@Array.getElem?_eq_getElem.{u}
def bc.{u}:=@List.getElem?_append_left.{u}
def bj.{u}:=@List.getD_cons_succ.{u}
def bn.{u}:=@List.mem_of_getElem?.{u}
def bo.{u}:=@if_false.{u}
def bw.{u}:=@List.mem_cons.{u}
def bz:=@decide_eq_true_eq
def cA.{u}:=@List.getElem?_cons_succ.{u}
def cB.{u}:=@Array.getElem?_eq_some_iff.{u}
def cC.{u}:=@Array.getD_eq_getD_getElem?.{u}
def cE:=@Nat.le_trans
def cH.{u}:=@List.set_cons_succ.{u}
def cN:=@Bool.true_and
def cP.{u,v}:=@List.mem_map.{u,v}
def cQ.{u}:=@List.mem_singleton.{u}
def cX.{u}:=@List.pairwise_cons.{u}
def cZ:=@decide_true
def cc.{u}:=@List.take_of_length_le.{u}
def cd.{u}:=@List.mem_cons_of_mem.{u}
def cg:=@Nat.add_zero
def cn.{u}:=@List.getElem?_take_of_lt.{u}
def cp.{u}:=@List.getElem?_eq_none.{u}
def cu.{u}:=@List.set_cons_zero.{u}
def cw:=@and_self
def dA.{u,v}:=@Option.map_some.{u,v}
def dB.{u}:=@List.mem_of_mem_take.{u}
def dD:=@Nat.add_sub_cancel_left
def dE.{u}:=@List.getElem?_drop.{u}
def dF.{u}:=@implies_true.{u}
def dI.{u}:=@List.take_append_of_le_length.{u}
def dM.{u}:=@beq_iff_eq.{u}
def dN.{u}:=@List.mem_cons_self.{u}
def dQ.{u}:=@List.getElem_mem.{u}
def dR.{u}:=@List.mem_of_mem_drop.{u}
def dU:=@Bool.and_false
def dZ:=@decide_false
def da:=@Nat.add_assoc
def db:=@Bool.and_true
def dd.{u}:=@List.all_eq_true.{u}
def df.{u}:=@List.mem_iff_getElem?.{u}
def dm:=@and_true
def dp:=@false_imp_iff
def dq:=@Bool.false_and
def dt:=@Bool.not_eq_true'
def du:=@Nat.add_mul
def dv.{u}:=@List.eq_nil_iff_forall_not_mem.{u}
def eD:=@List.mem_range
def eG.{u}:=@List.takeWhile_cons.{u}
def eH.{u,v}:=@List.map_congr_left.{u,v}
def eI:=@Bool.not_eq_false'
def eP:=@not_false_eq_true
def eU.{u}:=@List.take_append_drop.{u}
def eZ.{u}:=@List.take_succ_cons.{u}
def ei:=@Bool.eq_iff_iff
def ej.{u}:=@List.set_append_right.{u}
def eu.{u}:=@Array.getElem?_modify.{u}
def fM.{u,v}:=@List.map_take.{u,v}
def fN.{u}:=@List.eq_nil_or_concat.{u}
def fO.{u}:=@List.drop_eq_getElem_cons.{u}
def fU:=@not_true
def fW.{u}:=@beq_eq_false_iff_ne.{u}
def fX.{u}:=@Array.getElem?_setIfInBounds_ne.{u}
def fa.{u}:=@List.size_toArray.{u}
def fb.{u}:=@List.length_pos_iff.{u}
def fc.{u,v}:=@List.flatMap_cons.{u,v}
def fi:=@Nat.min_eq_left
def fk.{u}:=@List.concat_eq_append.{u}
def ft.{u}:=@List.getElem?_take.{u}
def fv.{u}:=@List.mem_filter.{u}
def fw.{u}:=@List.length_set.{u}
def gD.{u}:=@List.pairwise_iff_getElem.{u}
def gG.{u}:=@List.pairwise_append.{u}
def gO:=@Nat.sub_self
def gQ.{u}:=@List.cons.injEq.{u}
def gW:=@decide_eq_false_iff_not
def gY:=@Nat.add_left_cancel_iff
def gZ.{u,v}:=@List.foldl_nil.{u,v}
def gj.{u}:=@ne_eq.{u}
def gl.{u,v}:=@List.map_append.{u,v}
def gm.{u}:=@List.isEmpty_cons.{u}
def gu:=@Nat.lt_of_lt_of_le
def hZ.{u}:=@List.any_eq_true.{u}
def iB:=@Nat.mul_comm
def iG:=@Bool.or_eq_true
def iM:=@Nat.mod_eq_of_lt
def iN.{u}:=@List.filter_cons.{u}
def iP:=@Nat.zero_le
def iQ:=@Nat.one_mul
def iT.{u}:=@List.getElem?_set.{u}
def iZ.{u}:=@List.getLast?_singleton.{u}
def ic:=@Int.fdiv_eq_ediv_of_nonneg
def im.{u}:=@List.all_cons.{u}
def iu.{u}:=@List.set_append_left.{u}
def iv.{u}:=@List.mem_append_left.{u}
def jF.{u}:=@List.ext_getElem?.{u}
def jG.{u}:=@Array.size_append.{u}
def jH.{u}:=@List.length_filter_le.{u}
def jM.{u}:=@List.take_zero.{u}
def jN:=@Bool.not_true
def jd:=@true_and
def je.{u}:=@List.filter_append.{u}
def js.{u,v}:=@Option.bind_some.{u,v}
def jt:=@Nat.lt_or_ge
def ju.{u}:=@List.isEmpty_nil.{u}
def jv:=@Int.natCast_zero
def kI.{u,v}:=@List.map_drop.{u,v}
def kJ:=@Int.lt_irrefl
def kO.{u,v,w}:=@List.map_map.{u,v,w}
def kP.{u}:=@Array.getElem?_append_left.{u}
def kQ:=@List.getElem?_range
def kW.{u}:=@Option.some.inj.{u}
def kX:=@Int.le_refl
def kj.{u}:=@List.getLast?_append.{u}
def km:=@Bool.or_eq_false_iff
def kn:=@BitVec.ofInt_natCast
def lB.{u,v}:=@List.flatMap_nil.{u,v}
def lC:=@BitVec.toNat_ofNat
def lF.{u}:=@List.set_set.{u}
def lK:=@Bool.not_false
def lW:=@of_decide_eq_true
def lX.{u}:=@List.length_eq_zero_iff.{u}
def lp.{u}:=@Array.getElem?_toList.{u}
def mL.{u}:=@List.take_take.{u}
def ma.{u}:=@List.take_left'.{u}
def mg:=@or_false
def mh.{u,v}:=@List.filterMap_cons.{u,v}
def mi.{u}:=@List.drop_succ_cons.{u}
def mz:=@Bool.false_or
def nQ:=@false_or
def nR.{u}:=@Option.some_or.{u}
def nS.{u}:=@Option.getD_some.{u}
def nT.{u,v}:=@Array.toList_map.{u,v}
def na.{u}:=@bne_self_eq_false.{u}
def nc:=@Nat.div_lt_of_lt_mul
def o0:=@false_and
def o5.{u}:=@List.set_comm.{u}
def oF:=@of_decide_eq_false
def oG:=@UInt8.toNat_ofNat'
def oH.{u}:=@List.drop_eq_nil_of_le.{u}
def oY:=@UInt8.toNat_inj
def oq:=@Nat.le_succ
def ot.{u}:=@List.drop_append_of_le_length.{u}
def pC.{u}:=@List.getElem?_toArray.{u}
def q7.{u}:=@List.mergeSort_perm.{u}
def qO.{u}:=@List.drop_length.{u}
def qQ.{u}:=@List.mem_of_find?_eq_some.{u}
def qf.{u}:=@List.take_left.{u}
def qg.{u}:=@List.drop_zero.{u}
def rT:=@decide_eq_false
def rU:=@List.range_succ
def rV.{u}:=@List.filter_nil.{u}
def sK:=@Nat.mod_lt
def sL:=@Nat.lt_of_le_of_lt
def sM:=@Bool.true_eq_false
def sO.{u}:=@List.filter_cons_of_neg.{u}
def tV:=@List.range_succ_eq_map
def tW.{u}:=@List.nodup_append.{u}
def tX.{u,v}:=@List.foldl_append.{u,v}
def tY:=@Bool.not_eq_false
def tZ.{u}:=@Array.size_modify.{u}
def uW.{u}:=@List.singleton_append.{u}
def uX.{u}:=@List.set_getElem_self.{u}
def uY.{u}:=@List.mem_append_right.{u}
def ua.{u}:=@Array.getElem?_eq_none.{u}
def vK.{u}:=@Array.eq_empty_of_size_eq_zero.{u}
def wa:=@Nat.sub_mul
def wc:=@Nat.pow_le_pow_right
def xQ:=@not_or
def xR.{u}:=@List.find?_some.{u}
def xS.{u,v}:=@Except.ok.injEq.{u,v}
def xT.{u}:=@Array.getElem?_setIfInBounds.{u}
def yD.{u}:=@bne_eq_false_iff_eq.{u}
def yE.{u}:=@List.countP_eq_zero.{u}
def yF.{u}:=@Array.toList_append.{u}
def yP:=@Nat.sub_zero
end Go
namespace Go
def ay{a b:Prop}(x:a)(y:b):a/\b:=⟨x,y⟩
abbrev gf:=List (List UInt8)
abbrev aL:=List UInt8
abbrev bH:=List Int
abbrev ed:=List Nat
abbrev de:=Option Nat
abbrev bF:=World
abbrev bl:=Program
abbrev fF:=List (Int×Int)
abbrev fu:=List (Nat×Bool)
end Go
namespace Go.Pm
open Go Go.RowKit
variable(F:bl)(U:Nat)(C:bF){R:Nat}{p:Value}{N H:bF}{L:bl}
inductive V where
 |u
 |b (x:Bool)
 |i (k:IntKind) (n:Int)
 |s (l:aL)
 |nil
 |lit (sz:Nat) (xs:List (List V))
 |sl (sz:Nat) (xs:List (List V))
 |own (id g:Nat)
 |sub (id g lo hi:Nat)
 |ptr (id off:Nat)
 |ep (sz:Nat) (xs:List (List V)) (i off:Nat)
 |rp (id g i off:Nat)
 |mp (id:Nat)
 |kL
 |lI
 |fn (f:Nat) (caps:List V)
 |agg (xs:List V)
 |iS (xs:List V)
@[match_pattern]abbrev V.I(a:Int):V:=.i .i64 a
abbrev eJ:=List (List V)
abbrev ar:=List V
def V.pure:V->Bool
 |.b _|.i _ _|.s _|.sl _ _=>G
 |_=>Z
def V.cell:V->Bool
 |.u|.agg _|.iS _=>Z
 |_=>G
inductive Ob where
 |dead
 |box (T:Nat) (cs:ar)
 |row (E sz by':Nat) (g:Nat) (sh:Bool) (xs:eJ)
 |map (K E:Nat) (es:List (V×V))
abbrev ai:=List Ob
variable{M q:ai}
abbrev Mem:=Nat->Value
variable{Q D:Mem}
def l9:Value->de|.pointer (S a)=>S a.block|.slice (S a) _ _=>S a.block|.map (S r)=>S r|_=>Y
def Ob.wat:Ob->Prop|.dead=>False|.box _ _=>True|.row _ sz _ _ sh xs=>sh=G->X xs*sz<=U|.map _ _ _=>True
def wr(J:ai)(μ:Mem)(b a:Nat):Prop:=∃id o,J[id]?=S o/\l9 (μ id)=S b/\o.wat a
def gi(a:eJ)(i j:Nat):Option V:=(a[i]?).bind (·[j]?)
def nO(v:Value)(b c sz:Nat):Value :=
 match v with|.slice a _ cap=>.slice (if cap=b then a else a.map (·.add (b*sz))) (c - b) (cap - b)|v=>v
def rpv(v:Value)(i b c:Nat):Value :=
 match v with|.slice (S a) _ _=>.pointer (S ⟨a.block,i*c+b,Y⟩)|v=>v
inductive VR (w:bF) (J:ai) (μ:Mem):V->Value->Prop
 |u (v:Value):VR w J μ .u v
 |b (x:Bool):VR w J μ (.b x) (.bool x)
 |i (k:IntKind) (n:Int):VR w J μ (.i k n) (.int k n)
 |s (l:aL) (x:ByteArray) (hl:x.data.toList=l) (hm:l.length<=maxLen):VR w J μ (.s l) (.string x)
 |nil:VR w J μ .nil (.slice none 0 0)
 |D1 (sz:Nat):VR w J μ (.sl sz []) (.slice none 0 0)
 |sle (sz:Nat) (a:Addr):VR w J μ (.sl sz []) (.slice (some a) 0 0)
 |sl (sz:Nat) (xs:eJ) (b o cap:Nat) (f:Nat->Nat->Value) (hlen:xs.length<=cap) (nP:cap<=maxLen) (dJ:∀r∈xs,r.length=sz)
   (hc:∀i j x,gi xs i j=some x->w.cell? ⟨b,o+i*sz+j,none⟩=some (f i j)/\¬wr J μ b (o+i*sz+j)/\x.pure=true)
   (hv:∀i j x,gi xs i j=some x->VR w J μ x (f i j)):VR w J μ (.sl sz xs) (.slice (some ⟨b,o,none⟩) xs.length cap)
 |MX (sz:Nat):VR w J μ (.lit sz []) (.slice none 0 0)
 |lit (sz:Nat) (xs:eJ) (b o:Nat) (f:Nat->Nat->Value) (nP:xs.length<=maxLen) (dJ:∀r∈xs,r.length=sz)
   (hc:∀i j x,gi xs i j=some x->w.cell? ⟨b,o+i*sz+j,none⟩=some (f i j)/\¬wr J μ b (o+i*sz+j)/\x.pure=true)
   (hv:∀i j x,gi xs i j=some x->VR w J μ x (f i j)):VR w J μ (.lit sz xs) (.slice (some ⟨b,o,none⟩) xs.length xs.length)
 |own (id g:Nat) (v:Value) (hid:id<J.length) (h:∀E sz by' g' sh xs,J[id]?=some (.row E sz by' g' sh xs)->g<=g'/\(g=g'->v=μ id)):VR w J μ (.own id g) v
 |sub (id g lo hi:Nat) (v:Value) (hid:id<J.length)
   (h:∀E sz by' g' sh xs,J[id]?=some (.row E sz by' g' sh xs)->g<=g'/\(g=g'->lo<=hi/\hi<=xs.length/\v=nO (μ id) lo hi sz)):VR w J μ (.sub id g lo hi) v
 |ptr (id off b:Nat) (h:∃T cs,J[id]?=some (.box T cs)) (hm:μ id=.pointer (some ⟨b,0,none⟩)):VR w J μ (.ptr id off) (.pointer (some ⟨b,off,none⟩))
 |ep (sz:Nat) (xs:eJ) (i off b o:Nat) (f:Nat->Value) (hi:i<xs.length) (dJ:∀r∈xs,r.length=sz)
   (hc:∀j x,gi xs i j=some x->w.cell? ⟨b,o+j,none⟩=some (f j)/\¬wr J μ b (o+j)/\x.pure=true)
   (hv:∀j x,gi xs i j=some x->VR w J μ x (f j)):VR w J μ (.ep sz xs i off) (.pointer (some ⟨b,o+off,none⟩))
 |rp (id g i off:Nat) (v:Value) (hid:id<J.length)
   (h:∀E sz by' g' sh xs,J[id]?=some (.row E sz by' g' sh xs)->g<=g'/\(g=g'->i<xs.length/\v=rpv (μ id) i off sz)):VR w J μ (.rp id g i off) v
 |mp (id r:Nat) (h:∃K E es,J[id]?=some (.map K E es)) (hm:μ id=.map (some r)):VR w J μ (.mp id) (.map (some r))
 |kL:VR w J μ .kL (.map none)
 |lI:VR w J μ .lI (.pointer none)
 |fn (f:Nat) (caps:ar) (vs:Array Value) (hl:caps.length=vs.size) (hv:∀i x,caps[i]?=some x->VR w J μ x (vs.getD i undef)) :
   VR w J μ (.fn f caps) (.func (.func f) #[] vs)
 |agg (xs:ar) (vs:Array Value) (hl:xs.length=vs.size) (hv:∀i x,xs[i]?=some x->VR w J μ x (vs.getD i undef)):VR w J μ (.agg xs) (.agg vs)
 |iS (xs:ar) (vs:Array Value) (hl:xs.length=vs.size) (hv:∀i x,xs[i]?=some x->VR w J μ x (vs.getD i undef)):VR w J μ (.iS xs) (.tuple vs)
inductive V.Lt (n:Nat):V->Prop
 |u:Lt n .u
 |b (x):Lt n (.b x)
 |i (k a):Lt n (.i k a)
 |s (l):Lt n (.s l)
 |nil:Lt n .nil
 |lit (sz xs):Lt n (.lit sz xs)
 |sl (sz xs):Lt n (.sl sz xs)
 |own (id g) (h:id<n):Lt n (.own id g)
 |sub (id g lo hi) (h:id<n):Lt n (.sub id g lo hi)
 |ptr (id off) (h:id<n):Lt n (.ptr id off)
 |ep (sz xs i off):Lt n (.ep sz xs i off)
 |rp (id g i off) (h:id<n):Lt n (.rp id g i off)
 |mp (id) (h:id<n):Lt n (.mp id)
 |kL:Lt n .kL
 |lI:Lt n .lI
 |fn (f caps) (h:∀(i:Nat) (x:V),caps[i]?=some x->Lt n x):Lt n (.fn f caps)
 |agg (xs) (h:∀(i:Nat) (x:V),xs[i]?=some x->Lt n x):Lt n (.agg xs)
 |iS (xs) (h:∀(i:Nat) (x:V),xs[i]?=some x->Lt n x):Lt n (.iS xs)
def VR.lt{x:V}(h:VR N M Q x p):x.Lt (X M):=by
 induction h with
 |u p=>exact .u
 |b x=>exact .b x
 |i k n=>exact .i k n
 |s l x v C=>exact .s l
 |nil=>exact .nil
 |D1 c=>exact .sl c _
 |sle c a=>exact .sl c _
 |sl c j b o H f y I z D m ih=>exact .sl c j
 |MX c=>exact .lit c _
 |lit c j b o f I z D m ih=>exact .lit c j
 |own id g p e h=>exact .own id g e
 |sub id g F B p e h=>exact .sub id g F B e
 |ptr id d b h C =>obtain⟨T,J,t⟩:=h;exact .ptr id d (ag.1 t).1
 |ep c j i d b o f B z D m ih=>exact .ep c j i d
 |rp id g i d p e h=>exact .rp id g i d e
 |mp id r h C =>obtain⟨K,E,L,t⟩:=h;exact .mp id (ag.1 t).1
 |kL=>exact .kL
 |lI=>exact .lI
 |fn f q w v m ih=>exact .fn f q ih
 |agg j w v m ih=>exact .agg j ih
 |iS j w v m ih=>exact .iS j ih
def V.Lt.mono{m:Nat}{x:V}(h:x.Lt R)(j:R<=m):x.Lt m:=by induction h with|u=>exact .u|b x=>exact .b x|i k a=>exact .i k a|s l=>exact .s l|nil=>exact .nil|lit e d=>exact .lit e d|sl e d=>exact .sl e d|own id g h=>exact .own id g (gu h j)|sub id g p o h=>exact .sub id g p o (gu h j)|ptr id c h=>exact .ptr id c (gu h j)|ep e d i c=>exact .ep e d i c|rp id g i c h=>exact .rp id g i c (gu h j)|mp id h=>exact .mp id (gu h j)|kL=>exact .kL|lI=>exact .lI|fn f n h ih=>exact .fn f n ih|agg d h ih=>exact .agg d ih|iS d h ih=>exact .iS d ih
structure qZ (w:bF) (J:ai) (μ:Mem) (w':bF) (J':ai) (μ':Mem):Prop where
 cell:∀b o v,w.cell? ⟨b,o,none⟩=some v->¬wr J μ b o->w'.cell? ⟨b,o,none⟩=some v/\¬wr J' μ' b o
 len:J.length<=J'.length
 box:∀id T cs,J[id]?=some (.box T cs)->(∃cs',J'[id]?=some (.box T cs'))/\μ' id=μ id
 map:∀id K E es,J[id]?=some (.map K E es)->(∃es',J'[id]?=some (.map K E es'))/\μ' id=μ id
 row:∀id E sz by' g' sh xs,id<J.length->J'[id]?=some (.row E sz by' g' sh xs)->∃g sh0 xs0,J[id]?=some (.row E sz by' g sh0 xs0)/\g<=g'/\(g=g'->xs0.length=xs.length/\μ' id=μ id)
def VR.mono(c:qZ N M Q H q D){x:V}(h:VR N M Q x p):VR H q D x p:=by
 induction h with
 |u p=>exact .u p
 |b x=>exact .b x
 |i k n=>exact .i k n
 |s l x J hm=>exact .s l x J hm
 |nil=>exact .nil
 |D1 d=>exact .D1 d
 |sle d a=>exact .sle d a
 |sl d v b o ad f W nP dJ t hv ih =>exact .sl d v b o ad f W nP dJ (λi j x e=>⟨(c.cell _ _ _ (t i j x e).1 (t i j x e).2.1).1,(c.cell _ _ _ (t i j x e).1 (t i j x e).2.1).2,(t i j x e).2.2⟩) ih
 |MX d=>exact .MX d
 |lit d v b o f nP dJ t hv ih =>exact .lit d v b o f nP dJ (λi j x e=>⟨(c.cell _ _ _ (t i j x e).1 (t i j x e).2.1).1,(c.cell _ _ _ (t i j x e).1 (t i j x e).2.1).2,(t i j x e).2.2⟩) ih
 |own id g p m h =>
  refine .own id g p (gu m c.len) λE d w I P v hs=>?_;obtain⟨g1,R,O,C,B,z⟩:=c.row id E d w I P v m hs;have F:=h _ _ _ _ _ _ C;refine⟨cE F.1 B,λhg=>?_⟩;have L:g1=I:=by omega
  rw[(z L).2];exact F.2 (by omega)
 |sub id g lo hi p m h =>
  refine .sub id g lo hi p (gu m c.len) λE d w I P v hs=>?_;obtain⟨g1,R,O,C,B,z⟩:=c.row id E d w I P v m hs;have F:=h _ _ _ _ _ _ C;refine⟨cE F.1 B,λhg=>?_⟩;have L:g1=I:=by omega
  rw[(z L).2,<- (z L).1];exact F.2 (by omega)
 |ptr id y b h hm =>obtain⟨T,cs,C⟩:=h;obtain⟨⟨am,B⟩,z⟩:=c.box id T cs C;exact .ptr id y b ⟨T,am,B⟩ (z.trans hm)
 |ep d v i y b o f hi dJ t hv ih =>exact .ep d v i y b o f hi dJ (λj x e=>⟨(c.cell _ _ _ (t j x e).1 (t j x e).2.1).1,(c.cell _ _ _ (t j x e).1 (t j x e).2.1).2,(t j x e).2.2⟩) ih
 |rp id g i y p m h =>
  refine .rp id g i y p (gu m c.len) λE d w I P v hs=>?_;obtain⟨g1,R,O,C,B,z⟩:=c.row id E d w I P v m hs;have F:=h _ _ _ _ _ _ C;refine⟨cE F.1 B,λhg=>?_⟩;have L:g1=I:=by omega
  rw[(z L).2,<- (z L).1];exact F.2 (by omega)
 |mp id r h hm =>obtain⟨K,E,es,C⟩:=h;obtain⟨⟨af,B⟩,z⟩:=c.map id K E es C;exact .mp id r ⟨K,E,af,B⟩ (z.trans hm)
 |kL=>exact .kL
 |lI=>exact .lI
 |fn f ac U J hv ih=>exact .fn f ac U J ih
 |agg v U J hv ih=>exact .agg v U J ih
 |iS v U J hv ih=>exact .iS v U J ih
def qZ.refl(J:ai)(μ:Mem):qZ C J μ C J μ :=⟨λ_ _ _ h a=>⟨h,a⟩,aB _,λ_ _ b h=>⟨⟨b,h⟩,rfl⟩,λ_ _ _ d h=>⟨⟨d,h⟩,rfl⟩,λ_ _ _ _ g e c _ h=>⟨g,e,c,h,aB _,λ_=>⟨rfl,rfl⟩⟩⟩
def rJ(J:ai)(μ:Mem)(c:bF)(b:ai)(a:Mem):Prop:=∀x v,VR C J μ x v->VR c b a x v
def qZ.dX(p:qZ N M Q H q D):rJ N M Q H q D:=λ_ _ h=>h.mono p
def iL(J:ai)(μ:Mem)(c:bF)(b:ai)(a:Mem):Prop:=∀x v,VR C J μ x v->x.Lt U->VR c b a x v
def rJ.Rp(k:rJ N M Q H q D):iL R N M Q H q D:=λx v h _=>k x v h
def iL.refl(J:ai)(μ:Mem):iL U C J μ C J μ:=λ_ _ h _=>h
def iL.trans{c:bF}{b:ai}{a:Mem} (h:iL R N M Q H q D) (k:iL R H q D c b a):iL R N M Q c b a:=λx v e d=>k x v (h x v e d) d
def rJ.refl(J:ai)(μ:Mem):rJ C J μ C J μ:=λ_ _ h=>h
def rJ.trans{c:bF}{b:ai}{a:Mem} (h:rJ N M Q H q D) (k:rJ H q D c b a):rJ N M Q c b a:=λx v d=>k x v (h x v d)
def Ti(a b:Nat):Prop :=0<a/\∃(t:TypeInfo) (z:Value),F.info? U=S t/\t.zero=S z/\t.size=a/\t.bytes=b/\z.cells.size=a
def lU(J:ai)(μ:Mem)(c:eJ)(b:Nat)(a:List Value):Prop :=(∀r∈c,X r=b)/\∀i j x,gi c i j=S x->x.pure=G/\∃v,a[i*b+j]?=S v/\VR C J μ x v
def V.alb:V->Bool
 |.i _ _|.s _|.b _=>G
 |_=>Z
def V.sj:V->Bool
 |.i _ _|.s _|.b _=>G
 |.agg xs=>xs.all V.alb
 |_=>Z
def V.Ea:V->Bool|.agg xs=>xs.all V.pure|x=>x.pure
def acY(J:ai)(μ:Mem)(b:List (V×V))(a:Array MapEntry)(clock:Nat):Prop :=a.size=X b/\(∀(i:Nat) (k x:V),b[i]?=S (k,x)->k.sj=G/\x.Ea=G/\∃e,a[i]?=S e/\VR C J μ k e.key/\VR C J μ x e.val) /\(∀(i:Nat) (e:MapEntry),a[i]?=S e->e.born<clock)/\(∀(i j:Nat) (e c:MapEntry),a[i]?=S e->a[j]?=S c->e.born=c.born->i=j)
def Je(J:ai)(μ:Mem)(v:Value):Ob->Prop|.dead=>True|.box T cs=>∃(b:Nat) (d:Array Value),v=.pointer (S ⟨b,0,Y⟩)/\U<=b/\C.heap[b]?=S (.cells d T (0,0))/\d.size=X cs /\∀(j:Nat) (x:V),cs[j]?=S x->∃u,d[j]?=S u/\VR C J μ x u|.row E sz by' _ _ xs=>Ti F E sz by'/\∃a:List Value,C.ownsRow U E sz v (X xs) a/\lU C J μ xs sz a|.map _ _ es=>∃(r:Nat) (c:Array MapEntry) (clock:Nat),v=.map (S r)/\U<=r/\C.heap[r]?=S (.map c clock)/\acY C J μ es c clock
def F1:bH:=[1,10,100,1000,10000,100000,1000000,10000000,100000000,1000000000,10000000000,100000000000,1000000000000,10000000000000,100000000000000,1000000000000000,10000000000000000,100000000000000000,1000000000000000000,10000000000000000000]
def ady:List (String×IntKind×bH):=[("internal/strconv.uint64pow10",.u64,F1)]
def Laid:Prop:=∀t∈ady,∀g,F.globalNamed t.1=S g->g<U/\Lib.TabIs F C t.1 t.2.1 t.2.2
structure Ae (P:bl) (B:Nat) (w0 w:bF):Prop extends Below B w0 w where
 laid:Laid P B w0
def Ae.grown{a w w':bF}{row:de}(h:Ae L R a w)(d:w.grownBy w' row)(c:R<=w.heap.size)(b:∀k,row=S k->R<=k):Ae L R a w' :=⟨h.toBelow.grown d c b,h.laid⟩
def Ae.tab(h:Ae L R N H){t:String×IntKind×bH}(d:t∈ady){g:Nat}(b:L.globalNamed t.1=S g):Lib.TabIs L H t.1 t.2.1 t.2.2:=by obtain⟨c,a⟩:=h.laid t d g b;unfold Lib.TabIs World.var? at a |-;simp only[b,js]at a |-;rw[h.block g c];exact a
structure kN (P:bl) (B:Nat) (w0 w:bF) (J:ai) (μ:Mem):Prop where
 below:Ae P B w0 w
 base:B<=w.heap.size
 obj:∀id o,J[id]?=some o->Je P B w J μ (μ id) o
 sep:∀i j oi oj b,J[i]?=some oi->J[j]?=some oj->oi≠.dead->oj≠.dead->l9 (μ i)=some b->l9 (μ j)=some b->i=j
def FR(J:ai)(μ:Mem)(fr:ar)(a:Act):Prop :=a.defers=[]/\a.tmps.size=X fr/\∀i x,fr[i]?=S x->VR C J μ x (a.tmps.getD i undef)
def FR.dX(k:rJ N M Q H q D){fr:ar}{a:Act}(h:FR N M Q fr a):FR H q D fr a :=⟨h.1,h.2.1,λi x b=>k _ _ (h.2.2 i x b)⟩
structure St where
 fr:ar
 J:ai
variable{e:St}
abbrev bG:=Exit->St->Prop
variable{d:bG}
abbrev bU:=St->Prop
def VRs(J:ai)(μ:Mem)(a:ar)(b:Array Value):Prop:=b.size=X a/\∀i x,a[i]?=S x->VR C J μ x (b.getD i undef)
def PC(b:ar)(J:ai)(Q:V->ai->Prop):Prop :=∀(B:Nat) (w0 w:bF) (μ:Mem) (f:Array Value),kN F B w0 w J μ->VRs w J μ b f ->Calls F U f w λe d=>∃r v c a,e=.returned v/\Q r c/\kN F B w0 d c a/\VR d c a r v/\rJ w J μ d c a
def PW(P:bl)(c:Code)(K:bG)(f:St):Prop :=∀(B:Nat) (w0 w:bF) (μ:Mem) (a:Act),kN P B w0 w f.J μ->FR w f.J μ f.fr a ->c.wp P (λe h g=>∃b d,K e b/\kN P B w0 g b.J d/\FR g b.J d b.fr h/\iL U w f.J μ g b.J d) a w
def PC.mono{a:ar}{Q e:V->ai->Prop}(h:PC L R a M Q)(j:∀r c,Q r c->e r c):PC L R a M e :=λB w0 w μ i f k=>(h B w0 w μ i f k).mono λ_ _ ⟨r,v,c,d,l,g,b⟩=>⟨r,v,c,d,l,j _ _ g,b⟩
def PW.mono{n:Nat}{P:bl}{c:Code}{K i:bG}{g:St}(h:PW n P c K g)(l:∀e b,K e b->i e b):PW n P c i g :=λB w0 w μ a k j=>wp_mono (h B w0 w μ a k j) λ_ _ _ ⟨b,f,m,d⟩=>⟨b,f,l _ _ m,d⟩
def PW.skip(h:d .normal e):PW R L .skip d e :=λ_ _ _ μ _ b a=>wp_skip ⟨e,μ,h,b,a,iL.refl _ _ _ _⟩
def PW.ret(h:d .ret e):PW R L .ret d e :=λ_ _ _ μ _ b a=>wp_ret ⟨e,μ,h,b,a,iL.refl _ _ _ _⟩
def PW.exit{id:Nat}(h:d (.exit id) e):PW R L (.exit id) d e :=λ_ _ _ μ _ b a=>wp_exit ⟨e,μ,h,b,a,iL.refl _ _ _ _⟩
def ak3(P:bl)(y:Code)(K:bG):bG|.normal,a=>PW U P y K a|e,a=>K e a
def PW.seq{x y:Code}(h:PW R L x (ak3 R L y d) e):PW R L (.seq x y) d e:=by
 intro B w0 w μ a s o;refine wp_seq (wp_mono (h B w0 w μ a s o) ?_);rintro b t p ⟨j,i,m,f,g,k⟩;cases b with
 |normal=>exact wp_mono (m B w0 p i t f g) λ_ _ _ ⟨st2,n,v,q,r,u⟩=>⟨st2,n,v,q,r,k.trans u⟩
 |exit id=>exact⟨j,i,m,f,g,k⟩
 |goto l=>exact⟨j,i,m,f,g,k⟩
 |ret=>exact⟨j,i,m,f,g,k⟩
 |panic c=>exact⟨j,i,m,f,g,k⟩
 |outgrown=>exact⟨j,i,m,f,g,k⟩
def CE(id:Nat)(K:bG):bG|.exit id',a=>if id'=id then K .normal a else K (.exit id') a|e,a=>K e a
def PW.block{id:Nat}{c:Code}(h:PW R L c (CE id d) e):PW R L (.block id c) d e:=by
 intro B w0 w μ a q p;refine wp_block (wp_mono (h B w0 w μ a q p) ?_);rintro b s r ⟨g,j,k,f,i,m⟩;cases b with
 |normal=>exact⟨g,j,k,f,i,m⟩
 |exit o =>
  by_cases n:o=id;.subst n;simp only[CE,aR]at k;simp only[Exit.inBlock,aR];exact⟨g,j,k,f,i,m⟩
  simp only[CE,n,bo]at k;simp only[Exit.inBlock,n,bo];exact⟨g,j,k,f,i,m⟩
 |goto l=>exact⟨g,j,k,f,i,m⟩
 |ret=>exact⟨g,j,k,f,i,m⟩
 |panic c=>exact⟨g,j,k,f,i,m⟩
 |outgrown=>exact⟨g,j,k,f,i,m⟩
def vL{Q:Exit->Act->bF->Prop}{a:Act}{c:Code}(Jj:Nat->Act->bF->Prop)(h0:Jj U a N) (round:∀k a N,Jj k a N->c.wp L (Exit.then (λo n=>∃s,s<k/\Jj s o n) Q) a N):(Code.loop c).wp L Q a N:=by
 intro b k t;have u:∀U a N,Jj U a N->∃e o n,Q e o n/\Arrives L (lone (b.at a (.code c::.inLoop c::k)) t N) b k t e o n:=by
  intro U;induction U using Nat.strongRecOn with
  |_ U ih =>
  intro a N v;obtain⟨e,f,d,h,i⟩:=round U a N v b (.inLoop c::k) t;cases e with
  |normal =>obtain⟨s,w,m⟩:=h;obtain⟨p,q,r,j,g⟩:=ih s w f d m;exact⟨p,q,r,j,.of_steps (Steps.trans i (.one step_inLoop)) g⟩
  |exit id=>exact⟨_,f,d,h,.pass (x:=.inLoop c) rfl (λ_ _=>.inl (by simp)) i⟩
  |goto l=>exact⟨_,f,d,h,.pass (x:=.inLoop c) rfl (λ_ _=>.inl (by simp)) i⟩
  |ret=>exact⟨_,f,d,h,.pass (x:=.inLoop c) rfl (λ_ _=>.inl (by simp)) i⟩
  |panic y=>exact⟨_,f,d,h,.pass (x:=.inLoop c) rfl (λ_ _=>.inl (by simp)) i⟩
  |outgrown=>exact⟨_,f,d,h,.pass (x:=.inLoop c) rfl (λ_ _=>.inl (by simp)) i⟩
 obtain⟨e,o,n,h,i⟩:=u _ a N h0;exact⟨e,o,n,h,.of_steps (.one step_loop) i⟩
def ahg(I:bU)(m:St->Nat)(k:Nat)(K:bG):bG|.normal,a=>I a/\m a<k|e,a=>K e a
def PW.loop{c:Code}(I:bU)(m:St->Nat)(h0:I e)(h:∀e,I e->PW R L c (ahg I m (m e) d) e):PW R L (.loop c) d e:=by
 intro B w0 w μ a T P;have E:∀(N:Nat) (i:St) (t:bF) (o:Mem) (H:Act),m i=N->I i->kN L B w0 t i.J o->FR t i.J o i.fr H->iL R w e.J μ t i.J o ->
   (Code.loop c).wp L (λb M v=>∃f g,d b f/\kN L B w0 v f.J g/\FR v f.J g f.fr M/\iL R w e.J μ v f.J g) H t:=by intro N i t o H U Q y K O;refine vL N (λk C u=>∃st2 p,m st2=k/\I st2/\kN L B w0 u st2.J p/\FR u st2.J p st2.fr C/\iL R w e.J μ u st2.J p) ⟨i,o,U,Q,y,K,O⟩ ?_;rintro k C u ⟨st2,p,D,x,z,F,r⟩;refine wp_mono (h st2 x B w0 u p C z F) ?_;rintro b M v ⟨f,g,q,j,n,s⟩;cases b with|normal=>exact⟨m f,D▸q.2,f,g,rfl,q.1,j,n,r.trans s⟩|exit id=>exact⟨f,g,q,j,n,r.trans s⟩|goto l=>exact⟨f,g,q,j,n,r.trans s⟩|ret=>exact⟨f,g,q,j,n,r.trans s⟩|panic c=>exact⟨f,g,q,j,n,r.trans s⟩|outgrown=>exact⟨f,g,q,j,n,r.trans s⟩
 exact E _ e w μ a rfl h0 T P (iL.refl _ _ _ _)
def ME{e:TypeId}{a:Nat}{n:Nat}{i:List Value}(h:N.ownsRow R e a p n i) (l:∀g,l9 p=S g->H.heap[g]?=N.heap[g]?):H.ownsRow R e a p n i:=by
 obtain⟨k,c⟩:=h;refine⟨k,?_⟩;rcases c with c|⟨g,d,b,f,m,j,r⟩;.exact .inl c
 exact .inr ⟨g,d,b,f,m,by rw[l g (by simp[f,l9])];exact j,r⟩
def Je.xM{o:Ob}(h:Je L R N M Q p o)(j:o≠.dead){b:Nat}(a:l9 p=S b):R<=b/\b<N.heap.size:=by
 cases o with
 |dead=>exact absurd rfl j
 |box T x =>obtain⟨u,w,rfl,d,c,_⟩:=h;simp only[l9,aa]at a;subst a;exact⟨d,(cB.1 c).1⟩
 |row E q n g v s =>
  obtain⟨_,e,⟨_,c⟩,_⟩:=h;rcases c with⟨rfl,_⟩|⟨g,m,i,rfl,l,k,_⟩;.simp[l9]at a
  simp only[l9,aa]at a;subst a;exact⟨l,(cB.1 k).1⟩
 |map K E t =>obtain⟨r,f,clock,rfl,d,c,_⟩:=h;simp only[l9,aa]at a;subst a;exact⟨d,(cB.1 c).1⟩
def lU.dX{b:eJ}{a:List Value}(h:lU N M Q b R a)(k:rJ N M Q H q D):lU H q D b R a :=
 ⟨h.1,λi j x c=>⟨(h.2 i j x c).1,let ⟨v,e,d⟩:=(h.2 i j x c).2;⟨v,e,k _ _ d⟩⟩⟩
def acY.dX{c:List (V×V)}{b:Array MapEntry}{clock:Nat}(h:acY N M Q c b clock)(k:rJ N M Q H q D):acY H q D c b clock :=
 ⟨h.1,λi a x m=>let ⟨g,d,e,l,f,j⟩:=h.2.1 i a x m;⟨g,d,e,l,k _ _ f,k _ _ j⟩,h.2.2⟩
def Je.dX{o:Ob}(h:Je L R N M Q p o)(k:rJ N M Q H q D) (f:∀b,l9 p=S b->H.heap[b]?=N.heap[b]?):Je L R H q D p o:=by
 cases o with
 |dead=>trivial
 |box T B =>obtain⟨l,n,rfl,d,a,i,s⟩:=h;exact⟨l,n,rfl,d,by rw[f l rfl];exact a,i,λj x w=>let ⟨u,t,y⟩:=s j x w;⟨u,t,k _ _ y⟩⟩
 |row E C v g z F =>obtain⟨m,c,d,a⟩:=h;exact⟨m,c,ME d f,a.dX k⟩
 |map K E I =>obtain⟨r,e,clock,rfl,d,a,i⟩:=h;exact⟨r,e,clock,rfl,d,by rw[f r rfl];exact a,i.dX k⟩
def kN.xM(h:kN L R N H M Q){id:Nat}{o:Ob}(c:M[id]?=S o)(a:o≠.dead){b:Nat}(d:l9 (Q id)=S b):R<=b/\b<H.heap.size :=(h.obj id o c).xM a d
def kN.update{w':bF}{J':ai}{μ':Mem}(hS:kN L R N H M Q)(id:Nat)(row:de) (C:H.grownBy w' row) (dJ:∀b,row=S b->∃o,M[id]?=S o/\o≠.dead/\l9 (Q id)=S b) (w:M.length<=J'.length) (f:∀j,j≠id->J'[j]?=M[j]?) (e:∀j,j≠id->μ' j=Q j) (mP:∀b,l9 (μ' id)=S b->(∃o,M[id]?=S o/\o≠.dead/\l9 (Q id)=S b)\/H.heap.size<=b) (mD:∀b l v o,M[id]?=S o->o≠.dead->l9 (Q id)=S b->H.cell? ⟨b,l,Y⟩=S v->¬wr M Q b l ->w'.cell? ⟨b,l,Y⟩=S v/\∀o',J'[id]?=S o'->l9 (μ' id)=S b->¬o'.wat l) (ad:∀T F,M[id]?=S (.box T F)->(∃au,J'[id]?=S (.box T au))/\μ' id=Q id) (V:∀K E J,M[id]?=S (.map K E J)->(∃am,J'[id]?=S (.map K E am))/\μ' id=Q id) (af:∀E I r t D y,id<M.length->J'[id]?=S (.row E I r t D y)->∃g ac x,M[id]?=S (.row E I r g ac x)/\g<=t/\(g=t->x.length=y.length/\μ' id=Q id)) (gE:qZ H M Q w' J' μ'->∀o,J'[id]?=S o->Je L R w' J' μ' (μ' id) o) : kN L R N w' J' μ'/\qZ H M Q w' J' μ':=by
 have hp:qZ H M Q w' J' μ':=by
  refine⟨λb l v P hw=>?_,w,λj T F c=>?_,λj K E J c=>?_,λj E I r t D y uL c=>?_⟩
  .have eX:=World.block_lt_of_cell? H _ P;refine⟨?_,?_⟩
   .by_cases u:S b=row;.obtain⟨o,p,m,q⟩:=dJ b u.symm;exact(mD b l v o p m q P hw).1
    exact C.cell P u
   rintro⟨j,B,c,d,z⟩;by_cases a:j=id
   .subst a;rcases mP b d with⟨o,p,m,q⟩|h;.exact(mD b l v o p m q P hw).2 B c d z
    exact absurd eX (Nat.not_lt.2 h)
   rw[f j a]at c;rw[e j a]at d;exact hw ⟨j,B,c,d,z⟩
  .by_cases a:j=id;.subst a;exact ad T F c
   exact⟨⟨F,by rw[f j a];exact c⟩,e j a⟩
  .by_cases a:j=id;.subst a;exact V K E J c
   exact⟨⟨J,by rw[f j a];exact c⟩,e j a⟩
  by_cases a:j=id;.subst a;exact af E I r t D y uL c
  rw[f j a]at c;exact⟨t,D,y,c,aB _,λ_=>⟨rfl,e j a⟩⟩
 refine⟨⟨hS.below.grown C hS.base (λk hk=>?_),cE hS.base C.size,λj o c=>?_,λi j oi B b O c W DA n d=>?_⟩,hp⟩;.obtain⟨o,p,m,q⟩:=dJ k hk;exact(hS.xM p m q).1
 .by_cases a:j=id;.subst a;exact gE hp o c
  rw[f j a]at c;rw[e j a];by_cases U:o=.dead;.subst U;trivial
  refine(hS.obj j o c).dX hp.dX λb u=>?_;refine C.block b (hS.xM c U u).2 λap=>?_;obtain⟨o2,p,m,q⟩:=dJ b ap.symm;exact a (hS.sep j id o o2 b c p U m u q)
 by_cases s:i=id
 .subst s;by_cases a:j=i;.exact a.symm
  rw[f j a]at c;rw[e j a]at d;rcases mP b n with⟨o,p,m,q⟩|h;.exact hS.sep i j o B b p c m DA q d
  exact absurd (hS.xM c DA d).2 (Nat.not_lt.2 h)
 rw[f i s]at O;rw[e i s]at n;by_cases a:j=id
 .subst a;rcases mP b d with⟨o,p,m,q⟩|h;.exact hS.sep i j oi o b O p W m n q
  exact absurd (hS.xM O W n).2 (Nat.not_lt.2 h)
 rw[f j a]at c;rw[e j a]at d;exact hS.sep i j oi B b O c W DA n d
def kN.grown{w':bF}(hS:kN L R N H M Q)(a:H.grownBy w' Y):kN L R N w' M Q/\qZ H M Q w' M Q:=by
 have d:qZ H M Q w' M Q:=⟨λb i v q f=>⟨a.cell q (by simp),f⟩,aB _,λ_ _ p h=>⟨⟨p,h⟩,rfl⟩,λ_ _ _ l h=>⟨⟨l,h⟩,rfl⟩,λ_ _ _ _ g n k _ h=>⟨g,n,k,h,aB _,λ_=>⟨rfl,rfl⟩⟩⟩;refine⟨⟨hS.below.grown a hS.base (by simp),cE hS.base a.size,λj o e=>?_,hS.sep⟩,d⟩;by_cases c:o=.dead;.subst c;trivial
 exact(hS.obj j o e).dX d.dX λb m=>a.block b (hS.xM e c m).2 (by simp)
def xX(μ:Mem)(id:Nat)(v:Value):Mem:=λj=>if j=id then v else μ j
def gy(μ:Mem)(id:Nat)(v:Value):xX μ id v id=v:=by simp[xX]
def uf(μ:Mem)(id:Nat)(v:Value)(j:Nat)(h:j≠id):xX μ id v j=μ j:=by simp[xX,h]
def Cq(J:ai)(o:Ob)(j:Nat)(h:j≠X J):(J++[o])[j]?=J[j]?:=by
 rcases jt j (X J) with a|a;.rw[bc a]
 have b:X J<j:=by omega
 rw[cp (by simp;omega),cp a]
def oB(J:ai)(o:Ob):¬(J[X J]?=S o):=by simp
def kN.w7{w':bF}(hS:kN L R N H M Q)(o:Ob)(v:Value)(i:H.grownBy w' Y) (k:∀b,l9 v=S b->H.heap.size<=b) (l:qZ H M Q w' (M++[o]) (xX Q (X M) v)->Je L R w' (M++[o]) (xX Q (X M) v) v o) : kN L R N w' (M++[o]) (xX Q (X M) v)/\qZ H M Q w' (M++[o]) (xX Q (X M) v):=by
 refine hS.update (X M) Y i (by simp) (by simp) (λj d=>Cq M o j d) (λj d=>uf Q _ v j d) ?_ ?_ ?_ ?_ ?_ ?_;.intro b e;rw[gy]at e;exact .inr (k b e)
 .intro b g u c h;exact absurd h (oB M c)
 .intro T n h;exact absurd h (oB M _)
 .intro K E m h;exact absurd h (oB M _)
 .intro _ _ _ _ _ _ h;omega
 intro f c a;have:c=o:=by simpa using a.symm
 subst this;rw[gy];exact l f
inductive O where
 |t (n:Nat)
 |c (v:V)
inductive I where
 |yk (x:O)
 |pick (c a b:O)
 |box (T:Nat) (x:O)
 |alloc (T:Nat) (zs:ar)
 |build (zs:ar) (parts:List (Nat×Nat×O))
 |fT (sz:Nat) (szs:List (de)) (xs:List O)
 |Tr (E sz by':Nat) (szs:List (de)) (xs:List O)
 |load (k:de) (a:O)
 |store (k:Nat) (szs:List (de)) (a x:O)
 |zo (x:O)
 |bin (op:BinOp) (x y:O)
 |beq (neg:Bool) (ks:ed) (x y:O)
 |bbq (neg:Bool) (x y:O)
 |un (op:UnOp) (x:O)
 |cvi (k:IntKind) (x:O)
 |b2s (x:O)
 |slice (sz:Nat) (x:O) (lo hi:Option O)
 |u4 (x:O) (lo hi:Option O)
 |Qp (off:Nat) (x:O)
 |idx (sz:Nat) (x i:O)
 |OE (x i:O)
 |QW (n sz:Nat) (x i:O)
 |asl (n:Nat) (x:O)
 |ext (k:Nat) (x:O)
 |len (str:Bool) (x:O)
 |max2 (x y:O)
 |min2 (x y:O)
 |app (E sz by':Nat) (x y:O)
 |apps (E:Nat) (x y:O)
 |mk (E sz by':Nat) (zs:ar) (l c:O)
 |GK (K E:Nat)
 |look (kd:Nat) (z:V) (ok:Bool) (m k:O)
 |Sm (kd:Nat) (szs:List (de)) (m k x:O)
 |IL (x:O)
 |call (f:Nat) (args:List O)
 |tE (x:O) (args:List O)
 |clo (f:Nat) (xs:List O)
 |QG (sz:Nat) (zs:ar) (x:O)
 |stop
def Cy:Value->Option V|.bool x=>S (.b x)|.int k n=>S (.i k n)|.string x=>if X x.data.toList<=maxLen then S (.s x.data.toList)else Y|.slice Y 0 0=>S .nil|.pointer Y=>S .lI|.map Y=>S .kL|_=>Y
def cO:Operand->Option O|.tmp t=>S (.t t)|.const v=>(Cy v).map .c|.func f=>S (.c (.fn f []))|.global _=>Y
def cOs:List Operand->Option (List O)
 |[]=>S []
 |x::xs=>match cO x,cOs xs with
  |some y,S a=>S (y::a)
  |_,_=>Y
def lT:List Value->Option (ar)
 |[]=>S []
 |x::xs=>match Cy x,lT xs with
  |some y,S a=>S (y::a)
  |_,_=>Y
def uR(P:bl)(n:Nat):List Field->Option (ed)
 |[]=>S []
 |f::fs=>if f.offset=n/\f.name ≠ "_" then match P.underlying f.type,uR P (n+1) fs with
   |some (.int _),S ks=>S (0::ks)
   |some .string,S ks=>S (1::ks)
   |some .bool,S ks=>S (2::ks)
   |_,_=>Y
  else Y
def S7:Option (ed) :=
 match F.underlying U with
 |some (.struct fs)=>if F.stoodInHeld U=Z/\F.eqGuardType F.depth U=Z then uR F 0 fs.toList else Y
 |some (.array 2 e)=>if F.eqGuardType F.depth U=Z/\F.cellsOf e=1 then match F.underlying e with
   |some (.int _)=>S [0,0]
   |_=>Y
  else Y
 |_=>Y
def adZ:Bool :=
 match F.underlying U with
 |some (.int _)|some .string=>G
 |_=>Z
def acG:Bool :=
 match F.underlying U with|some .bool=>G|_=>Z
def k8:Option Bool :=
 match F.underlying U with
 |some (.struct _)|some (.array _ _)=>S G
 |some _=>S Z
 |none=>Y
def xH:Nat->List (Nat×Operand)->Option (List O)|_,[]=>S []|n,(i,x)::r=>if i=n then(match cO x,xH (n+1) r with|some y,S a=>S (y::a)|_,_=>Y)else Y
def xJ(places:List (Nat×Nat)):List (Nat×Operand)->Option (List (Nat×Nat×O))
 |[]=>S []
 |(i,x)::r=>match places[i]?,cO x,xJ places r with
  |some (a,b),S y,S c=>S ((a,b,y)::c)
  |_,_,_=>Y
def placesOf(a:List Field):Option (List (Nat×Nat)):=a.mapM λf=>(F.info? f.type).map λi=>(f.offset,i.size)
def ry:de :=
 match F.underlying U with
 |some (.int _)=>S 0
 |some .string=>S 1
 |some (.array 2 e)=>match F.underlying e with
  |some (.int _)=>if F.cellsOf e=1 then S 3 else Y
  |_=>Y
 |_=>Y
def uH(k:V):Bool:=if U=3 then(match k with|.agg [.i _ _,.i _ _]=>G|_=>Z)else k.sj
def GX{k:V}(h:uH R k=G):k.sj=G:=by
 unfold uH at h;split at h
 .split at h;.rfl
  simp at h
 exact h
def afl(k:V):uH 0 k=k.sj:=rfl
def afk(k:V):uH 1 k=k.sj:=rfl
def afj(k l:IntKind)(a b:Int):uH 3 (.agg [.i k a,.i l b])=G:=rfl
def yN:Option Operand->Option (Option O)|none=>S Y|some x=>(cO x).map S
def Ci:BinOp->Bool
 |.eql|.neq=>G
 |_=>Z
def tD(P:bl):Nat->Nat->List (de)
 |0,_=>[]
 |d+1,T=>match P.underlying T with
  |some (.slice e)=>[S (P.cellsOf e)]
  |some (.struct fs)=>fs.toList.flatMap λf=>tD P d f.type
  |_=>[Y]
def qC:de->V->V|some sz,.nil=>.sl sz []|_,.lit sz xs=>.sl sz xs|_,x=>x
def eK:List (de)->ar->ar|s::ss,x::a=>qC s x::eK ss a|_,a=>a
def ph(a:List (de)):V->V|.agg xs=>.agg (eK a xs)|y=>y
def zeroV:Option V :=
 match F.info? U with
 |some t=>match t.zero with
  |some (.agg cs)=>(lT cs.toList).map λzs=>.agg (eK (tD F 6 U) zs)
  |some z=>Cy z
  |none=>Y
 |none=>Y
def PV:Value->Bool|.int .u8 0=>G|_=>Z
def oW(c:Call):Option I :=
 match c.callee,c.args.toList,c.argTypes.toList with
 |.builtin .len,[x],[T]=>match F.underlying T,cO x with
  |some .string,S x=>S (.len true x)
  |some (.slice _),S x=>S (.len Z x)
  |some (.map _ _),S x=>S (.IL x)
  |_,_=>Y
 |.builtin .max,[x,y],_=>match cO x,cO y with
  |some x,S y=>S (.max2 x y)
  |_,_=>Y
 |.builtin .min,[x,y],_=>match cO x,cO y with
  |some x,S y=>S (.min2 x y)
  |_,_=>Y
 |.builtin .append,[x,y],[T,U]=>match F.underlying T,cO x,cO y with
  |some (.slice E),S x,S y=>match F.info? E with
   |some t=>match t.zero with
    |some z=>if T=U then(if 0<t.size/\z.cells.size=t.size then S (.app E t.size t.bytes x y)else Y)
     else match F.underlying U with
      |some .string=>if t.size=1/\t.bytes=1/\PV z=true then S (.apps E x y)else Y
      |_=>Y
    |none=>Y
   |none=>Y
  |_,_,_=>Y
 |.builtin .clear,[x],[T]=>match F.underlying T,cO x with
  |some (.slice E),S x=>match F.info? E with
   |some t=>match t.zero with
    |some z=>if 0<t.size/\z.cells.size=t.size then(lT z.cells.toList).map λzs=>.QG t.size (eK (tD F 6 E) zs) x else Y
    |none=>Y
   |none=>Y
  |_,_=>Y
 |.value (.func f),a,_=>match F.funcs[f]? with
  |some b=>if b.body.isSome/\b.name ≠ "runtime.NumGoroutine" then(cOs a).map (.call f)else Y
  |none=>Y
 |.value (.tmp t),a,_=>(cOs a).map (.tE (.t t))
 |_,_,_=>Y
def aoq:de->Nat->List O->Bool|some 23,_,[.t 18,.t 20,.t 22]=>G|some 46,_,[.t 45]=>G|some 53,2,[.t 52]=>G|_,_,_=>Z
def Vm:BinOp->Bool|.neq=>G|_=>Z
def compile(o:Oper):Option I :=
 match o.op with
 |.move x|.assign x=>(cO x).map .yk
 |.pick c a b=>match cO c,cO a,cO b with
  |some c,S a,S b=>S (.pick c a b)
  |_,_,_=>Y
 |.box T x=>(cO x).map (.box T)
 |.alloc T=>match F.info? T with
  |some t=>match t.zero with
   |some z=>(lT z.cells.toList).map (.alloc T)
   |none=>Y
  |none=>Y
 |.build T parts=>match F.info? T,F.underlying T with
  |some t,S (.struct fs)=>match t.zero with
   |some z=>match lT z.cells.toList,placesOf F fs.toList with
    |some zs,S places=>(xJ places parts.toList).map (.build zs)
    |_,_=>Y
   |none=>Y
  |some t,S (.array n E)=>match t.zero,F.info? E with
   |some z,S q=>match lT z.cells.toList with
    |some zs=>(xJ ((List.range n).map λi=>(i*q.size,q.size)) parts.toList).map (.build zs)
    |none=>Y
   |_,_=>Y
  |_,_=>Y
 |.buildSlice T len parts=>match F.underlying T with
  |some (.slice E)=>match F.info? E with
   |some t=>match t.zero with
    |some z=>if parts.size=len/\0<t.size/\z.cells.size=t.size/\len*t.size<=2^24 then(xH 0 parts.toList).map λh=>if aoq o.dst t.size h=G then .Tr E t.size t.bytes (tD F 6 E) h else .fT t.size (tD F 6 E) h else Y
    |none=>Y
   |none=>Y
  |_=>Y
 |.load T a=>match cO a,k8 F T,F.info? T with
  |some a,S G,S t=>S (.load (S t.size) a)
  |some a,S Z,S _=>S (.load Y a)
  |_,_,_=>Y
 |.store T a x=>match cO a,cO x,F.info? T with
  |some a,S x,S t=>S (.store t.size (tD F 6 T) a x)
  |_,_,_=>Y
 |.nilCheck x=>(cO x).map .zo
 |.binOp op T x y _=>match cO x,cO y with
  |some x,S y=>if Ci op then(if adZ F T then S (.bin op x y)else if acG F T then S (.bbq (Vm op) x y)else(S7 F T).map λr=>.beq (Vm op) r x y)else S (.bin op x y)
  |_,_=>Y
 |.unOp op _ x=>(cO x).map (.un op)
 |.convert s d x=>match F.underlying s,F.underlying d,cO x with
  |some (.int _),S (.int k),S x=>S (.cvi k x)
  |some (.slice e),S .string,S x=>match F.underlying e with
   |some (.int .u8)=>S (.b2s x)
   |_=>Y
  |_,_,_=>Y
 |.slice T x lo hi Y=>match F.underlying T,cO x,yN lo,yN hi with
  |some .string,S x,S lo,S hi=>S (.u4 x lo hi)
  |some (.slice E),S x,S lo,S hi=>match F.info? E with
   |some t=>S (.slice t.size x lo hi)
   |none=>Y
  |some (.array n E),S x,S Y,S Y=>match F.info? E with
   |some t=>if t.size=1/\n<=1024 then S (.asl n x)else Y
   |none=>Y
  |_,_,_,_=>Y
 |.fieldAddr T x f=>match F.underlying T,cO x with
  |some (.struct fs),S x=>match fs[f]? with
   |some p=>match F.info? p.type with
    |some t=>if t.size=0 then Y else S (.Qp p.offset x)
    |none=>Y
   |none=>Y
  |_,_=>Y
 |.indexAddr T x i=>match F.underlying T,cO x,cO i with
  |some (.slice E),S x,S i=>match F.info? E with
   |some t=>S (.idx t.size x i)
   |none=>Y
  |some (.array n E),S x,S i=>match F.info? E with
   |some t=>S (.QW n t.size x i)
   |none=>Y
  |_,_,_=>Y
 |.index T x i=>match F.underlying T,cO x,cO i with
  |some .string,S x,S i=>S (.OE x i)
  |_,_,_=>Y
 |.extract t k=>(cO t).map (.ext k)
 |.makeSlice T l c=>match F.underlying T with
  |some (.slice E)=>match F.info? E with
   |some t=>match t.zero,cO l,cO c with
    |some z,S l,S c=>if 0<t.size/\z.cells.size=t.size then(lT z.cells.toList).map λzs=>.mk E t.size t.bytes (eK (tD F 6 E) zs) l c else Y
    |_,_,_=>Y
   |none=>Y
  |_=>Y
 |.lookup T m k ok=>match F.underlying T,cO m,cO k with
  |some (.map K E),S m,S k=>match ry F K,zeroV F E with
   |some j,S z=>S (.look j z ok m k)
   |_,_=>Y
  |_,_,_=>Y
 |.mapUpdate T m k x=>match F.underlying T,cO m,cO k,cO x with
  |some (.map K E),S m,S k,S x=>(ry F K).map λj=>.Sm j (tD F 6 E) m k x
  |_,_,_,_=>Y
 |.makeMap T Y=>match F.underlying T with
  |some (.map K E)=>S (.GK K E)
  |_=>Y
 |.call c=>oW F c
 |.makeFunc (.func f) first g=>if first.size=0 then(cOs g.toList).map (.clo f)else Y
 |_=>Y
def ev(fr:ar):O->V|.t n=>fr.getD n .u|.c v=>v
def iE:V->ar|.agg xs=>xs|x=>[x]
def jK(J:ai):V->Bool
 |.u|.agg _|.iS _=>Z
 |.own id g=>match J[id]? with
  |some (.row _ _ _ g' _ _)=>g==g'
  |_=>Z
 |.sub id g _ _=>match J[id]? with
  |some (.row _ _ _ g' _ _)=>g==g'
  |_=>Z
 |.rp id g _ _=>match J[id]? with
  |some (.row _ _ _ g' _ _)=>g==g'
  |_=>Z
 |_=>G
def jQ(J:ai)(x:V):Bool:=match x with|.agg xs=>xs.all (jK J)|x=>jK J x
def zz(cells:ar):List (Nat×Nat×ar)->Option (ar)|[]=>S cells|(off,sz,x)::r=>if X x=sz/\off+sz<=X cells then zz (cells.take off++x++cells.drop (off+sz)) r else Y
def LD:ar->ar->Option Bool|[.i k a,.i l b],[.i k' a',.i l' b']=>if k=k'/\l=l' then S (a==a'&&b==b')else Y|_,_=>Y
def ez:Nat->V->V->Option Bool|0,.i k a,.i k' b=>if k=k' then S (a==b)else Y|1,.s a,.s b=>S (a==b)|2,.b a,.b b=>S (a==b)|3,.agg xs,.agg ys=>LD xs ys|_,_,_=>Y
def ix:ed->ar->ar->Option Bool
 |[],[],[]=>S G
 |k::ks,x::xs,y::ys=>match ez k x y,ix ks xs ys with
  |some p,S q=>S (p&&q)
  |_,_=>Y
 |_,_,_=>Y
def ki(c:BinOp):V->V->Option (Prop×V)
 |.i k a,.i k' b=>match c with
  |.shl=>S (0<=b,.i k (k.wrap (a*2^(min b.toNat k.bits))))
  |.shr=>S (0<=b,.i k (a.fdiv (2^(min b.toNat k.bits))))
  |_=>if k=k' then match c with
   |.add=>S (True,.i k (k.wrap (a+b)))
   |.sub=>S (True,.i k (k.wrap (a - b)))
   |.mul=>S (True,.i k (k.wrap (a*b)))
   |.quo=>S (b≠0,.i k (k.wrap (a.tdiv b)))
   |.rem=>S (b≠0,.i k (a.tmod b))
   |.and=>S (True,.i k (k.wrap ((BitVec.ofInt k.bits a &&& BitVec.ofInt k.bits b).toNat:Int)))
   |.or=>S (True,.i k (k.wrap ((BitVec.ofInt k.bits a ||| BitVec.ofInt k.bits b).toNat:Int)))
   |.xor=>S (True,.i k (k.wrap ((BitVec.ofInt k.bits a ^^^ BitVec.ofInt k.bits b).toNat:Int)))
   |.eql=>S (True,.b (a==b))
   |.neq=>S (True,.b (a != b))
   |.lss=>S (True,.b (a<b))
   |.leq=>S (True,.b (a<=b))
   |.gtr=>S (True,.b (b<a))
   |.geq=>S (True,.b (b<=a))
   |_=>Y
   else Y
 |.s a,.s b=>match c with
  |.add=>S (X a+X b<=maxLen,.s (a++b))
  |.eql=>S (True,.b (a==b))
  |.neq=>S (True,.b (!(a==b)))
  |.lss=>S (True,.b (Op.bytesLess a b))
  |.leq=>S (True,.b (Op.bytesLess a b||a==b))
  |.gtr=>S (True,.b (!(Op.bytesLess a b||a==b)))
  |.geq=>S (True,.b (!Op.bytesLess a b))
  |_=>Y
 |_,_=>Y
def rowsOf(J:ai)(a:Nat):V->Option (eJ)
 |.nil=>S []
 |.lit sz' xs=>if sz'=a then S xs else Y
 |.sl sz' xs=>if sz'=a then S xs else Y
 |.own id g=>match J[id]? with
  |some (.row _ sz' _ g' _ xs)=>if g=g'/\sz'=a then S xs else Y
  |_=>Y
 |.sub id g lo hi=>match J[id]? with
  |some (.row _ sz' _ g' _ xs)=>if g=g'/\sz'=a then S ((xs.drop lo).take (hi - lo))else Y
  |_=>Y
 |_=>Y
def uU:ar->Option UInt8|[.i .u8 n]=>S (UInt8.ofNat n.toNat)|_=>Y
def bytesOf:eJ->Option (aL)
 |[]=>S []
 |r::rs=>match uU r,bytesOf rs with
  |some x,S a=>S (x::a)
  |_,_=>Y
def jA(b:Nat)(k:V):List (V×V)->Nat->Option (Option (Nat×V))
 |[],_=>S Y
 |(a,x)::es,i=>match ez b k a with
  |some G=>S (S (i,x))
  |some Z=>jA b k es (i+1)
  |none=>Y
def kg(J:ai)(a:Nat)(m k:V):Option (Option (Nat×V)) :=
 match m with
 |.kL=>S Y
 |.mp id=>match J[id]? with
  |some (.map _ _ es)=>jA a k es 0
  |_=>Y
 |_=>Y
def ca(fr:ar)(J:ai):I->Option (Prop×V)
 |.yk x=>some (True,ev fr x)
 |.pick c a b=>match ev fr c with
  |.b x=>some (True,match ev fr a,ev fr b with
   |.b p,.b q=>.b (bif x then p else q)
   |p,q=>bif x then p else q)
  |_=>Y
 |.build zs parts=>match zz zs (parts.map λ(e,j,x)=>(e,j,iE (ev fr x)))with
  |some t=>some (∀p∈parts,jQ J (ev fr p.2.2)=G,.agg t)
  |none=>Y
 |.fT j szs d=>some ((∀x∈d,jQ J (ev fr x)=G)/\∀r∈d.map λx=>eK szs (iE (ev fr x)),X r=j/\∀c∈r,c.pure=G,.lit j (d.map λx=>eK szs (iE (ev fr x))))
 |.load k a=>match ev fr a with
  |.ptr id e=>match J[id]? with
   |some (.box _ t)=>match k with
    |none=>match t[e]? with
     |some x=>some (True,x)
     |none=>Y
    |some n=>some (e+n<=X t,.agg ((t.drop e).take n))
   |_=>Y
  |.ep _ d i e=>match k with
   |none=>match gi d i e with
    |some x=>some (True,x)
    |none=>Y
   |some n=>some (e+n<=X (d.getD i []),.agg (((d.getD i []).drop e).take n))
  |.rp id g i e=>match J[id]? with
   |some (.row _ _ _ g' _ d)=>if g=g' then match k with
    |none=>match gi d i e with
     |some x=>some (True,x)
     |none=>Y
    |some n=>some (e+n<=X (d.getD i []),.agg (((d.getD i []).drop e).take n))
    else Y
   |_=>Y
  |_=>Y
 |.zo x=>match ev fr x with
  |.ptr id e=>some (True,.ptr id e)
  |.ep j d i e=>some (True,.ep j d i e)
  |.rp id g i e=>match J[id]? with
   |some (.row _ _ _ g' _ _)=>if g=g' then some (True,.rp id g i e)else Y
   |_=>Y
  |_=>Y
 |.bin op x y=>ki op (ev fr x) (ev fr y)
 |.beq neg ks x y=>match ev fr x,ev fr y with
  |.agg d,.agg ys=>match ix ks d ys with
   |some r=>some (True,.b (bif neg then !r else r))
   |none=>Y
  |_,_=>Y
 |.bbq neg x y=>match ev fr x,ev fr y with
  |.b p,.b q=>some (True,.b (bif neg then !(p==q)else(p==q)))
  |_,_=>Y
 |.un op x=>match op,ev fr x with
  |.not,.b p=>some (True,.b (!p))
  |.neg,.i k n=>some (True,.i k (k.wrap (0 - n)))
  |_,_=>Y
 |.cvi k x=>match ev fr x with
  |.i _ n=>some (True,.i k (k.wrap n))
  |_=>Y
 |.b2s x=>match rowsOf J 1 (ev fr x)with
  |some d=>match bytesOf d with
   |some l=>some (True,.s l)
   |none=>Y
  |none=>Y
 |.slice j x lo hi =>
  let n:de:=match ev fr x with
   |.nil=>some 0
   |.lit sz' d=>if sz'=j then some (X d) else Y
   |.sl sz' d=>if sz'=j then some (X d) else Y
   |.own id g=>match J[id]? with
    |some (.row _ sz' _ g' _ d)=>if g=g'/\sz'=j then some (X d) else Y
    |_=>Y
   |_=>Y
  match n with
  |none=>Y
  |some n =>
   let l:Option Int:=match lo with
    |none=>some 0
    |some x=>match ev fr x with
     |.i _ a=>some a
     |_=>Y
   let h:Option Int:=match hi with
    |none=>some n
    |some x=>match ev fr x with
     |.i _ a=>some a
     |_=>Y
   match l,h with
   |some l,some h=>match ev fr x with
    |.nil=>some (l=0/\h=0,.nil)
    |.lit _ d=>some (0<=l/\l<=h/\h<=n,.sl j ((d.drop l.toNat).take (h.toNat - l.toNat)))
    |.sl _ d=>some (0<=l/\l<=h/\h<=n,.sl j ((d.drop l.toNat).take (h.toNat - l.toNat)))
    |.own id g=>some (0<=l/\l<=h/\h<=n,.sub id g l.toNat h.toNat)
    |_=>Y
   |_,_=>Y
 |.u4 x lo hi=>match ev fr x with
  |.s a =>
   let l:Option Int:=match lo with
    |none=>some 0
    |some x=>match ev fr x with
     |.i _ a=>some a
     |_=>Y
   let h:Option Int:=match hi with
    |none=>some (X a)
    |some x=>match ev fr x with
     |.i _ a=>some a
     |_=>Y
   match l,h with
   |some l,some h=>some (0<=l/\l<=h/\h<=X a,.s ((a.drop l.toNat).take (h.toNat - l.toNat)))
   |_,_=>Y
  |_=>Y
 |.Qp e x=>match ev fr x with
  |.ptr id o=>some (True,.ptr id (o+e))
  |.ep j d i o=>some (True,.ep j d i (o+e))
  |.rp id g i o=>match J[id]? with
   |some (.row _ _ _ g' _ _)=>if g=g' then some (True,.rp id g i (o+e))else Y
   |_=>Y
  |_=>Y
 |.idx j x i=>match ev fr i with
  |.i _ n=>match ev fr x with
   |.sl sz' d=>if sz'=j then some (0<=n/\n<X d,.ep j d n.toNat 0)else Y
   |.lit sz' d=>if sz'=j then some (0<=n/\n<X d,.ep j d n.toNat 0)else Y
   |.own id g=>match J[id]? with
    |some (.row _ sz' _ g' _ d)=>if g=g'/\sz'=j then some (0<=n/\n<X d,.rp id g n.toNat 0)else Y
    |_=>Y
   |.sub id g lo hi=>match J[id]? with
    |some (.row _ sz' _ g' _ _)=>if g=g'/\sz'=j then some (0<=n/\n<(hi - lo:Nat),.rp id g (lo+n.toNat) 0)else Y
    |_=>Y
   |_=>Y
  |_=>Y
 |.QW n j x i=>match ev fr x,ev fr i with
  |.ptr id o,.i _ k=>some (0<=k/\k<n,.ptr id (o+k.toNat*j))
  |_,_=>Y
 |.asl n x=>match ev fr x with
  |.ep _ d i 0=>if(d.getD i []).length=n then some (n<=1024,.sl 1 ((d.getD i []).map λc=>[c]))else Y
  |_=>Y
 |.OE x i=>match ev fr x,ev fr i with
  |.s l,.i _ n=>some (0<=n/\n<X l,.i .u8 (l.getD n.toNat 0).toNat)
  |_,_=>Y
 |.ext k x=>match ev fr x with
  |.iS d=>match d[k]? with
   |some y=>some (True,y)
   |none=>Y
  |_=>Y
 |.len G x=>match ev fr x with
  |.s l=>some (True,.i .i64 (X l))
  |_=>Y
 |.len Z x=>match ev fr x with
  |.nil=>some (True,.i .i64 0)
  |.lit _ d=>some (True,.i .i64 (X d))
  |.sl _ d=>some (True,.i .i64 (X d))
  |.own id g=>match J[id]? with
   |some (.row _ _ _ g' _ d)=>if g=g' then some (True,.i .i64 (X d))else Y
   |_=>Y
  |.sub id g lo hi=>match J[id]? with
   |some (.row _ _ _ g' _ _)=>if g=g' then some (True,.i .i64 (hi - lo:Nat))else Y
   |_=>Y
  |_=>Y
 |.IL x=>match ev fr x with
  |.kL=>some (True,.i .i64 0)
  |.mp id=>match J[id]? with
   |some (.map _ _ es)=>some (True,.i .i64 (X es))
   |_=>Y
  |_=>Y
 |.look kd z ok m k=>match kg J kd (ev fr m) (ev fr k)with
  |some Y=>some (uH kd (ev fr k)=G,if ok then .iS [z,.b Z]else z)
  |some (some (_,x))=>some (uH kd (ev fr k)=G,if ok then .iS [x,.b G]else x)
  |none=>Y
 |.max2 x y=>match ev fr x,ev fr y with
  |.i k a,.i _ b=>some (True,.i k (if a<b then b else a))
  |_,_=>Y
 |.min2 x y=>match ev fr x,ev fr y with
  |.i k a,.i _ b=>some (True,.i k (if b<a then b else a))
  |_,_=>Y
 |.clo f d=>some (True,.fn f (d.map (ev fr)))
 |_=>Y
def BG(c a:Nat)(J:ai)(x:V)(b:eJ):Option (Prop×V×ai) :=
 match x with
 |.nil=>S (X b*a<=2^47/\X b<=maxLen,.own (X J) 0,J++[.row U c a 0 Z b])
 |.lit sz' xs=>if sz'=c then S ((X xs+X b)*a<=2^47/\X xs+X b<=maxLen,
   if b.isEmpty then .lit c xs else .own (X J) 0,if b.isEmpty then J else J++[.row U c a 0 Z (xs++b)])else Y
 |.own id g=>match J[id]? with
  |some (.row E' sz' by2 g' sh xs)=>if g=g'/\U=E'/\c=sz'/\a=by2 then
    S ((X xs+X b)*a<=2^47/\X xs+X b<=maxLen,.own id (g+1),J.set id (.row U c a (g+1) sh (xs++b)))
   else Y
  |_=>Y
 |.sub id g lo hi=>match J[id]? with
  |some (.row E' sz' by2 g' sh xs)=>if g=g'/\U=E'/\c=sz'/\a=by2/\lo=0/\sh=Z then
    S (hi<=X xs/\(hi+X b)*a<=2^47/\hi+X b<=maxLen,.own id (g+1),J.set id (.row U c a (g+1) Z (xs.take hi++b)))
   else Y
  |_=>Y
 |_=>Y
def aC(l:aL):eJ:=l.map λc=>[V.i .u8 c.toNat]
def dY(fr:ar)(J:ai):I->Option (Prop×V×ai)
 |.box T x=>some (jQ J (ev fr x)=true,.ptr (X J) 0,J++[.box T (iE (ev fr x))])
 |.alloc T zs=>some (True,.ptr (X J) 0,J++[.box T zs])
 |.store k szs a x=>match ev fr a with
  |.ptr id off=>match J[id]? with
   |some (.box T cs)=>some (jQ J (ev fr x)=true/\X (iE (ev fr x))=k/\off+k<=X cs,.u,J.set id (.box T (cs.take off++iE (ev fr x)++cs.drop (off+k))))
   |_=>Y
  |.rp id g i off=>match J[id]? with
   |some (.row E sz by' g' sh xs)=>if g=g'/\sh=Z then
     some (jQ J (ev fr x)=true/\(∀c∈eK szs (iE (ev fr x)),c.pure=true)/\X (iE (ev fr x))=k/\off+k<=sz/\i<X xs,.u,
      J.set id (.row E sz by' g sh (xs.set i ((xs.getD i []).take off++eK szs (iE (ev fr x))++(xs.getD i []).drop (off+k)))))
    else Y
   |_=>Y
  |_=>Y
 |.app E sz by' x y=>match rowsOf J sz (ev fr y)with
  |some d=>BG E sz by' J (ev fr x) d
  |none=>Y
 |.apps E x y=>match ev fr y with
  |.s l=>BG E 1 1 J (ev fr x) (aC l)
  |_=>Y
 |.mk E sz by' zs l c=>match ev fr l,ev fr c with
  |.i _ n,.i _ m=>some (0<=n/\(n=m\/n=0)/\0<=m/\m*by'<=2^48/\m<=maxLen/\(∀z∈zs,z.pure=true),.own (X J) 0,J++[.row E sz by' 0 Z (List.replicate n.toNat zs)])
  |_,_=>Y
 |.GK K E=>some (True,.mp (X J),J++[.map K E []])
 |.QG sz zs x=>match ev fr x with
  |.sub id g lo hi=>match J[id]? with
   |some (.row E sz' by' g' sh xs)=>if g=g'/\sz'=sz/\sh=Z then
     some (∀z∈zs,z.pure=true,.iS [],J.set id (.row E sz' by' g' sh (xs.take lo++List.replicate (hi - lo) zs++xs.drop hi)))
    else Y
   |_=>Y
  |_=>Y
 |.Tr E sz by' szs xs=>some ((∀x∈xs,jQ J (ev fr x)=true)/\∀r∈xs.map λx=>eK szs (iE (ev fr x)),X r=sz/\∀c∈r,c.pure=true,.own (X J) 0,J++[.row E sz by' 0 Z (xs.map λx=>eK szs (iE (ev fr x)))])
 |.Sm kd szs m k x =>
  let b:=ph szs (ev fr x)
  match ev fr m with
  |.mp id=>match J[id]? with
   |some (.map K E es)=>match jA kd (ev fr k) es 0 with
    |some Y=>some (uH kd (ev fr k)=true/\b.Ea=true,.u,J.set id (.map K E (es++[(ev fr k,b)])))
    |some (some (i,_))=>some (uH kd (ev fr k)=true/\b.Ea=true,.u,J.set id (.map K E (es.set i (ev fr k,b))))
    |none=>Y
   |_=>Y
  |_=>Y
 |_=>Y
def bsize(s:ByteArray):s.size=X s.data.toList:=by rw[aU];rfl
def grownBy_refl(row:de):C.grownBy C row:=⟨rfl,rfl,rfl,aB _,λ_ _ _=>rfl⟩
def Cx{x:V}(h:Cy p=S x):VR N M Q x p:=by
 unfold Cy at h;split at h<;>try (simp only[aa,reduceCtorEq]at h;try subst h)
 .exact .b _
 .exact .i _ _
 .split at h;.simp only[aa]at h;subst h;exact .s _ _ rfl (by assumption)
  simp at h
 .exact .nil
 .exact .lI
 exact .kL
def FR.at{fr:ar}{a:Act}(h:FR N M Q fr a)(n:Nat):VR N M Q (fr.getD n .u) (a.tmps.getD n undef):=by cases b:fr[n]? with|none=>simp only[List.getD,b,ac1];exact .u _|some x=>simp only[List.getD,b,nS];exact h.2.2 n x b
def gx{fr:ar}{a:Act}(h:FR N M Q fr a){x:Operand}{y:O}(b:cO x=S y):VR N M Q (ev fr y) (a.eval x):=by
 cases x with
 |tmp t=>simp only[cO,aa]at b;subst b;exact h.at t
 |const v =>
  simp only[cO]at b;cases c:Cy v with
  |none=>simp[c]at b
  |some z=>simp only[c,dA,aa]at b;subst b;exact Cx c
 |global g=>simp[cO]at b
 |func f=>simp only[cO,aa]at b;subst b;exact .fn f [] #[] rfl (by simp)
section
variable {w:bF} {J:ai} {μ:Mem} {v:Value}
def VR.uI{x:Bool}(h:VR w J μ (.b x) v):v=.bool x:=by cases h;rfl
def VR.jy{k:IntKind}{n:Int}(h:VR w J μ (.i k n) v):v=.int k n:=by cases h;rfl
def VR.pT{l:aL}(h:VR w J μ (.s l) v):∃x:ByteArray,v=.string x/\x.data.toList=l/\X l<=maxLen:=by cases h with|s _ x b a=>exact⟨x,rfl,b,a⟩
def VR.nF(h:VR w J μ .nil v):v=.slice Y 0 0:=by cases h;rfl
def VR.tq{b:ar}(h:VR w J μ (.agg b) v):∃a:Array Value,v=.agg a/\X b=a.size/\∀i x,b[i]?=S x->VR w J μ x (a.getD i undef):=by cases h with|agg _ a d c=>exact⟨a,rfl,d,c⟩
def VR.M3{b:ar}(h:VR w J μ (.iS b) v):∃a:Array Value,v=.tuple a/\X b=a.size/\∀i x,b[i]?=some x->VR w J μ x (a.getD i undef):=by cases h with|iS _ a d c=>exact⟨a,rfl,d,c⟩
def sJ(w:bF)(J:ai)(μ:Mem)(c:eJ)(a b o:Nat)(f:Nat->Nat->Value):Prop :=(∀r∈c,X r=a)/\(∀i j x,gi c i j=S x->w.cell? ⟨b,o+i*a+j,Y⟩=S (f i j)/\¬wr J μ b (o+i*a+j)/\x.pure=G) /\(∀i j x,gi c i j=S x->VR w J μ x (f i j))
def VR.G2{g:Nat}{d:eJ}(h:VR w J μ (.sl g d) v):(d=[]/\∃a,v=.slice a 0 0)\/∃b o c f,v=.slice (S ⟨b,o,Y⟩) (X d) c/\X d<=c/\c<=maxLen/\sJ w J μ d g b o f:=by cases h with|D1 _=>exact .inl ⟨rfl,_,rfl⟩|sle _ a=>exact .inl ⟨rfl,_,rfl⟩|sl _ _ b o c f e j i l k=>exact .inr ⟨b,o,c,f,rfl,e,j,i,l,k⟩
def VR.tm{c:Nat}{a:eJ}(h:VR w J μ (.lit c a) v):(a=[]/\v=.slice Y 0 0)\/∃b o f,v=.slice (S ⟨b,o,Y⟩) (X a) (X a)/\X a<=maxLen/\sJ w J μ a c b o f:=by cases h with|MX _=>exact .inl ⟨rfl,rfl⟩|lit _ _ b o f i d g e=>exact .inr ⟨b,o,f,rfl,i,d,g,e⟩
def VR.lP{id g:Nat}(h:VR w J μ (.own id g) v){E b a:Nat}{f:Bool}{d:eJ}(c:J[id]?=S (.row E b a g f d)):v=μ id:=by cases h with|own _ _ _ e h=>exact(h _ _ _ _ _ _ c).2 rfl
def VR.tj{id g b a:Nat}(h:VR w J μ (.sub id g b a) v){E d c:Nat}{j:Bool}{e:eJ}(f:J[id]?=S (.row E d c g j e)):b<=a/\a<=X e/\v=nO (μ id) b a d:=by cases h with|sub _ _ _ _ _ i h=>exact(h _ _ _ _ _ _ f).2 rfl
def VR.vn{id a:Nat}(h:VR w J μ (.ptr id a) v):∃b,μ id=.pointer (S ⟨b,0,Y⟩)/\v=.pointer (S ⟨b,a,Y⟩)/\∃T d,J[id]?=S (.box T d):=by cases h with|ptr _ _ b h c=>exact⟨b,c,rfl,h⟩
def VR.M6{d:Nat}{c:eJ}{i a:Nat}(h:VR w J μ (.ep d c i a) v):∃(b o:Nat) (f:Nat->Value),v=.pointer (S ⟨b,o+a,Y⟩)/\i<X c/\(∀r∈c,X r=d) /\(∀j x,gi c i j=S x->w.cell? ⟨b,o+j,Y⟩=S (f j)/\¬wr J μ b (o+j)/\x.pure=G)/\(∀j x,gi c i j=S x->VR w J μ x (f j)):=by cases h with|ep _ _ _ _ b o f g e l k=>exact⟨b,o,f,rfl,g,e,l,k⟩
def VR.M4{id g i a:Nat}(h:VR w J μ (.rp id g i a) v){E c b:Nat}{j:Bool}{d:eJ}(e:J[id]?=S (.row E c b g j d)):i<X d/\v=rpv (μ id) i a c:=by cases h with|rp _ _ _ _ _ f h=>exact(h _ _ _ _ _ _ e).2 rfl
def VR.G3(h:VR w J μ .kL v):v=.map Y:=by cases h;rfl
def VR.M5{id:Nat}(h:VR w J μ (.mp id) v):∃r,v=.map (S r)/\μ id=.map (S r)/\∃K E b,J[id]?=S (.map K E b):=by cases h with|mp _ r h a=>exact⟨r,rfl,a,h⟩
end
variable{R Q:Nat}{N:V}{U:eJ}
def jV(h:gi U R Q=S N):∃r,U[R]?=S r/\r[Q]?=S N:=by unfold gi at h;cases a:U[R]? with|none=>simp[a]at h|some r=>simp only[a,js]at h;exact⟨r,rfl,h⟩
def sG{r:ar}(h:U[R]?=S r):gi U R Q=r[Q]?:=by simp[gi,h]
def Jx(b:∀r∈U,X r=R){j:Nat}(a:Q<X U)(c:j<R):∃x,gi U Q j=S x:=by have d:=b U[Q] (dQ a);exact⟨U[Q][j]'(by omega),by simp[gi,aA a,aA (show j<U[Q].length by omega)]⟩
def Yields(P:bl)(o:Oper)(a:Act)(w:bF)(J:ai)(μ:Mem)(x:V):Prop :=∃v b,(execOp a.eval o).run P w=.ok (.value v) b/\w.grownBy b Y/\VR b J μ x v
def Yields.pure{P:bl}{o:Oper}{a:Act}{w:bF}{J:ai}{μ:Mem}{v:Value}(h:(execOp a.eval o).run P w=.ok (.value v) w)(b:VR w J μ N v):Yields P o a w J μ N :=⟨v,w,h,grownBy_refl w Y,b⟩
section eV
variable {P:bl} {o:Oper} {a:Act} {w:bF} {J:ai} {μ:Mem} {fr:ar} (hF:FR w J μ fr a)
include hF
theorem agV{x:Operand}{y:O}(b:o.op=.move x\/o.op=.assign x)(c:cO x=S y):Yields P o a w J μ (ev fr y):=by refine .pure (v:=a.eval x) ?_ (gx hF c);rcases b with b|b<;>simp[execOp,b]
theorem ahE{c x y:Operand}{f g h:O}(j:o.op=.pick c x y)(t:cO c=S f)(m:cO x=S g)(k:cO y=S h){p:Bool}(i:ev fr f=.b p):
  Yields P o a w J μ (match ev fr g,ev fr h with|.b q,.b r=>.b (bif p then q else r)|q,r=>bif p then q else r):=by
 have s:=(i▸gx hF t).uI;have d:=gx hF m;have e:=gx hF k;refine .pure (v:=if p then a.eval x else a.eval y) (by simp[execOp,j,s,asBool]) ?_;split;.rename_i q r n l;rw[n]at d;rw[l]at e;rw[d.uI,e.uI];cases p<;>exact .b _
 cases p;.exact e
 exact d
theorem aqF{e:UnOp}{T:Nat}{x:Operand}{g:O}(f:o.op=.unOp e T x)(l:cO x=S g){j:Prop}{y:V}(h:ca fr J (.un e g)=S (j,y)):Yields P o a w J μ y:=by
 have c:=gx hF l;simp only[ca]at h;split at h;.rename_i p d;simp only[aa,aY]at h;obtain⟨_,rfl⟩:=h;rw[d]at c;exact .pure (v:=.bool !p) (by simp[execOp,f,c.uI,Op.unary]) (.b _)
 .rename_i k n d;simp only[aa,aY]at h;obtain⟨_,rfl⟩:=h;rw[d]at c;exact .pure (v:=.int k (k.wrap (0 - n))) (by simp[execOp,f,c.jy,Op.unary,Op.intArith]) (.i _ _)
 simp at h
theorem akT{s d:TypeId}{x:Operand}{b:O}{k h:IntKind}(g:o.op=.convert s d x)(j:P.underlying s=S (.int h))(c:P.underlying d=S (.int k))(m:cO x=S b){e:IntKind}{n:Int}(f:ev fr b=.i e n):
  Yields P o a w J μ (.i k (k.wrap n)):=by have l:=(f▸gx hF m).jy;exact .pure (v:=.int k (k.wrap n)) (by simp[execOp,g,l,convert,run_underlying j,run_underlying c,Conv.intToInt]) (.i _ _)
theorem akS{x:Operand}{e:O}{k:Nat}(i:o.op=.extract x k)(m:cO x=some e){d:ar}(h:ev fr e=.iS d){y:V}(c:d[k]?=some y):Yields P o a w J μ y:=by
 obtain⟨b,j,l,f⟩:=(h▸gx hF m).M3;have g:k<b.size:=by rw[<- l];exact(ag.1 c).1
 refine .pure (v:=b.getD k undef) (by simp[execOp,i,j,Instr.extract,g]) (f k y c)
theorem akR(hS:∀id o,J[id]?=S o->∃B,Je P B w J μ (μ id) o){T:TypeId}{x:Operand}{v:O}{f:Nat}{C:Array Field}{k:Field}{t:TypeInfo}(R:o.op=.fieldAddr T x f)(hx:cO x=S v)(hT:P.underlying T=S (.struct C))(hf:C[f]?=S k)(F:P.info? k.type=S t)(L:t.size≠0) {K:Prop} {y:V} (h:ca fr J (.Qp k.offset v)=S (K,y)):Yields P o a w J μ y:=by
 have e:=gx hF hx;have r:∀b c,a.eval x=.pointer (S ⟨b,c,Y⟩)->(execOp a.eval o).run P w=.ok (.value (.pointer (S ⟨b,c+k.offset,Y⟩))) w:=by intro b c he;simp[execOp,R,he,Instr.fieldAt,run_underlying hT,hf,Instr.sureAddr,fieldPlace,sizeOf,typeInfo,F,L,Addr.add_lit]
 simp only[ca]at h;split at h<;>(try simp only[aa,aY,reduceCtorEq]at h);.rename_i id c l;obtain⟨_,rfl⟩:=h;rw[l]at e;obtain⟨b,m,j,H⟩:=e.vn;exact .pure (r b c j) (.ptr id _ b H m)
 .rename_i p z i c l;obtain⟨_,rfl⟩:=h;rw[l]at e;obtain⟨b,D,W,j,q,Q,hc,YA⟩:=e.M6;refine .pure (r b (D+c) j) ?_;have:=VR.ep (w:=w) (J:=J) (μ:=μ) p z i (c+k.offset) b D W q Q hc YA;rwa [<- Nat.add_assoc]at this
 rename_i id g i c l;split at h
 .rename_i E p af g' sh z d;split at h<;>simp only[aa,aY,reduceCtorEq]at h;rename_i hg;subst hg;obtain⟨_,rfl⟩:=h;rw[l]at e;obtain⟨q,j⟩:=e.M4 d;obtain⟨B,hB⟩:=hS id _ d;obtain⟨U,u,⟨_,N⟩,_⟩:=hB;rcases N with⟨_,hn⟩|⟨b,ad,M,m,_⟩;.omega
  have s:a.eval x=.pointer (S ⟨b,i*p+c,Y⟩):=by rw[j,m];rfl
  refine .pure (r b _ s) (.rp id g i _ _ (ag.1 d).1 ?_);intro E2 I ac g2 ap am n;rw[d]at n;simp only[aa,Ob.row.injEq]at n;obtain⟨rfl,rfl,rfl,rfl,rfl,rfl⟩:=n;exact⟨aB _,λ_=>⟨q,by rw[m];simp[rpv,da]⟩⟩
 simp at h
end eV
variable{q:Bool}{M:Mem}{R Q:Nat}{L:ai}{U H:bF}{N:bl}
def rM{T:TypeId}(h:k8 N T=S q):(isAgg T).run N U=.ok q U:=by
 unfold k8 at h;split at h<;>simp only[aa,reduceCtorEq]at h<;>subst h;.rename_i f a;simp[isAgg,run_underlying a]
 .rename_i n e a;simp[isAgg,run_underlying a]
 rename_i d c b a;simp only[isAgg,Sem.run_bind,run_underlying a,Result.andThen_ok];cases d<;>first|rfl|(exact absurd rfl (c _))|(exact absurd rfl (b _ _))
def Fj{T:TypeId}{v:Value}(b:k8 N T=S Z)(a:U.cell? ⟨R,Q,Y⟩=S v): (Instr.loadAt T (.pointer (S ⟨R,Q,Y⟩))).run N U=.ok v U:=by simp[Instr.loadAt,Instr.sureAddr,loadVar,rM b,a]
def Fk{P:bl}{T:TypeId}{t:TypeInfo}(f:Nat->Value)(b:k8 P T=S G)(d:P.info? T=S t)(e:∀j,j<t.size->U.cell? ⟨R,Q+j,Y⟩=S (f j)):
  (Instr.loadAt T (.pointer (S ⟨R,Q,Y⟩))).run P U=.ok (.agg ((List.range t.size).map f).toArray) U:=by have c:=run_loadCells (P:=P) U ⟨R,Q,Y⟩ t.size f (λj a=>by rw[Addr.add_lit];exact e j a);simp[Instr.loadAt,Instr.sureAddr,loadVar,rM b,sizeOf,typeInfo,d,c]
def pA{a:Array Value}{fr:Nat×Nat}(h:U.heap[R]?=S (.cells a Q fr))(j:Nat):U.cell? ⟨R,j,Y⟩=a[j]?:=by simp[World.cell?,h]
def kN.rowAt(hS:kN N R U H L M){id E d f g:Nat}{e:eJ}(D:L[id]?=S (.row E d f g q e)): Ti N E d f/\(∀r∈e,X r=d)/\((M id=.slice Y 0 0/\e=[]) \/∃b a c,M id=.slice (S ⟨b,0,Y⟩) (X e) a/\H.heap[b]?=S (.cells c E (0,0))/\X e<=a/\a<=maxLen/\c.size=a*d /\∀i j x,gi e i j=S x->x.pure=G/\∃v,H.cell? ⟨b,i*d+j,Y⟩=S v/\VR H L M x v):=by
 obtain⟨u,n,⟨J,B⟩,C,o⟩:=hS.obj id _ D;refine⟨u,C,?_⟩;rcases B with⟨l,m⟩|⟨b,a,c,l,m,p,t,w,F,y⟩;.exact .inl ⟨l,bQ m⟩
 refine .inr ⟨b,a,c,l,p,t,w,F,λi j x s=>⟨(o i j x s).1,?_⟩⟩;obtain⟨v,k,I⟩:=(o i j x s).2;refine⟨v,?_,I⟩;rw[pA p];rw[<- y]at k;have z:i*d+j<X e*d:=by
  rcases jt (i*d+j) (X e*d)with h|h;.exact h
  rw[cp (by simp;omega)]at k;simp at k
 rw[cn z]at k;simpa using k
def kN.QQ(hS:kN N R U H L M){id T:Nat}{c:ar}(e:L[id]?=S (.box T c)): ∃b a,M id=.pointer (S ⟨b,0,Y⟩)/\R<=b/\H.heap[b]?=S (.cells a T (0,0))/\a.size=X c/\∀j x,c[j]?=S x->∃u,H.cell? ⟨b,j,Y⟩=S u/\VR H L M x u:=by obtain⟨b,a,k,f,d,i,m⟩:=hS.obj id _ e;refine⟨b,a,k,f,d,i,λj x g=>?_⟩;obtain⟨u,h,l⟩:=m j x g;exact⟨u,by rw[pA d];exact h,l⟩
def PQ{P:bl}{J:ai}{μ:Mem}{T:TypeId}{t:TypeInfo}{b off:Nat}{k:de}{row:ar}(w:P.info? T=S t) (o:(k=Y/\k8 P T=S Z)\/(k=S t.size/\k8 P T=S G)) (d:Nat) (s:∀j y,row[d+j]?=S y->∃u,U.cell? ⟨b,off+j,Y⟩=S u/\VR U J μ y u) : (k=Y->∀y,row[d]?=S y->∃v,(Instr.loadAt T (.pointer (S ⟨b,off,Y⟩))).run P U=.ok v U/\VR U J μ y v) /\(∀n,k=S n->d+n<=X row->∃v,(Instr.loadAt T (.pointer (S ⟨b,off,Y⟩))).run P U=.ok v U/\VR U J μ (.agg ((row.drop d).take n)) v):=by
 constructor;.rintro rfl y a;obtain⟨u,c,g⟩:=s 0 y a;have e:=o.resolve_right (by simp);exact⟨u,Fj e.2 (by simpa using c),g⟩
 rintro n rfl C;have e:=o.resolve_left (by simp);simp only[aa]at e;obtain⟨rfl,e⟩:=e;have p:∀j,j<t.size->∃u,U.cell? ⟨b,off+j,Y⟩=S u/\∃y,row[d+j]?=S y/\VR U J μ y u:=by
  intro j r;have q:d+j<X row:=by omega
  obtain⟨u,c,g⟩:=s j row[d+j] (aA q);exact⟨u,c,row[d+j],aA q,g⟩
 let f:Nat->Value:=λj=>(U.cell? ⟨b,off+j,Y⟩).getD undef;have m:∀j,j<t.size->U.cell? ⟨b,off+j,Y⟩=S (f j):=by intro j r;obtain⟨u,c,_⟩:=p j r;simp[f,c]
 refine⟨.agg ((List.range t.size).map f).toArray,Fk f e w m,.agg _ _ (by simp;omega) ?_⟩;intro i y a;have l:i<t.size:=by
  rcases jt i t.size with h|h;.exact h
  rw[cp (by simp;omega)]at a;simp at a
 rw[cn l,dE]at a;obtain⟨u,c,B,g,z⟩:=p i l;rw[g]at a;simp only[aa]at a;subst a;have:(((List.range t.size).map f).toArray.getD i undef)=u:=by
  have x:f i=u:=by simp[f,c]
  simp[l,x]
 rw[this];exact z
def Cf{P:bl}{o:Oper}{a:Act}{J:ai}{μ:Mem}{T:TypeId}{x:Operand}{t:TypeInfo}{k:de}{row:ar} (f:o.op=.load T x) (g:a.eval x=.pointer (S ⟨R,Q,Y⟩)) (l:P.info? T=S t) (b:(k=Y/\k8 P T=S Z)\/(k=S t.size/\k8 P T=S G)) (d:Nat) (q:∀j y,row[d+j]?=S y->∃u,U.cell? ⟨R,Q+j,Y⟩=S u/\VR U J μ y u) : (k=Y->∀y,row[d]?=S y->Yields P o a U J μ y)/\(∀n,k=S n->d+n<=X row->Yields P o a U J μ (.agg ((row.drop d).take n))):=by
 obtain⟨p,h⟩:=PQ (P:=P) (row:=row) l b d q;constructor;.intro b y i;obtain⟨v,c,e⟩:=p b y i;exact .pure (v:=v) (by simp[execOp,f,g,c]) e
 intro n b m;obtain⟨v,c,e⟩:=h n b m;exact .pure (v:=v) (by simp[execOp,f,g,c]) e
section eV
variable {P:bl} {o:Oper} {a:Act} {B:Nat} {w0 w:bF} {J:ai} {μ:Mem} {fr:ar} (hF:FR w J μ fr a) (hS:kN P B w0 w J μ)
include hF hS
theorem YL{T:TypeId}{x:Operand}{R:O}{t:TypeInfo}{k:de}(H:o.op=.load T x)(hx:cO x=S R)(F:P.info? T=S t) (K:(k=Y/\k8 P T=S Z)\/(k=S t.size/\k8 P T=S G)) {N:Prop} {y:V} (h:ca fr J (.load k R)=S (N,y)) (B:N):Yields P o a w J μ y:=by
 have p:=gx hF hx;simp only[ca]at h;split at h
 .rename_i id c v;rw[v]at p;obtain⟨b,M,r,_⟩:=p.vn;split at h
  .rename_i T' cs D;obtain⟨b',vs,m,hB,hh,iz,U⟩:=hS.QQ D;rw[M]at m;simp only[Value.pointer.injEq,aa,Addr.mk.injEq,dm]at m;subst m;have l:=Cf (P:=P) (J:=J) (μ:=μ) (row:=cs) (k:=k) H r F K c (λj z d=>U _ z d);split at h
   .split at h;.rename_i z d;simp only[aa,aY]at h;obtain⟨_,rfl⟩:=h;exact l.1 rfl _ d
    simp at h
   simp only[aa,aY]at h;obtain⟨rfl,rfl⟩:=h;exact l.2 _ rfl B
  simp at h
 .rename_i Q e i c v;rw[v]at p;obtain⟨b,o',f,r,n,dJ,hc,YA⟩:=p.M6;have q:e[i]?=S e[i]:=aA n;have l:=Cf (P:=P) (J:=J) (μ:=μ) (row:=e[i]) (k:=k) H r F K c (λj z d=>by
   have C:gi e i (c+j)=S z:=by rw[sG q];exact d
   exact⟨f (c+j),by rw[da];exact(hc _ z C).1,YA _ z C⟩);split at h
  .split at h;.rename_i z d;simp only[aa,aY]at h;obtain⟨_,rfl⟩:=h;rw[sG q]at d;exact l.1 rfl _ d
   simp at h
  simp only[aa,aY]at h;obtain⟨rfl,rfl⟩:=h;have s:e.getD i []=e[i]:=by simp[n]
  rw[s]at B |-;exact l.2 _ rfl B
 .rename_i id g i c v;rw[v]at p;split at h
  .rename_i E Q af g' sh e D;split at h
   .rename_i s;subst s;obtain⟨n,r⟩:=p.M4 D;obtain⟨_,dJ,L⟩:=hS.rowAt D;have q:e[i]?=S e[i]:=aA n;rcases L with⟨_,hn⟩|⟨b,ad,ac,M,hh,_,_,_,L⟩;.subst hn;simp at n
    have I:a.eval x=.pointer (S ⟨b,i*Q+c,Y⟩):=by rw[r,M];rfl
    have l:=Cf (P:=P) (J:=J) (μ:=μ) (row:=e[i]) (k:=k) H I F K c (λj z d=>by
     have C:gi e i (c+j)=S z:=by rw[sG q];exact d
     obtain⟨_,u,h3,W⟩:=L _ _ z C;exact⟨u,by rw[da];exact h3,W⟩);split at h
    .split at h;.rename_i z d;simp only[aa,aY]at h;obtain⟨_,rfl⟩:=h;rw[sG q]at d;exact l.1 rfl _ d
     simp at h
    simp only[aa,aY]at h;obtain⟨rfl,rfl⟩:=h;have s:e.getD i []=e[i]:=by simp[n]
    rw[s]at B |-;exact l.2 _ rfl B
   simp at h
  simp at h
 simp at h
theorem adp{x:Operand}{p:O}(B:o.op=.nilCheck x)(I:cO x=S p){u:Prop}{y:V}(h:ca fr J (.zo p)=S (u,y)):Yields P o a w J μ y:=by
 have c:=gx hF I;have n:∀m,a.eval x=.pointer (S m)->(execOp a.eval o).run P w=.ok (.value (.pointer (S m))) w:=by intro m K;simp[execOp,B,K]
 simp only[ca]at h;split at h<;>(try simp only[aa,aY,reduceCtorEq]at h);.rename_i id e k;obtain⟨_,rfl⟩:=h;rw[k]at c;have d:=c;obtain⟨b,r,f,L⟩:=c.vn;rw[f]at d;exact .pure (n _ f) d
 .rename_i q D i e k;obtain⟨_,rfl⟩:=h;rw[k]at c;have d:=c;obtain⟨b,R,Q,f,_⟩:=c.M6;rw[f]at d;exact .pure (n _ f) d
 rename_i id g i e k;split at h
 .rename_i E q v N M D l;split at h<;>simp only[aa,aY,reduceCtorEq]at h;rename_i s;subst s;obtain⟨_,rfl⟩:=h;rw[k]at c;have d:=c;obtain⟨F,f⟩:=c.M4 l;obtain⟨_,_,C⟩:=hS.rowAt l;rcases C with⟨_,H⟩|⟨b,t,z,r,_⟩;.subst H;simp at F
  have j:a.eval x=.pointer (S ⟨b,i*q+e,Y⟩):=by rw[f,r];rfl
  rw[j]at d;exact .pure (n _ j) d
 simp at h
theorem ahH{x y:Operand}{c e:O}{T ts}(g:o.op=.call { callee:=.builtin .max,args:=#[x,y],argTypes:=ts })(l:cO x=S c)(j:cO y=S e){n:Prop}{z:V}(h:ca fr J (.max2 c e)=S (n,z))(_:T=ts):Yields P o a w J μ z:=by
 have d:=gx hF l;have b:=gx hF j;simp only[ca]at h;split at h;.rename_i k p r q f m;simp only[aa,aY]at h;obtain⟨_,rfl⟩:=h;rw[f]at d;rw[m]at b;refine .pure (v:=.int k (if p<q then q else p)) ?_ (.i _ _);simp[execOp,g,resolve,invoke,builtin,d.jy,b.jy,run_max_int2]
 simp at h
theorem ahG{x y:Operand}{c e:O}{ts}(g:o.op=.call { callee:=.builtin .min,args:=#[x,y],argTypes:=ts })(l:cO x=S c)(j:cO y=S e){n:Prop}{z:V}(h:ca fr J (.min2 c e)=S (n,z)):Yields P o a w J μ z:=by
 have d:=gx hF l;have b:=gx hF j;simp only[ca]at h;split at h;.rename_i k p r q f m;simp only[aa,aY]at h;obtain⟨_,rfl⟩:=h;rw[f]at d;rw[m]at b;refine .pure (v:=.int k (if q<p then q else p)) ?_ (.i _ _);simp[execOp,g,resolve,invoke,builtin,d.jy,b.jy,run_min_int2]
 simp at h
end eV

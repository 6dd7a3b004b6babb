/- A part of a proof; the claim's last text says of what. -/
import Derived.Calls
import Derived.Below
import Derived.Laws.AppendOwn
import Derived.Laws.OwnMore
import Derived.Lib.LaidTab
set_option linter.all false
open Option renaming some->S,none->Z
open Bool renaming true->θ,false->G
open List renaming length->Y
namespace Go
def B3:=@Nat.sub_zero
def BP.{u}:=@bne_eq_false_iff_eq.{u}
def BQ.{u}:=@List.countP_eq_zero.{u}
def BR.{u}:=@Array.toList_append.{u}
def Bb:=@not_or
def Bc.{u}:=@List.find?_some.{u}
def Bd.{u,v}:=@Except.ok.injEq.{u,v}
def Be.{u}:=@Array.getElem?_setIfInBounds.{u}
def De:=@decide_eq_true
def Df.{u}:=@List.find?_eq_none.{u}
def Dg.{u}:=@List.drop_drop.{u}
def Dh.{u}:=@Array.extract_size.{u}
def EH.{u}:=@List.mem_or_eq_of_mem_set.{u}
def EM.{u}:=@Ne.symm.{u}
def EN.{u,v}:=@List.pairwise_map.{u,v}
def EO.{u}:=@List.flatten_cons.{u}
def EP.{u}:=@List.find?_isSome.{u}
def FN.{u}:=@Array.getElem?_replicate.{u}
def FO.{u}:=@Array.getElem?_push_size.{u}
def HE.{u}:=@forall_eq_or_imp.{u}
def HF.{u,v}:=@Option.bind_eq_some_iff.{u,v}
def HG:=@List.range'_succ
def HH.{u,v}:=@List.isEmpty_map.{u,v}
def HI.{u}:=@List.getElem?_replicate.{u}
def K3.{u}:=@List.all_nil.{u}
def K4.{u}:=@List.Sublist.length_le.{u}
def K9.{u}:=@List.idxOf_cons.{u}
def KX:=@Nat.le_of_eq
def KY.{u}:=@List.takeWhile_sublist.{u}
def KZ.{u}:=@List.drop_of_length_le.{u}
def La.{u}:=@List.drop_left'.{u}
def Mc.{u}:=@List.length_replicate.{u}
def Md.{u}:=@Classical.choose_spec.{u}
def Me.{u,v}:=@Array.getElem?_mapIdx.{u,v}
def NO.{u}:=@Array.getElem?_setIfInBounds_self_of_lt.{u}
def QD:=@Nat.mul_one
def QK:=@Iff.rfl
def TT.{u}:=@List.replicate_succ.{u}
def V7.{u}:=@cond_false.{u}
def V8.{u}:=@bne_iff_ne.{u}
def V9.{u,v}:=@List.mem_filterMap.{u,v}
def Wa:=@List.getElem_range
def Wb.{u}:=@List.append_of_mem.{u}
def Wc:=@Int.not_lt
def Wd:=@Int.emod_lt_of_pos
def We:=@Array.toList_range
def Wg.{u}:=@Array.append_empty.{u}
def aA.{u}:=@List.getD_eq_getElem?_getD.{u}
def aC.{u}:=@List.getElem?_cons_zero.{u}
def aD.{u}:=@List.getElem?_eq_getElem.{u}
def aF.{u}:=@List.cons_append.{u}
def aG:=@Nat.zero_add
def aI.{u,v}:=@List.map_cons.{u,v}
def aL.{u,v}:=@Option.map_eq_some_iff.{u,v}
def aM:=@Nat.le_refl
def aO.{u}:=@List.append_assoc.{u}
def aP:=@Bool.false_eq_true
def aQ.{u}:=@if_pos.{u}
def aS.{u}:=@List.mem_of_getElem?.{u}
def aT.{u}:=@List.getElem?_set_self.{u}
def aU.{u}:=@if_true.{u}
def aX.{u}:=@List.getD_cons_zero.{u}
def aZ:=@Bool.and_eq_true
def aa.{u,v}:=@List.length_map.{u,v}
def aaD:=@UInt8.not_lt
def aaE:=@Nat.zero_mul
def aaF:=@Nat.pow_succ
def aaG.{u}:=@List.take_sublist.{u}
def aaH.{u,v}:=@List.map_set.{u,v}
def aaI.{u}:=@List.drop_sublist.{u}
def aaJ.{u}:=@List.any_eq_false.{u}
def aaK:=@Int.ofNat_le
def ab.{u}:=@Option.some.injEq.{u}
def ae.{u}:=@List.length_cons.{u}
def ae0.{u}:=@List.take_append.{u}
def ae1.{u,v}:=@List.lookup_cons.{u,v}
def ae2.{u,v}:=@List.getElem_map.{u,v}
def ae3.{u}:=@List.countP_cons.{u}
def aeX:=@decide_eq_decide
def aeY.{u}:=@Option.getD_none.{u}
def aeZ:=@Nat.le_add_right
def ag.{u}:=@List.getElem?_eq_some_iff.{u}
def ah.{u}:=@List.length_append.{u}
def ai.{u}:=@List.length_nil.{u}
def aiM:=@Nat.div_add_mod
def aiN:=@Int.emod_nonneg
def aju:=@Nat.two_pow_add_eq_or_of_lt
def ajv.{u}:=@List.idxOf_lt_length_of_mem.{u}
def ak:=@Int.toNat_natCast
def amr:=@eq_iff_iff
def ams.{u}:=@List.nodup_iff_pairwise_ne.{u}
def amt.{u}:=@List.drop_take.{u}
def amu:=@Int.tmod_eq_emod_of_nonneg
def amv:=@Int.pow_nonneg
def ao.{u}:=@beq_self_eq_true.{u}
def ar.{u,v}:=@List.map_nil.{u,v}
def ar2.{u}:=@List.take_nil.{u}
def ar3.{u}:=@List.set_eq_of_length_le.{u}
def ar4.{u,v}:=@List.length_filterMap_le.{u,v}
def ar5.{u}:=@List.drop_nil.{u}
def ar6.{u}:=@List.Pairwise.imp_of_mem.{u}
def ar7:=@Bool.and_self
def asQ:=@Nat.pos_of_mul_pos_left
def asR:=@Nat.le_mul_of_pos_right
def asS.{u}:=@List.pairwise_mergeSort.{u}
def asT.{u}:=@List.getElem?_set_self'.{u}
def avk:=@List.pairwise_lt_range
def avm.{u}:=@Array.getElem?_push_lt.{u}
def aw.{u}:=@if_neg.{u}
def ay.{u}:=@List.nil_append.{u}
def bB.{u}:=@List.getD_cons_succ.{u}
def bD.{u}:=@List.not_mem_nil.{u}
def bE:=@decide_eq_true_eq
def bF.{u}:=@List.forall_mem_cons.{u}
def bH.{u,v}:=@List.foldl_cons.{u,v}
def bI.{u}:=@List.append_nil.{u}
def bJ.{u}:=@List.mem_cons_of_mem.{u}
def bN.{u}:=@List.getElem?_set_ne.{u}
def bP:=@Nat.add_assoc
def bR.{u,v}:=@List.getElem?_map.{u,v}
def bW.{u}:=@List.mem_append.{u}
def bY.{u}:=@List.getElem?_cons_succ.{u}
def bZ:=@decide_false
def bd.{u}:=@List.mem_cons.{u}
def bf.{u}:=@Array.length_toList.{u}
def bg.{u}:=@List.getElem?_append_left.{u}
def bj.{u}:=@List.length_take.{u}
def bm.{u,v}:=@Prod.mk.injEq.{u,v}
def bn.{u}:=@List.getElem?_append_right.{u}
def bt:=@decide_true
def bw.{u}:=@if_false.{u}
def cA:=@false_imp_iff
def cC.{u}:=@List.set_cons_zero.{u}
def cD.{u}:=@List.getElem?_take_of_lt.{u}
def cE:=@Nat.le_trans
def cG:=@and_self
def cH.{u}:=@List.getElem?_eq_none.{u}
def cK:=@and_true
def cT.{u}:=@List.set_cons_succ.{u}
def cU.{u}:=@List.mem_cons_self.{u}
def cW.{u}:=@implies_true.{u}
def cY.{u}:=@Array.getElem?_eq_some_iff.{u}
def cZ.{u}:=@Array.getD_eq_getD_getElem?.{u}
def ca.{u}:=@List.length_drop.{u}
def cd.{u}:=@List.eq_nil_of_length_eq_zero.{u}
def cg:=@Nat.mul_le_mul_right
def cm.{u}:=@List.mem_iff_getElem?.{u}
def cp:=@Classical.byContradiction
def cq.{u}:=@Array.getElem?_eq_getElem.{u}
def cu:=@Nat.add_zero
def cv.{u,v}:=@List.mem_map.{u,v}
def cx.{u}:=@List.take_of_length_le.{u}
def cy.{u}:=@List.pairwise_cons.{u}
def dA.{u,v}:=@List.map_congr_left.{u,v}
def dB:=@Bool.and_true
def dF.{u}:=@List.any_eq_true.{u}
def dG:=@Bool.not_eq_true'
def dI:=@Bool.false_and
def dK:=@Nat.add_mul
def dM.{u}:=@List.eq_nil_iff_forall_not_mem.{u}
def dV.{u,v}:=@Option.map_some.{u,v}
def dW.{u}:=@List.take_append_of_le_length.{u}
def dX.{u}:=@List.set_append_right.{u}
def dY.{u}:=@List.mem_of_mem_take.{u}
def db.{u}:=@bne_self_eq_false.{u}
def df.{u}:=@List.all_eq_true.{u}
def dn.{u}:=@List.mem_singleton.{u}
def dp:=@Bool.true_and
def dt:=@Int.lt_irrefl
def eB.{u}:=@List.mem_filter.{u}
def eD:=@Bool.eq_iff_iff
def eJ.{u}:=@List.getElem_mem.{u}
def eO.{u}:=@List.mem_of_mem_drop.{u}
def eP:=@Bool.not_eq_false'
def eU:=@List.mem_range
def eV:=@Bool.and_false
def ee:=@Nat.add_sub_cancel_left
def ei.{u}:=@List.getElem?_drop.{u}
def ez.{u}:=@beq_iff_eq.{u}
def fC.{u}:=@List.take_append_drop.{u}
def fF.{u}:=@List.cons.injEq.{u}
def fI.{u}:=@List.size_toArray.{u}
def fJ.{u}:=@List.length_pos_iff.{u}
def fK.{u,v}:=@List.flatMap_cons.{u,v}
def fO.{u}:=@Option.some.inj.{u}
def fP:=@Nat.min_eq_left
def fQ.{u,v}:=@List.map_append.{u,v}
def fT.{u}:=@List.length_set.{u}
def fU.{u}:=@List.concat_eq_append.{u}
def fZ.{u}:=@List.getElem?_take.{u}
def fe.{u}:=@List.take_succ_cons.{u}
def fi:=@not_false_eq_true
def fk.{u}:=@Array.getElem?_modify.{u}
def ft.{u}:=@List.takeWhile_cons.{u}
def fv.{u}:=@List.mem_append_left.{u}
def gA.{u}:=@ne_eq.{u}
def gD.{u,v}:=@List.map_take.{u,v}
def gE.{u}:=@List.eq_nil_or_concat.{u}
def gF.{u}:=@List.all_cons.{u}
def gG.{u}:=@List.drop_eq_getElem_cons.{u}
def gN.{u}:=@beq_eq_false_iff_ne.{u}
def gO:=@Int.toNat_zero
def gP.{u}:=@Array.getElem?_setIfInBounds_ne.{u}
def gq.{u}:=@List.isEmpty_cons.{u}
def gu:=@not_true
def iC.{u}:=@List.pairwise_iff_getElem.{u}
def iG.{u}:=@List.pairwise_append.{u}
def iP:=@Nat.sub_self
def iR:=@Bool.or_eq_true
def iX:=@decide_eq_false_iff_not
def iY:=@Nat.add_left_cancel_iff
def iZ.{u}:=@List.isEmpty_nil.{u}
def ic:=@of_decide_eq_true
def im:=@Nat.lt_of_lt_of_le
def jE.{u}:=@List.take_zero.{u}
def jJ:=@Nat.mod_eq_of_lt
def jK:=@Nat.zero_le
def jL:=@Nat.one_mul
def jP:=@Nat.lt_or_ge
def jQ.{u,v,w}:=@List.map_map.{u,v,w}
def jR.{u}:=@List.getElem?_set.{u}
def ja.{u,v}:=@List.foldl_nil.{u,v}
def jc.{u}:=@List.filter_cons.{u}
def jd:=@Int.fdiv_eq_ediv_of_nonneg
def jm.{u}:=@List.set_append_left.{u}
def ju:=@Nat.mul_comm
def jv.{u}:=@List.filter_append.{u}
def k7:=@Bool.not_true
def kC:=@Int.natCast_zero
def kP:=@List.getElem?_range
def kQ.{u}:=@List.drop_succ_cons.{u}
def kR.{u}:=@List.ext_getElem?.{u}
def kS.{u}:=@Array.size_append.{u}
def kW.{u}:=@List.length_filter_le.{u}
def kX.{u}:=@Array.getElem?_toList.{u}
def kg.{u}:=@List.getLast?_singleton.{u}
def km:=@true_and
def kn:=@Bool.or_eq_false_iff
def kz.{u,v}:=@Option.bind_some.{u,v}
def l9.{u}:=@List.set_set.{u}
def lJ.{u}:=@List.getLast?_append.{u}
def lK:=@BitVec.ofInt_natCast
def lY.{u,v}:=@List.map_drop.{u,v}
def mE.{u}:=@List.mem_append_right.{u}
def mP.{u,v}:=@List.flatMap_nil.{u,v}
def mQ:=@BitVec.toNat_ofNat
def mZ:=@or_false
def ma.{u}:=@Array.getElem?_append_left.{u}
def mh:=@Nat.le_succ
def mi:=@Int.le_refl
def nE.{u}:=@List.length_eq_zero_iff.{u}
def nF.{u,v}:=@List.foldl_append.{u,v}
def nS.{u}:=@List.take_left'.{u}
def nZ.{u,v}:=@List.filterMap_cons.{u,v}
def na.{u}:=@List.drop_append_of_le_length.{u}
def nc:=@Bool.not_false
def o7:=@Nat.div_lt_of_lt_mul
def oK.{u}:=@List.take_take.{u}
def oL.{u}:=@List.drop_zero.{u}
def oM.{u}:=@Array.mem_of_getElem?.{u}
def ow:=@Bool.false_or
def pW:=@false_or
def pX.{u}:=@Option.some_or.{u}
def pY.{u}:=@Option.getD_some.{u}
def pZ.{u}:=@List.take_left.{u}
def qM:=@of_decide_eq_false
def qN:=@UInt8.toNat_ofNat'
def qO.{u}:=@List.drop_eq_nil_of_le.{u}
def qa.{u,v}:=@List.mem_flatMap.{u,v}
def qb.{u}:=@List.filter_cons_of_pos.{u}
def qc.{u}:=@List.filter_cons_of_neg.{u}
def qd.{u,v}:=@Array.toList_map.{u,v}
def rl:=@decide_eq_false
def rm:=@UInt8.toNat_inj
def rq:=@false_and
def ru.{u}:=@List.set_comm.{u}
def si.{u}:=@List.getElem?_toArray.{u}
def tW.{u}:=@List.drop_length.{u}
def tZ.{u}:=@List.mem_of_find?_eq_some.{u}
def ta:=@List.range_eq_range'
def u6:=@List.range_succ
def u7.{u}:=@List.filter_nil.{u}
def uq.{u}:=@List.mergeSort_perm.{u}
def wg:=@Nat.mod_lt
def wh:=@Nat.lt_of_le_of_lt
def wi:=@Bool.true_eq_false
def xl:=@List.range_succ_eq_map
def xn.{u}:=@List.nodup_append.{u}
def xo:=@Bool.not_eq_false
def xp.{u}:=@Array.size_modify.{u}
def xq.{u}:=@Array.getElem?_eq_none.{u}
def yk.{u}:=@List.singleton_append.{u}
def yl.{u}:=@List.set_getElem_self.{u}
def zB:=@Nat.sub_mul
def zC:=@Nat.pow_le_pow_right
def zD.{u}:=@List.Pairwise.filter.{u}
def zd.{u}:=@Array.eq_empty_of_size_eq_zero.{u}
end Go
namespace Go
def aH{a b:Prop}(x:a)(y:b):a/\b:=⟨x,y⟩
abbrev gW:=List (List UInt8)
abbrev aR:=List UInt8
abbrev bU:=List Int
abbrev fb:=List Nat
abbrev dE:=Option Nat
abbrev bQ:=World
abbrev bG:=Program
abbrev gh:=List (Int×Int)
abbrev gd:=List (Nat×Bool)
end Go

namespace Go.Pm
open Go Go.RowKit
variable(H:bG)(X:Nat)(D:bQ){U e:Nat}{q:Value}{N:bG}{Q L:bQ}
inductive V where
 |u
 |b (x:Bool)
 |i (k:IntKind) (n:Int)
 |s (l:aR)
 |nil
 |lit (sz:Nat) (xs:List (List V))
 |sl (sz:Nat) (xs:List (List V))
 |own (id g:Nat)
 |sub (id g lo hi:Nat)
 |ptr (id off:Nat)
 |ep (sz:Nat) (xs:List (List V)) (i off:Nat)
 |rp (id g i off:Nat)
 |mp (id:Nat)
 |l0
 |mV
 |fn (f:Nat) (caps:List V)
 |agg (xs:List V)
 |jg (xs:List V)
@[match_pattern]abbrev V.I(a:Int):V:=.i .i64 a
abbrev fx:=List (List V)
abbrev aB:=List V
def V.pure:V->Bool
 |.b _|.i _ _|.s _|.sl _ _=>θ
 |_=>G
def V.cell:V->Bool
 |.u|.agg _|.jg _=>G
 |_=>θ
inductive Ob where
 |dead
 |box (T:Nat) (cs:aB)
 |row (E sz by':Nat) (g:Nat) (sh:Bool) (xs:fx)
 |map (K E:Nat) (es:List (V×V))
abbrev aj:=List Ob
variable{M C:aj}
abbrev Mem:=Nat->Value
variable{R F:Mem}
def nQ:Value->dE|.pointer (S a)=>S a.block|.slice (S a) _ _=>S a.block|.map (S r)=>S r|_=>Z
def Ob.wat:Ob->Prop|.dead=>False|.box _ _=>True|.row _ sz _ _ sh xs=>sh=θ->Y xs*sz<=X|.map _ _ _=>True
def wr(J:aj)(c:Mem)(b a:Nat):Prop:=∃id o,J[id]?=S o/\nQ (c id)=S b/\o.wat a
def gv(a:fx)(i j:Nat):Option V:=(a[i]?).bind (·[j]?)
def pS(v:Value)(b c sz:Nat):Value :=
 match v with|.slice a _ cap=>.slice (if cap=b then a else a.map (·.add (b*sz))) (c - b) (cap - b)|v=>v
def rpv(v:Value)(i b c:Nat):Value :=
 match v with|.slice (S a) _ _=>.pointer (S ⟨a.block,i*c+b,Z⟩)|v=>v
inductive VR (w:bQ) (J:aj) (μ:Mem):V->Value->Prop
 |u (v:Value):VR w J μ .u v
 |b (x:Bool):VR w J μ (.b x) (.bool x)
 |i (k:IntKind) (n:Int):VR w J μ (.i k n) (.int k n)
 |s (l:aR) (x:ByteArray) (hl:x.data.toList=l) (hm:l.length<=maxLen):VR w J μ (.s l) (.string x)
 |nil:VR w J μ .nil (.slice none 0 0)
 |FX (sz:Nat):VR w J μ (.sl sz []) (.slice none 0 0)
 |sle (sz:Nat) (a:Addr):VR w J μ (.sl sz []) (.slice (some a) 0 0)
 |sl (sz:Nat) (xs:fx) (b o cap:Nat) (f:Nat->Nat->Value) (hlen:xs.length<=cap) (pU:cap<=maxLen) (eG:∀r∈xs,r.length=sz)
   (hc:∀i j x,gv xs i j=some x->w.cell? ⟨b,o+i*sz+j,none⟩=some (f i j)/\¬wr J μ b (o+i*sz+j)/\x.pure=true)
   (hv:∀i j x,gv xs i j=some x->VR w J μ x (f i j)):VR w J μ (.sl sz xs) (.slice (some ⟨b,o,none⟩) xs.length cap)
 |PO (sz:Nat):VR w J μ (.lit sz []) (.slice none 0 0)
 |lit (sz:Nat) (xs:fx) (b o:Nat) (f:Nat->Nat->Value) (pU:xs.length<=maxLen) (eG:∀r∈xs,r.length=sz)
   (hc:∀i j x,gv xs i j=some x->w.cell? ⟨b,o+i*sz+j,none⟩=some (f i j)/\¬wr J μ b (o+i*sz+j)/\x.pure=true)
   (hv:∀i j x,gv xs i j=some x->VR w J μ x (f i j)):VR w J μ (.lit sz xs) (.slice (some ⟨b,o,none⟩) xs.length xs.length)
 |own (id g:Nat) (v:Value) (hid:id<J.length) (h:∀E sz by' g' sh xs,J[id]?=some (.row E sz by' g' sh xs)->g<=g'/\(g=g'->v=μ id)):VR w J μ (.own id g) v
 |sub (id g lo hi:Nat) (v:Value) (hid:id<J.length)
   (h:∀E sz by' g' sh xs,J[id]?=some (.row E sz by' g' sh xs)->g<=g'/\(g=g'->lo<=hi/\hi<=xs.length/\v=pS (μ id) lo hi sz)):VR w J μ (.sub id g lo hi) v
 |ptr (id off b:Nat) (h:∃T cs,J[id]?=some (.box T cs)) (hm:μ id=.pointer (some ⟨b,0,none⟩)):VR w J μ (.ptr id off) (.pointer (some ⟨b,off,none⟩))
 |ep (sz:Nat) (xs:fx) (i off b o:Nat) (f:Nat->Value) (hi:i<xs.length) (eG:∀r∈xs,r.length=sz)
   (hc:∀j x,gv xs i j=some x->w.cell? ⟨b,o+j,none⟩=some (f j)/\¬wr J μ b (o+j)/\x.pure=true)
   (hv:∀j x,gv xs i j=some x->VR w J μ x (f j)):VR w J μ (.ep sz xs i off) (.pointer (some ⟨b,o+off,none⟩))
 |rp (id g i off:Nat) (v:Value) (hid:id<J.length)
   (h:∀E sz by' g' sh xs,J[id]?=some (.row E sz by' g' sh xs)->g<=g'/\(g=g'->i<xs.length/\v=rpv (μ id) i off sz)):VR w J μ (.rp id g i off) v
 |mp (id r:Nat) (h:∃K E es,J[id]?=some (.map K E es)) (hm:μ id=.map (some r)):VR w J μ (.mp id) (.map (some r))
 |l0:VR w J μ .l0 (.map none)
 |mV:VR w J μ .mV (.pointer none)
 |fn (f:Nat) (caps:aB) (vs:Array Value) (hl:caps.length=vs.size) (hv:∀i x,caps[i]?=some x->VR w J μ x (vs.getD i undef)) :
   VR w J μ (.fn f caps) (.func (.func f) #[] vs)
 |agg (xs:aB) (vs:Array Value) (hl:xs.length=vs.size) (hv:∀i x,xs[i]?=some x->VR w J μ x (vs.getD i undef)):VR w J μ (.agg xs) (.agg vs)
 |jg (xs:aB) (vs:Array Value) (hl:xs.length=vs.size) (hv:∀i x,xs[i]?=some x->VR w J μ x (vs.getD i undef)):VR w J μ (.jg xs) (.tuple vs)
inductive V.Lt (n:Nat):V->Prop
 |u:Lt n .u
 |b (x):Lt n (.b x)
 |i (k a):Lt n (.i k a)
 |s (l):Lt n (.s l)
 |nil:Lt n .nil
 |lit (sz xs):Lt n (.lit sz xs)
 |sl (sz xs):Lt n (.sl sz xs)
 |own (id g) (h:id<n):Lt n (.own id g)
 |sub (id g lo hi) (h:id<n):Lt n (.sub id g lo hi)
 |ptr (id off) (h:id<n):Lt n (.ptr id off)
 |ep (sz xs i off):Lt n (.ep sz xs i off)
 |rp (id g i off) (h:id<n):Lt n (.rp id g i off)
 |mp (id) (h:id<n):Lt n (.mp id)
 |l0:Lt n .l0
 |mV:Lt n .mV
 |fn (f caps) (h:∀(i:Nat) (x:V),caps[i]?=some x->Lt n x):Lt n (.fn f caps)
 |agg (xs) (h:∀(i:Nat) (x:V),xs[i]?=some x->Lt n x):Lt n (.agg xs)
 |jg (xs) (h:∀(i:Nat) (x:V),xs[i]?=some x->Lt n x):Lt n (.jg xs)
def VR.lt{x:V}(h:VR Q M R x q):x.Lt (Y M):=by
 induction h with
 |u q=>exact .u
 |b x=>exact .b x
 |i k n=>exact .i k n
 |s l x v z=>exact .s l
 |nil=>exact .nil
 |FX d=>exact .sl d _
 |sle d a=>exact .sl d _
 |sl d j b o F f A H B C m ih=>exact .sl d j
 |PO d=>exact .lit d _
 |lit d j b o f H B C m ih=>exact .lit d j
 |own id g q e h=>exact .own id g e
 |sub id g D w q e h=>exact .sub id g D w e
 |ptr id c b h z =>obtain⟨T,J,t⟩:=h;exact .ptr id c (ag.1 t).1
 |ep d j i c b o f w B C m ih=>exact .ep d j i c
 |rp id g i c q e h=>exact .rp id g i c e
 |mp id r h z =>obtain⟨K,E,I,t⟩:=h;exact .mp id (ag.1 t).1
 |l0=>exact .l0
 |mV=>exact .mV
 |fn f p y v m ih=>exact .fn f p ih
 |agg j y v m ih=>exact .agg j ih
 |jg j y v m ih=>exact .jg j ih
def V.Lt.mono{x:V}(h:x.Lt U)(n:U<=e):x.Lt e:=by induction h with|u=>exact .u|b x=>exact .b x|i k a=>exact .i k a|s l=>exact .s l|nil=>exact .nil|lit m d=>exact .lit m d|sl m d=>exact .sl m d|own id g h=>exact .own id g (im h n)|sub id g p o h=>exact .sub id g p o (im h n)|ptr id c h=>exact .ptr id c (im h n)|ep m d i c=>exact .ep m d i c|rp id g i c h=>exact .rp id g i c (im h n)|mp id h=>exact .mp id (im h n)|l0=>exact .l0|mV=>exact .mV|fn f j h ih=>exact .fn f j ih|agg d h ih=>exact .agg d ih|jg d h ih=>exact .jg d ih
structure uo (w:bQ) (J:aj) (μ:Mem) (w':bQ) (J':aj) (μ':Mem):Prop where
 cell:∀b o v,w.cell? ⟨b,o,none⟩=some v->¬wr J μ b o->w'.cell? ⟨b,o,none⟩=some v/\¬wr J' μ' b o
 len:J.length<=J'.length
 box:∀id T cs,J[id]?=some (.box T cs)->(∃cs',J'[id]?=some (.box T cs'))/\μ' id=μ id
 map:∀id K E es,J[id]?=some (.map K E es)->(∃es',J'[id]?=some (.map K E es'))/\μ' id=μ id
 row:∀id E sz by' g' sh xs,id<J.length->J'[id]?=some (.row E sz by' g' sh xs)->∃g sh0 xs0,J[id]?=some (.row E sz by' g sh0 xs0)/\g<=g'/\(g=g'->xs0.length=xs.length/\μ' id=μ id)
def VR.mono(p:uo Q M R L C F){x:V}(h:VR Q M R x q):VR L C F x q:=by
 induction h with
 |u q=>exact .u q
 |b x=>exact .b x
 |i k n=>exact .i k n
 |s l x I hm=>exact .s l x I hm
 |nil=>exact .nil
 |FX d=>exact .FX d
 |sle d a=>exact .sle d a
 |sl d t b o an f ad pU eG m N ih =>exact .sl d t b o an f ad pU eG (λi j x c=>⟨(p.cell _ _ _ (m i j x c).1 (m i j x c).2.1).1,(p.cell _ _ _ (m i j x c).1 (m i j x c).2.1).2,(m i j x c).2.2⟩) ih
 |PO d=>exact .PO d
 |lit d t b o f pU eG m N ih =>exact .lit d t b o f pU eG (λi j x c=>⟨(p.cell _ _ _ (m i j x c).1 (m i j x c).2.1).1,(p.cell _ _ _ (m i j x c).1 (m i j x c).2.1).2,(m i j x c).2.2⟩) ih
 |own id g q e h =>
  refine .own id g q (im e p.len) λE d y D X t U=>?_;obtain⟨P,J,W,A,z,w⟩:=p.row id E d y D X t e U;have B:=h _ _ _ _ _ _ A;refine⟨cE B.1 z,λhg=>?_⟩;have H:P=D:=by omega
  rw[(w H).2];exact B.2 (by omega)
 |sub id g lo hi q e h =>
  refine .sub id g lo hi q (im e p.len) λE d y D X t U=>?_;obtain⟨P,J,W,A,z,w⟩:=p.row id E d y D X t e U;have B:=h _ _ _ _ _ _ A;refine⟨cE B.1 z,λhg=>?_⟩;have H:P=D:=by omega
  rw[(w H).2,<- (w H).1];exact B.2 (by omega)
 |ptr id v b h hm =>obtain⟨T,cs,A⟩:=h;obtain⟨⟨af,z⟩,w⟩:=p.box id T cs A;exact .ptr id v b ⟨T,af,z⟩ (w.trans hm)
 |ep d t i v b o f hi eG m N ih =>exact .ep d t i v b o f hi eG (λj x c=>⟨(p.cell _ _ _ (m j x c).1 (m j x c).2.1).1,(p.cell _ _ _ (m j x c).1 (m j x c).2.1).2,(m j x c).2.2⟩) ih
 |rp id g i v q e h =>
  refine .rp id g i v q (im e p.len) λE d y D X t U=>?_;obtain⟨P,J,W,A,z,w⟩:=p.row id E d y D X t e U;have B:=h _ _ _ _ _ _ A;refine⟨cE B.1 z,λhg=>?_⟩;have H:P=D:=by omega
  rw[(w H).2,<- (w H).1];exact B.2 (by omega)
 |mp id r h hm =>obtain⟨K,E,es,A⟩:=h;obtain⟨⟨am,z⟩,w⟩:=p.map id K E es A;exact .mp id r ⟨K,E,am,z⟩ (w.trans hm)
 |l0=>exact .l0
 |mV=>exact .mV
 |fn f ac O I N ih=>exact .fn f ac O I ih
 |agg t O I N ih=>exact .agg t O I ih
 |jg t O I N ih=>exact .jg t O I ih
def uo.refl(J:aj)(a:Mem):uo D J a D J a :=⟨λ_ _ _ h c=>⟨h,c⟩,aM _,λ_ _ f h=>⟨⟨f,h⟩,rfl⟩,λ_ _ _ b h=>⟨⟨b,h⟩,rfl⟩,λ_ _ _ _ g d e _ h=>⟨g,d,e,h,aM _,λ_=>⟨rfl,rfl⟩⟩⟩
def uS(J:aj)(b:Mem)(c:bQ)(d:aj)(a:Mem):Prop:=∀x v,VR D J b x v->VR c d a x v
def uo.eY(p:uo Q M R L C F):uS Q M R L C F:=λ_ _ h=>h.mono p
def jI(J:aj)(b:Mem)(c:bQ)(d:aj)(a:Mem):Prop:=∀x v,VR D J b x v->x.Lt X->VR c d a x v
def uS.Ua(k:uS Q M R L C F):jI U Q M R L C F:=λx v h _=>k x v h
def jI.refl(J:aj)(a:Mem):jI X D J a D J a:=λ_ _ h _=>h
def jI.trans{b:bQ}{c:aj}{a:Mem} (h:jI U Q M R L C F) (k:jI U L C F b c a):jI U Q M R b c a:=λx v e d=>k x v (h x v e d) d
def uS.refl(J:aj)(a:Mem):uS D J a D J a:=λ_ _ h=>h
def uS.trans{b:bQ}{c:aj}{a:Mem} (h:uS Q M R L C F) (k:uS L C F b c a):uS Q M R b c a:=λx v d=>k x v (h x v d)
def Ti(a b:Nat):Prop :=0<a/\∃(t:TypeInfo) (z:Value),H.info? X=S t/\t.zero=S z/\t.size=a/\t.bytes=b/\z.cells.size=a
def nD(J:aj)(d:Mem)(b:fx)(c:Nat)(a:List Value):Prop :=(∀r∈b,Y r=c)/\∀i j x,gv b i j=S x->x.pure=θ/\∃v,a[i*c+j]?=S v/\VR D J d x v
def V.am9:V->Bool
 |.i _ _|.s _|.b _=>θ
 |_=>G
def V.vC:V->Bool
 |.i _ _|.s _|.b _=>θ
 |.agg xs=>xs.all V.am9
 |_=>G
def V.Hm:V->Bool|.agg xs=>xs.all V.pure|x=>x.pure
def aeV(J:aj)(b:Mem)(c:List (V×V))(a:Array MapEntry)(clock:Nat):Prop :=a.size=Y c/\(∀(i:Nat) (k x:V),c[i]?=S (k,x)->k.vC=θ/\x.Hm=θ/\∃e,a[i]?=S e/\VR D J b k e.key/\VR D J b x e.val) /\(∀(i:Nat) (e:MapEntry),a[i]?=S e->e.born<clock)/\(∀(i j:Nat) (e d:MapEntry),a[i]?=S e->a[j]?=S d->e.born=d.born->i=j)
def Ma(J:aj)(d:Mem)(v:Value):Ob->Prop|.dead=>True|.box T cs=>∃(b:Nat) (e:Array Value),v=.pointer (S ⟨b,0,Z⟩)/\X<=b/\D.heap[b]?=S (.cells e T (0,0))/\e.size=Y cs /\∀(j:Nat) (x:V),cs[j]?=S x->∃u,e[j]?=S u/\VR D J d x u|.row E sz by' _ _ xs=>Ti H E sz by'/\∃c:List Value,D.ownsRow X E sz v xs.length c/\nD D J d xs sz c|.map _ _ es=>∃(r:Nat) (a:Array MapEntry) (clock:Nat),v=.map (S r)/\X<=r/\D.heap[r]?=S (.map a clock)/\aeV D J d es a clock
def I5:bU:=[1,10,100,1000,10000,100000,1000000,10000000,100000000,1000000000,10000000000,100000000000,1000000000000,10000000000000,100000000000000,1000000000000000,10000000000000000,100000000000000000,1000000000000000000,10000000000000000000]
def aft:List (String×IntKind×bU):=[("internal/strconv.uint64pow10",.u64,I5)]
def Laid:Prop:=∀t∈aft,∀g,H.globalNamed t.1=S g->g<X/\Lib.TabIs H D t.1 t.2.1 t.2.2
structure Dd (P:bG) (B:Nat) (w0 w:bQ):Prop extends Below B w0 w where
 laid:Laid P B w0
def Dd.grown{a w w':bQ}{row:dE}(h:Dd N U a w)(c:w.grownBy w' row)(b:U<=w.heap.size)(d:∀k,row=S k->U<=k):Dd N U a w' :=⟨h.toBelow.grown c b d,h.laid⟩
def Dd.tab(h:Dd N U Q L){t:String×IntKind×bU}(c:t∈aft)(b:N.globalNamed t.1=S e):Lib.TabIs N L t.1 t.2.1 t.2.2:=by obtain⟨d,a⟩:=h.laid t c e b;unfold Lib.TabIs World.var? at a |-;simp only[b,kz]at a |-;rw[h.block e d];exact a
structure l8 (P:bG) (B:Nat) (w0 w:bQ) (J:aj) (μ:Mem):Prop where
 below:Dd P B w0 w
 base:B<=w.heap.size
 obj:∀id o,J[id]?=some o->Ma P B w J μ (μ id) o
 sep:∀i j oi oj b,J[i]?=some oi->J[j]?=some oj->oi≠.dead->oj≠.dead->nQ (μ i)=some b->nQ (μ j)=some b->i=j
def FR(J:aj)(c:Mem)(b:aB)(a:Act):Prop :=a.defers=[]/\a.tmps.size=Y b/\∀i x,b[i]?=S x->VR D J c x (a.tmps.getD i undef)
def FR.eY(k:uS Q M R L C F){b:aB}{a:Act}(h:FR Q M R b a):FR L C F b a :=⟨h.1,h.2.1,λi x c=>k _ _ (h.2.2 i x c)⟩
structure St where
 fr:aB
 J:aj
variable{A:St}
abbrev bL:=Exit->St->Prop
variable{p:bL}
abbrev ck:=St->Prop
def VRs(J:aj)(c:Mem)(a:aB)(b:Array Value):Prop:=b.size=Y a/\∀i x,a[i]?=S x->VR D J c x (b.getD i undef)
def PC(b:aB)(J:aj)(Q:V->aj->Prop):Prop :=∀(B:Nat) (g w:bQ) (d:Mem) (h:Array Value),l8 H B g w J d->VRs w J d b h ->Calls H X h w λe f=>∃r v c a,e=.returned v/\Q r c/\l8 H B g f c a/\VR f c a r v/\uS w J d f c a
def PW(P:bG)(c:Code)(K:bL)(f:St):Prop :=∀(B:Nat) (i w:bQ) (g:Mem) (a:Act),l8 P B i w f.J g->FR w f.J g f.fr a ->c.wp P (λe j h=>∃b d,K e b/\l8 P B i h b.J d/\FR h b.J d b.fr j/\jI X w f.J g h b.J d) a w
def PC.mono{a:aB}{Q e:V->aj->Prop}(h:PC N U a M Q)(l:∀r c,Q r c->e r c):PC N U a M e :=λB i w f k m j=>(h B i w f k m j).mono λ_ _ ⟨r,v,c,d,g,n,b⟩=>⟨r,v,c,d,g,l _ _ n,b⟩
def PW.mono{c:Code}{g:bL}(h:PW U N c p A)(n:∀e b,p e b->g e b):PW U N c g A :=λB k w i a j m=>wp_mono (h B k w i a j m) λ_ _ _ ⟨b,f,l,d⟩=>⟨b,f,n _ _ l,d⟩
def PW.skip(h:p .normal A):PW U N .skip p A :=λ_ _ _ b _ a c=>wp_skip ⟨A,b,h,a,c,jI.refl _ _ _ _⟩
def PW.ret(h:p .ret A):PW U N .ret p A :=λ_ _ _ b _ a c=>wp_ret ⟨A,b,h,a,c,jI.refl _ _ _ _⟩
def PW.exit{id:Nat}(h:p (.exit id) A):PW U N (.exit id) p A :=λ_ _ _ b _ a c=>wp_exit ⟨A,b,h,a,c,jI.refl _ _ _ _⟩
def am3(P:bG)(y:Code)(K:bL):bL|.normal,a=>PW X P y K a|e,a=>K e a
def PW.seq{x y:Code}(h:PW U N x (am3 U N y p) A):PW U N (.seq x y) p A:=by
 intro B m w n a u r;refine wp_seq (wp_mono (h B m w n a u r) ?_);rintro e t q ⟨g,f,j,b,d,i⟩;cases e with
 |normal=>exact wp_mono (j B m q f t b d) λ_ _ _ ⟨st2,k,o,s,v,z⟩=>⟨st2,k,o,s,v,i.trans z⟩
 |exit id=>exact⟨g,f,j,b,d,i⟩
 |goto l=>exact⟨g,f,j,b,d,i⟩
 |ret=>exact⟨g,f,j,b,d,i⟩
 |panic c=>exact⟨g,f,j,b,d,i⟩
 |outgrown=>exact⟨g,f,j,b,d,i⟩
def FJ(id:Nat)(K:bL):bL|.exit id',a=>if id'=id then K .normal a else K (.exit id') a|e,a=>K e a
def PW.block{id:Nat}{c:Code}(h:PW U N c (FJ id p) A):PW U N (.block id c) p A:=by
 intro B o w n a r q;refine wp_block (wp_mono (h B o w n a r q) ?_);rintro e t s ⟨g,f,i,b,d,j⟩;cases e with
 |normal=>exact⟨g,f,i,b,d,j⟩
 |exit m =>
  by_cases k:m=id;.subst k;simp only[FJ,aU]at i;simp only[Exit.inBlock,aU];exact⟨g,f,i,b,d,j⟩
  simp only[FJ,k,bw]at i;simp only[Exit.inBlock,k,bw];exact⟨g,f,i,b,d,j⟩
 |goto l=>exact⟨g,f,i,b,d,j⟩
 |ret=>exact⟨g,f,i,b,d,j⟩
 |panic c=>exact⟨g,f,i,b,d,j⟩
 |outgrown=>exact⟨g,f,i,b,d,j⟩
def ze{d:Exit->Act->bQ->Prop}{a:Act}{c:Code}(Jj:Nat->Act->bQ->Prop)(h0:Jj X a Q) (round:∀k a Q,Jj k a Q->c.wp N (Exit.then (λp o=>∃t,t<k/\Jj t p o) d) a Q):(Code.loop c).wp N d a Q:=by
 intro b k v;have u:∀X a Q,Jj X a Q->∃e p o,d e p o/\Arrives N (lone (b.at a (.code c::.inLoop c::k)) v Q) b k v e p o:=by
  intro X;induction X using Nat.strongRecOn with
  |_ X ih =>
  intro a Q w;obtain⟨e,f,g,i,j⟩:=round X a Q w b (.inLoop c::k) v;cases e with
  |normal =>obtain⟨t,y,n⟩:=i;obtain⟨s,q,r,m,h⟩:=ih t y f g n;exact⟨s,q,r,m,.of_steps (Steps.trans j (.one step_inLoop)) h⟩
  |exit id=>exact⟨_,f,g,i,.pass (x:=.inLoop c) rfl (λ_ _=>.inl (by simp)) j⟩
  |goto l=>exact⟨_,f,g,i,.pass (x:=.inLoop c) rfl (λ_ _=>.inl (by simp)) j⟩
  |ret=>exact⟨_,f,g,i,.pass (x:=.inLoop c) rfl (λ_ _=>.inl (by simp)) j⟩
  |panic z=>exact⟨_,f,g,i,.pass (x:=.inLoop c) rfl (λ_ _=>.inl (by simp)) j⟩
  |outgrown=>exact⟨_,f,g,i,.pass (x:=.inLoop c) rfl (λ_ _=>.inl (by simp)) j⟩
 obtain⟨e,p,o,i,j⟩:=u _ a Q h0;exact⟨e,p,o,i,.of_steps (.one step_loop) j⟩
def ajd(I:ck)(m:St->Nat)(k:Nat)(K:bL):bL|.normal,a=>I a/\m a<k|e,a=>K e a
def PW.loop{c:Code}(I:ck)(m:St->Nat)(h0:I A)(h:∀A,I A->PW U N c (ajd I m (m A) p) A):PW U N (.loop c) p A:=by
 intro B v w y a Q P;have F:∀(b:Nat) (g:St) (t:bQ) (n:Mem) (z:Act),m g=b->I g->l8 N B v t g.J n->FR t g.J n g.fr z->jI U w A.J y t g.J n ->
   (Code.loop c).wp N (λe L x=>∃d f,p e d/\l8 N B v x d.J f/\FR x d.J f d.fr L/\jI U w A.J y x d.J f) z t:=by intro b g t n z R M O H T;refine ze b (λk K u=>∃st2 o,m st2=k/\I st2/\l8 N B v u st2.J o/\FR u st2.J o st2.fr K/\jI U w A.J y u st2.J o) ⟨g,n,R,M,O,H,T⟩ ?_;rintro k K u ⟨st2,o,E,D,V,C,s⟩;refine wp_mono (h st2 D B v u o K V C) ?_;rintro e L x ⟨d,f,q,j,i,r⟩;cases e with|normal=>exact⟨m d,E▸q.2,d,f,rfl,q.1,j,i,s.trans r⟩|exit id=>exact⟨d,f,q,j,i,s.trans r⟩|goto l=>exact⟨d,f,q,j,i,s.trans r⟩|ret=>exact⟨d,f,q,j,i,s.trans r⟩|panic c=>exact⟨d,f,q,j,i,s.trans r⟩|outgrown=>exact⟨d,f,q,j,i,s.trans r⟩
 exact F _ A w y a rfl h0 Q P (jI.refl _ _ _ _)
def Px{w i:bQ}{a:Nat}{e:TypeId}{b:Nat}{v:Value}{n:Nat}{k:List Value}(h:w.ownsRow a e b v n k) (l:∀g,nQ v=S g->i.heap[g]?=w.heap[g]?):i.ownsRow a e b v n k:=by
 obtain⟨m,d⟩:=h;refine⟨m,?_⟩;rcases d with d|⟨g,f,c,j,p,o,r⟩;.exact .inl d
 exact .inr ⟨g,f,c,j,p,by rw[l g (by simp[j,nQ])];exact o,r⟩
def Ma.A6{o:Ob}(h:Ma N U Q M R q o)(m:o≠.dead)(a:nQ q=S e):U<=e/\e<Q.heap.size:=by
 cases o with
 |dead=>exact absurd rfl m
 |box T v =>obtain⟨s,p,rfl,c,b,_⟩:=h;simp only[nQ,ab]at a;subst a;exact⟨c,(cY.1 b).1⟩
 |row E t i g w x =>
  obtain⟨_,f,⟨_,b⟩,_⟩:=h;rcases b with⟨rfl,_⟩|⟨g,n,j,rfl,l,k,_⟩;.simp[nQ]at a
  simp only[nQ,ab]at a;subst a;exact⟨l,(cY.1 k).1⟩
 |map K E u =>obtain⟨r,d,clock,rfl,c,b,_⟩:=h;simp only[nQ,ab]at a;subst a;exact⟨c,(cY.1 b).1⟩
def nD.eY{b:fx}{a:List Value}(h:nD Q M R b U a)(k:uS Q M R L C F):nD L C F b U a :=
 ⟨h.1,λi j x c=>⟨(h.2 i j x c).1,let ⟨v,d,e⟩:=(h.2 i j x c).2;⟨v,d,k _ _ e⟩⟩⟩
def aeV.eY{c:List (V×V)}{b:Array MapEntry}{clock:Nat}(h:aeV Q M R c b clock)(k:uS Q M R L C F):aeV L C F c b clock :=
 ⟨h.1,λi a x l=>let ⟨f,j,e,d,g,m⟩:=h.2.1 i a x l;⟨f,j,e,d,k _ _ g,k _ _ m⟩,h.2.2⟩
def Ma.eY{o:Ob}(h:Ma N U Q M R q o)(k:uS Q M R L C F) (f:∀b,nQ q=S b->L.heap[b]?=Q.heap[b]?):Ma N U L C F q o:=by
 cases o with
 |dead=>trivial
 |box T D =>obtain⟨l,m,rfl,e,a,i,v⟩:=h;exact⟨l,m,rfl,e,by rw[f l rfl];exact a,i,λj x n=>let ⟨u,s,w⟩:=v j x n;⟨u,s,k _ _ w⟩⟩
 |row E y t g z A =>obtain⟨p,c,e,a⟩:=h;exact⟨p,c,Px e f,a.eY k⟩
 |map K E B =>obtain⟨r,d,clock,rfl,e,a,i⟩:=h;exact⟨r,d,clock,rfl,e,by rw[f r rfl];exact a,i.eY k⟩
def l8.A6(h:l8 N U Q L M R){id:Nat}{o:Ob}(b:M[id]?=S o)(c:o≠.dead)(a:nQ (R id)=S e):U<=e/\e<L.heap.size :=(h.obj id o b).A6 c a
def l8.update{w':bQ}{J':aj}{μ':Mem}(m:l8 N U Q L M R)(id:Nat)(row:dE) (F:L.grownBy w' row) (eG:∀b,row=S b->∃o,M[id]?=S o/\o≠.dead/\nQ (R id)=S b) (B:M.length<=J'.length) (f:∀j,j≠id->J'[j]?=M[j]?) (e:∀j,j≠id->μ' j=R j) (oP:∀b,nQ (μ' id)=S b->(∃o,M[id]?=S o/\o≠.dead/\nQ (R id)=S b)\/L.heap.size<=b) (nV:∀b l v o,M[id]?=S o->o≠.dead->nQ (R id)=S b->L.cell? ⟨b,l,Z⟩=S v->¬wr M R b l ->w'.cell? ⟨b,l,Z⟩=S v/\∀o',J'[id]?=S o'->nQ (μ' id)=S b->¬o'.wat l) (ad:∀T H,M[id]?=S (.box T H)->(∃af,J'[id]?=S (.box T af))/\μ' id=R id) (an:∀K E J,M[id]?=S (.map K E J)->(∃am,J'[id]?=S (.map K E am))/\μ' id=R id) (P:∀E D s u I A,id<M.length->J'[id]?=S (.row E D s u I A)->∃g ac x,M[id]?=S (.row E D s g ac x)/\g<=u/\(g=u->x.length=A.length/\μ' id=R id)) (iD:uo L M R w' J' μ'->∀o,J'[id]?=S o->Ma N U w' J' μ' (μ' id) o) : l8 N U Q w' J' μ'/\uo L M R w' J' μ':=by
 have V:uo L M R w' J' μ':=by
  refine⟨λb l v O W=>?_,B,λj T H c=>?_,λj K E J c=>?_,λj E D s u I A tY c=>?_⟩
  .have eW:=World.block_lt_of_cell? L _ O;refine⟨?_,?_⟩
   .by_cases w:S b=row;.obtain⟨o,q,n,p⟩:=eG b w.symm;exact(nV b l v o q n p O W).1
    exact F.cell O w
   rintro⟨j,z,c,d,y⟩;by_cases a:j=id
   .subst a;rcases oP b d with⟨o,q,n,p⟩|h;.exact(nV b l v o q n p O W).2 z c d y
    exact absurd eW (Nat.not_lt.2 h)
   rw[f j a]at c;rw[e j a]at d;exact W ⟨j,z,c,d,y⟩
  .by_cases a:j=id;.subst a;exact ad T H c
   exact⟨⟨H,by rw[f j a];exact c⟩,e j a⟩
  .by_cases a:j=id;.subst a;exact an K E J c
   exact⟨⟨J,by rw[f j a];exact c⟩,e j a⟩
  by_cases a:j=id;.subst a;exact P E D s u I A tY c
  rw[f j a]at c;exact⟨u,I,A,c,aM _,λ_=>⟨rfl,e j a⟩⟩
 refine⟨⟨m.below.grown F m.base (λk hk=>?_),cE m.base F.size,λj o c=>?_,λi j oi z b C c BW GH r d=>?_⟩,V⟩;.obtain⟨o,q,n,p⟩:=eG k hk;exact(m.A6 q n p).1
 .by_cases a:j=id;.subst a;exact iD V o c
  rw[f j a]at c;rw[e j a];by_cases hd:o=.dead;.subst hd;trivial
  refine(m.obj j o c).eY V.eY λb w=>?_;refine F.block b (m.A6 c hd w).2 λX=>?_;obtain⟨o2,q,n,p⟩:=eG b X.symm;exact a (m.sep j id o o2 b c q hd n w p)
 by_cases t:i=id
 .subst t;by_cases a:j=i;.exact a.symm
  rw[f j a]at c;rw[e j a]at d;rcases oP b r with⟨o,q,n,p⟩|h;.exact m.sep i j o z b q c n GH p d
  exact absurd (m.A6 c GH d).2 (Nat.not_lt.2 h)
 rw[f i t]at C;rw[e i t]at r;by_cases a:j=id
 .subst a;rcases oP b d with⟨o,q,n,p⟩|h;.exact m.sep i j oi o b C q BW n r p
  exact absurd (m.A6 C BW r).2 (Nat.not_lt.2 h)
 rw[f j a]at c;rw[e j a]at d;exact m.sep i j oi z b C c BW GH r d
def l8.grown{w':bQ}(a:l8 N U Q L M R)(c:L.grownBy w' Z):l8 N U Q w' M R/\uo L M R w' M R:=by
 have e:uo L M R w' M R:=⟨λb k v p r=>⟨c.cell p (by simp),r⟩,aM _,λ_ _ m h=>⟨⟨m,h⟩,rfl⟩,λ_ _ _ l h=>⟨⟨l,h⟩,rfl⟩,λ_ _ _ _ g n q _ h=>⟨g,n,q,h,aM _,λ_=>⟨rfl,rfl⟩⟩⟩;refine⟨⟨a.below.grown c a.base (by simp),cE a.base c.size,λj o f=>?_,a.sep⟩,e⟩;by_cases d:o=.dead;.subst d;trivial
 exact(a.obj j o f).eY e.eY λb i=>c.block b (a.A6 f d i).2 (by simp)
def Bh(a:Mem)(id:Nat)(v:Value):Mem:=λj=>if j=id then v else a j
def iy(a:Mem)(id:Nat)(v:Value):Bh a id v id=v:=by simp[Bh]
def xw(a:Mem)(id:Nat)(v:Value)(j:Nat)(h:j≠id):Bh a id v j=a j:=by simp[Bh,h]
def Fx(J:aj)(o:Ob)(j:Nat)(h:j≠Y J):(J++[o])[j]?=J[j]?:=by
 rcases jP j (Y J) with a|a;.rw[bg a]
 have b:Y J<j:=by omega
 rw[cH (by simp;omega),cH a]
def qG(J:aj)(o:Ob):¬(J[Y J]?=S o):=by simp
def l8.Aw{w':bQ}(f:l8 N U Q L M R)(o:Ob)(v:Value)(k:L.grownBy w' Z) (i:∀b,nQ v=S b->L.heap.size<=b) (l:uo L M R w' (M++[o]) (Bh R M.length v)->Ma N U w' (M++[o]) (Bh R M.length v) v o) : l8 N U Q w' (M++[o]) (Bh R M.length v)/\uo L M R w' (M++[o]) (Bh R M.length v):=by
 refine f.update M.length Z k (by simp) (by simp) (λj d=>Fx M o j d) (λj d=>xw R _ v j d) ?_ ?_ ?_ ?_ ?_ ?_;.intro b e;rw[iy]at e;exact .inr (i b e)
 .intro b g u a h;exact absurd h (qG M a)
 .intro T p h;exact absurd h (qG M _)
 .intro K E n h;exact absurd h (qG M _)
 .intro _ _ _ _ _ _ h;omega
 intro m a c;have:a=o:=by simpa using c.symm
 subst this;rw[iy];exact l m
inductive O where
 |t (n:Nat)
 |c (v:V)
inductive I where
 |nL (x:O)
 |pick (c a b:O)
 |box (T:Nat) (x:O)
 |alloc (T:Nat) (zs:aB)
 |build (zs:aB) (parts:List (Nat×Nat×O))
 |gM (sz:Nat) (szs:List (dE)) (xs:List O)
 |VZ (E sz by':Nat) (szs:List (dE)) (xs:List O)
 |load (k:dE) (a:O)
 |store (k:Nat) (szs:List (dE)) (a x:O)
 |Cn (x:O)
 |bin (op:BinOp) (x y:O)
 |beq (neg:Bool) (ks:fb) (x y:O)
 |bbq (neg:Bool) (x y:O)
 |un (op:UnOp) (x:O)
 |cvi (k:IntKind) (x:O)
 |b2s (x:O)
 |slice (sz:Nat) (x:O) (lo hi:Option O)
 |yr (x:O) (lo hi:Option O)
 |tU (off:Nat) (x:O)
 |idx (sz:Nat) (x i:O)
 |Rj (x i:O)
 |TO (n sz:Nat) (x i:O)
 |asl (n:Nat) (x:O)
 |ext (k:Nat) (x:O)
 |len (str:Bool) (x:O)
 |max2 (x y:O)
 |min2 (x y:O)
 |app (E sz by':Nat) (x y:O)
 |apps (E:Nat) (x y:O)
 |mk (E sz by':Nat) (zs:aB) (l c:O)
 |JI (K E:Nat)
 |look (kd:Nat) (z:V) (ok:Bool) (m k:O)
 |UZ (kd:Nat) (szs:List (dE)) (m k x:O)
 |LD (x:O)
 |call (f:Nat) (args:List O)
 |wY (x:O) (args:List O)
 |clo (f:Nat) (xs:List O)
 |Ty (sz:Nat) (zs:aB) (x:O)
 |stop
def FE:Value->Option V|.bool x=>S (.b x)|.int k n=>S (.i k n)|.string x=>if Y x.data.toList<=maxLen then S (.s x.data.toList)else Z|.slice Z 0 0=>S .nil|.pointer Z=>S .mV|.map Z=>S .l0|_=>Z
def cO:Operand->Option O|.tmp t=>S (.t t)|.const v=>(FE v).map .c|.func f=>S (.c (.fn f []))|.global _=>Z
def cOs:List Operand->Option (List O)
 |[]=>S []
 |x::xs=>match cO x,cOs xs with
  |some y,S a=>S (y::a)
  |_,_=>Z
def nC:List Value->Option (aB)
 |[]=>S []
 |x::xs=>match FE x,nC xs with
  |some y,S a=>S (y::a)
  |_,_=>Z
def yd(P:bG)(n:Nat):List Field->Option (fb)
 |[]=>S []
 |f::fs=>if f.offset=n/\f.name ≠ "_" then match P.underlying f.type,yd P (n+1) fs with
   |some (.int _),S ks=>S (0::ks)
   |some .string,S ks=>S (1::ks)
   |some .bool,S ks=>S (2::ks)
   |_,_=>Z
  else Z
def VE:Option (fb) :=
 match H.underlying X with
 |some (.struct fs)=>if H.stoodInHeld X=G/\H.eqGuardType H.depth X=G then yd H 0 fs.toList else Z
 |some (.array 2 e)=>if H.eqGuardType H.depth X=G/\H.cellsOf e=1 then match H.underlying e with
   |some (.int _)=>S [0,0]
   |_=>Z
  else Z
 |_=>Z
def afP:Bool :=
 match H.underlying X with
 |some (.int _)|some .string=>θ
 |_=>G
def aeE:Bool :=
 match H.underlying X with|some .bool=>θ|_=>G
def mo:Option Bool :=
 match H.underlying X with
 |some (.struct _)|some (.array _ _)=>S θ
 |some _=>S G
 |none=>Z
def A2:Nat->List (Nat×Operand)->Option (List O)|_,[]=>S []|n,(i,x)::r=>if i=n then(match cO x,A2 (n+1) r with|some y,S a=>S (y::a)|_,_=>Z)else Z
def A3(places:List (Nat×Nat)):List (Nat×Operand)->Option (List (Nat×Nat×O))
 |[]=>S []
 |(i,x)::r=>match places[i]?,cO x,A3 places r with
  |some (a,b),S y,S c=>S ((a,b,y)::c)
  |_,_,_=>Z
def placesOf(a:List Field):Option (List (Nat×Nat)):=a.mapM λf=>(H.info? f.type).map λi=>(f.offset,i.size)
def uH:dE :=
 match H.underlying X with
 |some (.int _)=>S 0
 |some .string=>S 1
 |some (.array 2 e)=>match H.underlying e with
  |some (.int _)=>if H.cellsOf e=1 then S 3 else Z
  |_=>Z
 |_=>Z
def xT(k:V):Bool:=if X=3 then(match k with|.agg [.i _ _,.i _ _]=>θ|_=>G)else k.vC
def JS{k:V}(h:xT U k=θ):k.vC=θ:=by
 unfold xT at h;split at h
 .split at h;.rfl
  simp at h
 exact h
def ahg(k:V):xT 0 k=k.vC:=rfl
def ahf(k:V):xT 1 k=k.vC:=rfl
def ahe(k l:IntKind)(a b:Int):xT 3 (.agg [.i k a,.i l b])=θ:=rfl
def B1:Option Operand->Option (Option O)|none=>S Z|some x=>(cO x).map S
def Fm:BinOp->Bool
 |.eql|.neq=>θ
 |_=>G
def wX(P:bG):Nat->Nat->List (dE)
 |0,_=>[]
 |d+1,T=>match P.underlying T with
  |some (.slice e)=>[S (P.cellsOf e)]
  |some (.struct fs)=>fs.toList.flatMap λf=>wX P d f.type
  |_=>[Z]
def tL:dE->V->V|some sz,.nil=>.sl sz []|_,.lit sz xs=>.sl sz xs|_,x=>x
def fu:List (dE)->aB->aB|s::ss,x::a=>tL s x::fu ss a|_,a=>a
def rI(a:List (dE)):V->V|.agg xs=>.agg (fu a xs)|y=>y
def zeroV:Option V :=
 match H.info? X with
 |some t=>match t.zero with
  |some (.agg cs)=>(nC cs.toList).map λzs=>.agg (fu (wX H 6 X) zs)
  |some z=>FE z
  |none=>Z
 |none=>Z
def SK:Value->Bool|.int .u8 0=>θ|_=>G
def ri(c:Call):Option I :=
 match c.callee,c.args.toList,c.argTypes.toList with
 |.builtin .len,[x],[T]=>match H.underlying T,cO x with
  |some .string,S x=>S (.len θ x)
  |some (.slice _),S x=>S (.len G x)
  |some (.map _ _),S x=>S (.LD x)
  |_,_=>Z
 |.builtin .max,[x,y],_=>match cO x,cO y with
  |some x,S y=>S (.max2 x y)
  |_,_=>Z
 |.builtin .min,[x,y],_=>match cO x,cO y with
  |some x,S y=>S (.min2 x y)
  |_,_=>Z
 |.builtin .append,[x,y],[T,U]=>match H.underlying T,cO x,cO y with
  |some (.slice E),S x,S y=>match H.info? E with
   |some t=>match t.zero with
    |some z=>if T=U then(if 0<t.size/\z.cells.size=t.size then S (.app E t.size t.bytes x y)else Z)
     else match H.underlying U with
      |some .string=>if t.size=1/\t.bytes=1/\SK z=θ then S (.apps E x y)else Z
      |_=>Z
    |none=>Z
   |none=>Z
  |_,_,_=>Z
 |.builtin .clear,[x],[T]=>match H.underlying T,cO x with
  |some (.slice E),S x=>match H.info? E with
   |some t=>match t.zero with
    |some z=>if 0<t.size/\z.cells.size=t.size then(nC z.cells.toList).map λzs=>.Ty t.size (fu (wX H 6 E) zs) x else Z
    |none=>Z
   |none=>Z
  |_,_=>Z
 |.value (.func f),a,_=>match H.funcs[f]? with
  |some b=>if b.body.isSome/\b.name ≠ "runtime.NumGoroutine" then(cOs a).map (.call f)else Z
  |none=>Z
 |.value (.tmp t),a,_=>(cOs a).map (.wY (.t t))
 |_,_,_=>Z
def aqp:dE->Nat->List O->Bool|some 23,_,[.t 18,.t 20,.t 22]=>θ|some 46,_,[.t 45]=>θ|some 53,2,[.t 52]=>θ|_,_,_=>G
def XP:BinOp->Bool|.neq=>θ|_=>G
def compile(o:Oper):Option I :=
 match o.op with
 |.move x|.assign x=>(cO x).map .nL
 |.pick c a b=>match cO c,cO a,cO b with
  |some c,S a,S b=>S (.pick c a b)
  |_,_,_=>none
 |.box T x=>(cO x).map (.box T)
 |.alloc T=>match H.info? T with
  |some t=>match t.zero with
   |some z=>(nC z.cells.toList).map (.alloc T)
   |none=>none
  |none=>none
 |.build T parts=>match H.info? T,H.underlying T with
  |some t,S (.struct fs)=>match t.zero with
   |some z=>match nC z.cells.toList,placesOf H fs.toList with
    |some zs,S places=>(A3 places parts.toList).map (.build zs)
    |_,_=>none
   |none=>none
  |some t,S (.array n E)=>match t.zero,H.info? E with
   |some z,S q=>match nC z.cells.toList with
    |some zs=>(A3 ((List.range n).map λi=>(i*q.size,q.size)) parts.toList).map (.build zs)
    |none=>none
   |_,_=>none
  |_,_=>none
 |.buildSlice T len parts=>match H.underlying T with
  |some (.slice E)=>match H.info? E with
   |some t=>match t.zero with
    |some z=>if parts.size=len/\0<t.size/\z.cells.size=t.size/\len*t.size<=2^24 then(A2 0 parts.toList).map λh=>if aqp o.dst t.size h=θ then .VZ E t.size t.bytes (wX H 6 E) h else .gM t.size (wX H 6 E) h else none
    |none=>none
   |none=>none
  |_=>none
 |.load T a=>match cO a,mo H T,H.info? T with
  |some a,S θ,S t=>S (.load (S t.size) a)
  |some a,S G,S _=>S (.load none a)
  |_,_,_=>none
 |.store T a x=>match cO a,cO x,H.info? T with
  |some a,S x,S t=>S (.store t.size (wX H 6 T) a x)
  |_,_,_=>none
 |.nilCheck x=>(cO x).map .Cn
 |.binOp op T x y _=>match cO x,cO y with
  |some x,S y=>if Fm op then(if afP H T then S (.bin op x y)else if aeE H T then S (.bbq (XP op) x y)else(VE H T).map λr=>.beq (XP op) r x y)else S (.bin op x y)
  |_,_=>none
 |.unOp op _ x=>(cO x).map (.un op)
 |.convert s d x=>match H.underlying s,H.underlying d,cO x with
  |some (.int _),S (.int k),S x=>S (.cvi k x)
  |some (.slice e),S .string,S x=>match H.underlying e with
   |some (.int .u8)=>S (.b2s x)
   |_=>none
  |_,_,_=>none
 |.slice T x lo hi none=>match H.underlying T,cO x,B1 lo,B1 hi with
  |some .string,S x,S lo,S hi=>S (.yr x lo hi)
  |some (.slice E),S x,S lo,S hi=>match H.info? E with
   |some t=>S (.slice t.size x lo hi)
   |none=>none
  |some (.array n E),S x,S none,S none=>match H.info? E with
   |some t=>if t.size=1/\n<=1024 then S (.asl n x)else none
   |none=>none
  |_,_,_,_=>none
 |.fieldAddr T x f=>match H.underlying T,cO x with
  |some (.struct fs),S x=>match fs[f]? with
   |some p=>match H.info? p.type with
    |some t=>if t.size=0 then none else S (.tU p.offset x)
    |none=>none
   |none=>none
  |_,_=>none
 |.indexAddr T x i=>match H.underlying T,cO x,cO i with
  |some (.slice E),S x,S i=>match H.info? E with
   |some t=>S (.idx t.size x i)
   |none=>none
  |some (.array n E),S x,S i=>match H.info? E with
   |some t=>S (.TO n t.size x i)
   |none=>none
  |_,_,_=>none
 |.index T x i=>match H.underlying T,cO x,cO i with
  |some .string,S x,S i=>S (.Rj x i)
  |_,_,_=>none
 |.extract t k=>(cO t).map (.ext k)
 |.makeSlice T l c=>match H.underlying T with
  |some (.slice E)=>match H.info? E with
   |some t=>match t.zero,cO l,cO c with
    |some z,S l,S c=>if 0<t.size/\z.cells.size=t.size then(nC z.cells.toList).map λzs=>.mk E t.size t.bytes (fu (wX H 6 E) zs) l c else none
    |_,_,_=>none
   |none=>none
  |_=>none
 |.lookup T m k ok=>match H.underlying T,cO m,cO k with
  |some (.map K E),S m,S k=>match uH H K,zeroV H E with
   |some j,S z=>S (.look j z ok m k)
   |_,_=>none
  |_,_,_=>none
 |.mapUpdate T m k x=>match H.underlying T,cO m,cO k,cO x with
  |some (.map K E),S m,S k,S x=>(uH H K).map λj=>.UZ j (wX H 6 E) m k x
  |_,_,_,_=>none
 |.makeMap T none=>match H.underlying T with
  |some (.map K E)=>S (.JI K E)
  |_=>none
 |.call c=>ri H c
 |.makeFunc (.func f) first g=>if first.size=0 then(cOs g.toList).map (.clo f)else none
 |_=>none
def ev(a:aB):O->V|.t n=>a.getD n .u|.c v=>v
def jC:V->aB|.agg xs=>xs|x=>[x]
def kZ(J:aj):V->Bool
 |.u|.agg _|.jg _=>G
 |.own id g=>match J[id]? with
  |some (.row _ _ _ g' _ _)=>g==g'
  |_=>G
 |.sub id g _ _=>match J[id]? with
  |some (.row _ _ _ g' _ _)=>g==g'
  |_=>G
 |.rp id g _ _=>match J[id]? with
  |some (.row _ _ _ g' _ _)=>g==g'
  |_=>G
 |_=>θ
def lf(J:aj)(x:V):Bool:=match x with|.agg xs=>xs.all (kZ J)|x=>kZ J x
def CA(cells:aB):List (Nat×Nat×aB)->Option (aB)|[]=>S cells|(off,sz,x)::r=>if Y x=sz/\off+sz<=Y cells then CA (cells.take off++x++cells.drop (off+sz)) r else Z
def Oy:aB->aB->Option Bool|[.i k a,.i l b],[.i k' a',.i l' b']=>if k=k'/\l=l' then S (a==a'&&b==b')else Z|_,_=>Z
def eQ:Nat->V->V->Option Bool|0,.i k a,.i k' b=>if k=k' then S (a==b)else Z|1,.s a,.s b=>S (a==b)|2,.b a,.b b=>S (a==b)|3,.agg xs,.agg ys=>Oy xs ys|_,_,_=>Z
def iF:fb->aB->aB->Option Bool
 |[],[],[]=>S θ
 |k::ks,x::xs,y::ys=>match eQ k x y,iF ks xs ys with
  |some p,S q=>S (p&&q)
  |_,_=>Z
 |_,_,_=>Z
def lI(c:BinOp):V->V->Option (Prop×V)
 |.i k a,.i k' b=>match c with
  |.shl=>S (0<=b,.i k (k.wrap (a*2^(min b.toNat k.bits))))
  |.shr=>S (0<=b,.i k (a.fdiv (2^(min b.toNat k.bits))))
  |_=>if k=k' then match c with
   |.add=>S (True,.i k (k.wrap (a+b)))
   |.sub=>S (True,.i k (k.wrap (a - b)))
   |.mul=>S (True,.i k (k.wrap (a*b)))
   |.quo=>S (b≠0,.i k (k.wrap (a.tdiv b)))
   |.rem=>S (b≠0,.i k (a.tmod b))
   |.and=>S (True,.i k (k.wrap ((BitVec.ofInt k.bits a &&& BitVec.ofInt k.bits b).toNat:Int)))
   |.or=>S (True,.i k (k.wrap ((BitVec.ofInt k.bits a ||| BitVec.ofInt k.bits b).toNat:Int)))
   |.xor=>S (True,.i k (k.wrap ((BitVec.ofInt k.bits a ^^^ BitVec.ofInt k.bits b).toNat:Int)))
   |.eql=>S (True,.b (a==b))
   |.neq=>S (True,.b (a != b))
   |.lss=>S (True,.b (a<b))
   |.leq=>S (True,.b (a<=b))
   |.gtr=>S (True,.b (b<a))
   |.geq=>S (True,.b (b<=a))
   |_=>Z
   else Z
 |.s a,.s b=>match c with
  |.add=>S (Y a+Y b<=maxLen,.s (a++b))
  |.eql=>S (True,.b (a==b))
  |.neq=>S (True,.b (!(a==b)))
  |.lss=>S (True,.b (Op.bytesLess a b))
  |.leq=>S (True,.b (Op.bytesLess a b||a==b))
  |.gtr=>S (True,.b (!(Op.bytesLess a b||a==b)))
  |.geq=>S (True,.b (!Op.bytesLess a b))
  |_=>Z
 |_,_=>Z
def rowsOf(J:aj)(a:Nat):V->Option (fx)
 |.nil=>S []
 |.lit sz' xs=>if sz'=a then S xs else Z
 |.sl sz' xs=>if sz'=a then S xs else Z
 |.own id g=>match J[id]? with
  |some (.row _ sz' _ g' _ xs)=>if g=g'/\sz'=a then S xs else Z
  |_=>Z
 |.sub id g lo hi=>match J[id]? with
  |some (.row _ sz' _ g' _ xs)=>if g=g'/\sz'=a then S ((xs.drop lo).take (hi - lo))else Z
  |_=>Z
 |_=>Z
def yf:aB->Option UInt8|[.i .u8 n]=>S (UInt8.ofNat n.toNat)|_=>Z
def bytesOf:fx->Option (aR)
 |[]=>S []
 |r::rs=>match yf r,bytesOf rs with
  |some x,S a=>S (x::a)
  |_,_=>Z
def kL(b:Nat)(k:V):List (V×V)->Nat->Option (Option (Nat×V))
 |[],_=>S Z
 |(a,x)::es,i=>match eQ b k a with
  |some θ=>S (S (i,x))
  |some G=>kL b k es (i+1)
  |none=>Z
def lH(J:aj)(a:Nat)(m k:V):Option (Option (Nat×V)) :=
 match m with
 |.l0=>S Z
 |.mp id=>match J[id]? with
  |some (.map _ _ es)=>kL a k es 0
  |_=>Z
 |_=>Z
def ct(e:aB)(J:aj):I->Option (Prop×V)
 |.nL x=>S (True,ev e x)
 |.pick c a b=>match ev e c with
  |.b x=>S (True,match ev e a,ev e b with
   |.b p,.b q=>.b (bif x then p else q)
   |p,q=>bif x then p else q)
  |_=>Z
 |.build zs parts=>match CA zs (parts.map λ(j,t,x)=>(j,t,jC (ev e x)))with
  |some u=>S (∀p∈parts,lf J (ev e p.2.2)=θ,.agg u)
  |none=>Z
 |.gM t szs d=>S ((∀x∈d,lf J (ev e x)=θ)/\∀r∈d.map λx=>fu szs (jC (ev e x)),Y r=t/\∀c∈r,c.pure=θ,.lit t (d.map λx=>fu szs (jC (ev e x))))
 |.load k a=>match ev e a with
  |.ptr id j=>match J[id]? with
   |some (.box _ u)=>match k with
    |none=>match u[j]? with
     |some x=>S (True,x)
     |none=>Z
    |some n=>S (j+n<=Y u,.agg ((u.drop j).take n))
   |_=>Z
  |.ep _ d i j=>match k with
   |none=>match gv d i j with
    |some x=>S (True,x)
    |none=>Z
   |some n=>S (j+n<=Y (d.getD i []),.agg (((d.getD i []).drop j).take n))
  |.rp id g i j=>match J[id]? with
   |some (.row _ _ _ g' _ d)=>if g=g' then match k with
    |none=>match gv d i j with
     |some x=>S (True,x)
     |none=>Z
    |some n=>S (j+n<=Y (d.getD i []),.agg (((d.getD i []).drop j).take n))
    else Z
   |_=>Z
  |_=>Z
 |.Cn x=>match ev e x with
  |.ptr id j=>S (True,.ptr id j)
  |.ep t d i j=>S (True,.ep t d i j)
  |.rp id g i j=>match J[id]? with
   |some (.row _ _ _ g' _ _)=>if g=g' then S (True,.rp id g i j)else Z
   |_=>Z
  |_=>Z
 |.bin op x y=>lI op (ev e x) (ev e y)
 |.beq neg ks x y=>match ev e x,ev e y with
  |.agg d,.agg ys=>match iF ks d ys with
   |some r=>S (True,.b (bif neg then !r else r))
   |none=>Z
  |_,_=>Z
 |.bbq neg x y=>match ev e x,ev e y with
  |.b p,.b q=>S (True,.b (bif neg then !(p==q)else(p==q)))
  |_,_=>Z
 |.un op x=>match op,ev e x with
  |.not,.b p=>S (True,.b (!p))
  |.neg,.i k n=>S (True,.i k (k.wrap (0 - n)))
  |_,_=>Z
 |.cvi k x=>match ev e x with
  |.i _ n=>S (True,.i k (k.wrap n))
  |_=>Z
 |.b2s x=>match rowsOf J 1 (ev e x)with
  |some d=>match bytesOf d with
   |some l=>S (True,.s l)
   |none=>Z
  |none=>Z
 |.slice t x lo hi =>
  let n:dE:=match ev e x with
   |.nil=>S 0
   |.lit sz' d=>if sz'=t then S (Y d) else Z
   |.sl sz' d=>if sz'=t then S (Y d) else Z
   |.own id g=>match J[id]? with
    |some (.row _ sz' _ g' _ d)=>if g=g'/\sz'=t then S (Y d) else Z
    |_=>Z
   |_=>Z
  match n with
  |none=>Z
  |some n =>
   let l:Option Int:=match lo with
    |none=>S 0
    |some x=>match ev e x with
     |.i _ a=>S a
     |_=>Z
   let h:Option Int:=match hi with
    |none=>S n
    |some x=>match ev e x with
     |.i _ a=>S a
     |_=>Z
   match l,h with
   |some l,S h=>match ev e x with
    |.nil=>S (l=0/\h=0,.nil)
    |.lit _ d=>S (0<=l/\l<=h/\h<=n,.sl t ((d.drop l.toNat).take (h.toNat - l.toNat)))
    |.sl _ d=>S (0<=l/\l<=h/\h<=n,.sl t ((d.drop l.toNat).take (h.toNat - l.toNat)))
    |.own id g=>S (0<=l/\l<=h/\h<=n,.sub id g l.toNat h.toNat)
    |_=>Z
   |_,_=>Z
 |.yr x lo hi=>match ev e x with
  |.s a =>
   let l:Option Int:=match lo with
    |none=>S 0
    |some x=>match ev e x with
     |.i _ a=>S a
     |_=>Z
   let h:Option Int:=match hi with
    |none=>S (Y a)
    |some x=>match ev e x with
     |.i _ a=>S a
     |_=>Z
   match l,h with
   |some l,S h=>S (0<=l/\l<=h/\h<=Y a,.s ((a.drop l.toNat).take (h.toNat - l.toNat)))
   |_,_=>Z
  |_=>Z
 |.tU j x=>match ev e x with
  |.ptr id o=>S (True,.ptr id (o+j))
  |.ep t d i o=>S (True,.ep t d i (o+j))
  |.rp id g i o=>match J[id]? with
   |some (.row _ _ _ g' _ _)=>if g=g' then S (True,.rp id g i (o+j))else Z
   |_=>Z
  |_=>Z
 |.idx t x i=>match ev e i with
  |.i _ n=>match ev e x with
   |.sl sz' d=>if sz'=t then S (0<=n/\n<Y d,.ep t d n.toNat 0)else Z
   |.lit sz' d=>if sz'=t then S (0<=n/\n<Y d,.ep t d n.toNat 0)else Z
   |.own id g=>match J[id]? with
    |some (.row _ sz' _ g' _ d)=>if g=g'/\sz'=t then S (0<=n/\n<Y d,.rp id g n.toNat 0)else Z
    |_=>Z
   |.sub id g lo hi=>match J[id]? with
    |some (.row _ sz' _ g' _ _)=>if g=g'/\sz'=t then S (0<=n/\n<(hi - lo:Nat),.rp id g (lo+n.toNat) 0)else Z
    |_=>Z
   |_=>Z
  |_=>Z
 |.TO n t x i=>match ev e x,ev e i with
  |.ptr id o,.i _ k=>S (0<=k/\k<n,.ptr id (o+k.toNat*t))
  |_,_=>Z
 |.asl n x=>match ev e x with
  |.ep _ d i 0=>if(d.getD i []).length=n then S (n<=1024,.sl 1 ((d.getD i []).map λc=>[c]))else Z
  |_=>Z
 |.Rj x i=>match ev e x,ev e i with
  |.s l,.i _ n=>S (0<=n/\n<Y l,.i .u8 (l.getD n.toNat 0).toNat)
  |_,_=>Z
 |.ext k x=>match ev e x with
  |.jg d=>match d[k]? with
   |some y=>S (True,y)
   |none=>Z
  |_=>Z
 |.len θ x=>match ev e x with
  |.s l=>S (True,.i .i64 (Y l))
  |_=>Z
 |.len G x=>match ev e x with
  |.nil=>S (True,.i .i64 0)
  |.lit _ d=>S (True,.i .i64 (Y d))
  |.sl _ d=>S (True,.i .i64 (Y d))
  |.own id g=>match J[id]? with
   |some (.row _ _ _ g' _ d)=>if g=g' then S (True,.i .i64 (Y d))else Z
   |_=>Z
  |.sub id g lo hi=>match J[id]? with
   |some (.row _ _ _ g' _ _)=>if g=g' then S (True,.i .i64 (hi - lo:Nat))else Z
   |_=>Z
  |_=>Z
 |.LD x=>match ev e x with
  |.l0=>S (True,.i .i64 0)
  |.mp id=>match J[id]? with
   |some (.map _ _ es)=>S (True,.i .i64 (Y es))
   |_=>Z
  |_=>Z
 |.look kd z ok m k=>match lH J kd (ev e m) (ev e k)with
  |some Z=>S (xT kd (ev e k)=θ,if ok then .jg [z,.b G]else z)
  |some (S (_,x))=>S (xT kd (ev e k)=θ,if ok then .jg [x,.b θ]else x)
  |none=>Z
 |.max2 x y=>match ev e x,ev e y with
  |.i k a,.i _ b=>S (True,.i k (if a<b then b else a))
  |_,_=>Z
 |.min2 x y=>match ev e x,ev e y with
  |.i k a,.i _ b=>S (True,.i k (if b<a then b else a))
  |_,_=>Z
 |.clo f d=>S (True,.fn f (d.map (ev e)))
 |_=>Z
def EE(c a:Nat)(J:aj)(x:V)(b:fx):Option (Prop×V×aj) :=
 match x with
 |.nil=>S (Y b*a<=2^47/\Y b<=maxLen,.own J.length 0,J++[.row X c a 0 G b])
 |.lit sz' xs=>if sz'=c then S ((Y xs+Y b)*a<=2^47/\Y xs+Y b<=maxLen,
   if b.isEmpty then .lit c xs else .own J.length 0,if b.isEmpty then J else J++[.row X c a 0 G (xs++b)])else Z
 |.own id g=>match J[id]? with
  |some (.row E' sz' by2 g' sh xs)=>if g=g'/\X=E'/\c=sz'/\a=by2 then
    S ((Y xs+Y b)*a<=2^47/\Y xs+Y b<=maxLen,.own id (g+1),J.set id (.row X c a (g+1) sh (xs++b)))
   else Z
  |_=>Z
 |.sub id g lo hi=>match J[id]? with
  |some (.row E' sz' by2 g' sh xs)=>if g=g'/\X=E'/\c=sz'/\a=by2/\lo=0/\sh=G then
    S (hi<=Y xs/\(hi+Y b)*a<=2^47/\hi+Y b<=maxLen,.own id (g+1),J.set id (.row X c a (g+1) G (xs.take hi++b)))
   else Z
  |_=>Z
 |_=>Z
def aN(l:aR):fx:=l.map λc=>[V.i .u8 c.toNat]
def eZ(b:aB)(J:aj):I->Option (Prop×V×aj)
 |.box T x=>S (lf J (ev b x)=θ,.ptr J.length 0,J++[.box T (jC (ev b x))])
 |.alloc T zs=>S (True,.ptr J.length 0,J++[.box T zs])
 |.store k szs a x=>match ev b a with
  |.ptr id off=>match J[id]? with
   |some (.box T cs)=>S (lf J (ev b x)=θ/\Y (jC (ev b x))=k/\off+k<=Y cs,.u,J.set id (.box T (cs.take off++jC (ev b x)++cs.drop (off+k))))
   |_=>none
  |.rp id g i off=>match J[id]? with
   |some (.row E sz by' g' sh xs)=>if g=g'/\sh=G then
     S (lf J (ev b x)=θ/\(∀c∈fu szs (jC (ev b x)),c.pure=θ)/\Y (jC (ev b x))=k/\off+k<=sz/\i<Y xs,.u,
      J.set id (.row E sz by' g sh (xs.set i ((xs.getD i []).take off++fu szs (jC (ev b x))++(xs.getD i []).drop (off+k)))))
    else none
   |_=>none
  |_=>none
 |.app E sz by' x y=>match rowsOf J sz (ev b y)with
  |some e=>EE E sz by' J (ev b x) e
  |none=>none
 |.apps E x y=>match ev b y with
  |.s l=>EE E 1 1 J (ev b x) (aN l)
  |_=>none
 |.mk E sz by' zs l c=>match ev b l,ev b c with
  |.i _ n,.i _ m=>S (0<=n/\(n=m\/n=0)/\0<=m/\m*by'<=2^48/\m<=maxLen/\(∀z∈zs,z.pure=θ),.own J.length 0,J++[.row E sz by' 0 G (List.replicate n.toNat zs)])
  |_,_=>none
 |.JI K E=>S (True,.mp (Y J),J++[.map K E []])
 |.Ty sz zs x=>match ev b x with
  |.sub id g lo hi=>match J[id]? with
   |some (.row E sz' by' g' sh xs)=>if g=g'/\sz'=sz/\sh=G then
     S (∀z∈zs,z.pure=θ,.jg [],J.set id (.row E sz' by' g' sh (xs.take lo++List.replicate (hi - lo) zs++xs.drop hi)))
    else none
   |_=>none
  |_=>none
 |.VZ E sz by' szs xs=>S ((∀x∈xs,lf J (ev b x)=θ)/\∀r∈xs.map λx=>fu szs (jC (ev b x)),Y r=sz/\∀c∈r,c.pure=θ,.own J.length 0,J++[.row E sz by' 0 G (xs.map λx=>fu szs (jC (ev b x)))])
 |.UZ kd szs m k x =>
  let d:=rI szs (ev b x)
  match ev b m with
  |.mp id=>match J[id]? with
   |some (.map K E es)=>match kL kd (ev b k) es 0 with
    |some none=>S (xT kd (ev b k)=θ/\d.Hm=θ,.u,J.set id (.map K E (es++[(ev b k,d)])))
    |some (S (i,_))=>S (xT kd (ev b k)=θ/\d.Hm=θ,.u,J.set id (.map K E (es.set i (ev b k,d))))
    |none=>none
   |_=>none
  |_=>none
 |_=>none
end Go.Pm

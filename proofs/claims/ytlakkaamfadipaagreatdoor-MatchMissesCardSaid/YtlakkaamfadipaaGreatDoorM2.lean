/- A part of a proof; the claim's last text says of what. -/
import Derived.Calls
import Derived.Below
import Derived.Laws.AppendOwn
import Derived.Laws.OwnMore
import Derived.Lib.LaidTab
set_option linter.all false
open Option renaming some->N,none->Y
open Bool renaming true->A,false->Z
open List renaming length->F
namespace Go
def Ae.{u}:=@Option.getD_none.{u}
def Af:=@Nat.mod_eq_of_lt
def Ag.{u}:=@List.length_eq_zero_iff.{u}
def Ah.{u}:=@List.getElem?_set_self'.{u}
def Ai.{u,v}:=@List.flatMap_nil.{u,v}
def Aj:=@Int.eq_ofNat_of_zero_le
def Ak:=@Int.ediv_le_self
def C4:=@UInt8.toNat_inj
def C5:=@List.range_succ
def C6.{u}:=@List.idxOf_cons.{u}
def C7.{u}:=@List.find?_some.{u}
def C8.{u}:=@List.cons.injEq.{u}
def CT:=@List.range_succ_eq_map
def CU.{u}:=@List.drop_eq_nil_of_le.{u}
def CV.{u}:=@Array.getElem?_push_lt.{u}
def DX:=@Bool.and_eq_false_iff
def DY.{u,v}:=@Array.getElem?_mapIdx.{u,v}
def E8.{u}:=@List.length_filter_lt_length_iff_exists.{u}
def E9.{u}:=@Array.getElem?_setIfInBounds_self_of_lt.{u}
def G7:=@decide_eq_true
def G8:=@Nat.mul_one
def G9.{u}:=@List.pairwise_append.{u}
def Ha:=@Int.add_le_add_right
def Ho:=@true_or
def Hp:=@Iff.rfl
def J7:=@Int.add_assoc
def JW.{u}:=@List.replicate_zero.{u}
def JX.{u}:=@Array.toList_append.{u}
def L7.{u}:=@cond_false.{u}
def L8.{u}:=@Array.ext_getElem?.{u}
def L9.{u}:=@Array.empty_append.{u}
def Ma.{u}:=@Array.append_empty.{u}
def Ql.{u}:=@bne_self_eq_false.{u}
def Qm.{u}:=@Ne.symm.{u}
def Qn:=@Nat.le_of_eq
def Qo.{u}:=@List.set_set.{u}
def Qp.{u,v}:=@List.pairwise_map.{u,v}
def Qq.{u}:=@List.flatten_cons.{u}
def Qs.{u}:=@List.all_nil.{u}
def Qt:=@Bool.not_eq_false
def T8:=@not_or
def T9:=@false_iff
def Ua.{u}:=@beq_self_eq_true.{u}
def Ub:=@Nat.le_of_not_lt
def Uc:=@Nat.le_add_right
def Ud.{u,v}:=@List.lookup_cons.{u,v}
def Ux:=@Int.add_mul
def Xv:=@Nat.div_add_mod
def Yg.{u}:=@List.idxOf_lt_length_of_mem.{u}
def a7:=@decide_eq_true_eq
def aB.{u,v}:=@Prod.mk.injEq.{u,v}
def aC.{u,v}:=@List.map_cons.{u,v}
def aD.{u}:=@List.getElem?_append_right.{u}
def aG:=@Int.toNat_natCast
def aH.{u}:=@List.getElem?_cons_zero.{u}
def aI:=@Bool.false_eq_true
def aK.{u}:=@if_pos.{u}
def aL.{u}:=@List.eq_nil_of_length_eq_zero.{u}
def aN.{u}:=@List.getElem?_set_ne.{u}
def aO.{u}:=@List.getD_cons_zero.{u}
def aP:=@Bool.and_eq_true
def aQ.{u}:=@if_false.{u}
def aS.{u}:=@List.append_assoc.{u}
def aU.{u}:=@if_true.{u}
def aW.{u}:=@Array.length_toList.{u}
def aZ.{u}:=@List.getD_cons_succ.{u}
def aa.{u}:=@Option.some.injEq.{u}
def aaV:=@eq_iff_iff
def aaW.{u}:=@List.drop_take.{u}
def aaX:=@Int.toNat_zero
def aaY:=@Int.fdiv_eq_ediv_of_nonneg
def ab.{u}:=@List.getElem?_eq_some_iff.{u}
def abb.{u}:=@List.mem_or_eq_of_mem_set.{u}
def ae.{u,v}:=@List.length_map.{u,v}
def afP.{u,v}:=@Option.bind_eq_some_iff.{u,v}
def afQ:=@Nat.pos_of_mul_pos_left
def afR:=@Nat.le_mul_of_pos_right
def afS.{u}:=@List.pairwise_mergeSort.{u}
def afd.{u}:=@List.take_nil.{u}
def afe.{u}:=@List.eq_of_mem_replicate.{u}
def aff.{u}:=@List.drop_nil.{u}
def afg.{u}:=@List.Pairwise.imp_of_mem.{u}
def afh.{u}:=@Bool.beq_comm.{u}
def ah.{u}:=@List.length_cons.{u}
def ai.{u}:=@List.length_append.{u}
def aj.{u}:=@List.getElem?_append_left.{u}
def ajV.{u}:=@List.takeWhile_sublist.{u}
def ajW:=@List.pairwise_lt_range
def ajY.{u}:=@List.getElem?_eraseIdx.{u}
def ajZ.{u}:=@List.Sublist.length_le.{u}
def al.{u,v}:=@Option.map_eq_some_iff.{u,v}
def an.{u}:=@List.getElem?_eq_getElem.{u}
def aq.{u}:=@List.getD_eq_getElem?_getD.{u}
def au.{u}:=@if_neg.{u}
def aw.{u}:=@List.getElem?_set_self.{u}
def ax:=@Nat.le_refl
def az.{u}:=@List.length_nil.{u}
def b5.{u,v}:=@Option.map_some.{u,v}
def b8.{u}:=@List.set_append_right.{u}
def b9.{u}:=@beq_iff_eq.{u}
def bB.{u}:=@List.length_take.{u}
def bC:=@Classical.byContradiction
def bD.{u}:=@Array.getElem?_eq_getElem.{u}
def bE.{u}:=@List.mem_cons.{u}
def bF.{u}:=@List.getElem?_take_of_lt.{u}
def bI.{u,v}:=@List.map_nil.{u,v}
def bJ.{u}:=@Array.getD_eq_getD_getElem?.{u}
def bK.{u}:=@List.getElem?_eq_none.{u}
def bL:=@Nat.mul_le_mul_right
def bM.{u}:=@List.append_nil.{u}
def bR.{u}:=@List.mem_append.{u}
def bS.{u}:=@List.getElem?_cons_succ.{u}
def bX:=@Nat.le_trans
def bY.{u}:=@List.length_drop.{u}
def bc.{u}:=@List.mem_of_getElem?.{u}
def bg.{u}:=@List.nil_append.{u}
def bh.{u}:=@Array.getElem?_eq_some_iff.{u}
def bo.{u}:=@List.cons_append.{u}
def bq:=@Nat.zero_add
def br.{u,v}:=@List.mem_map.{u,v}
def bu.{u,v}:=@List.getElem?_map.{u,v}
def cF.{u,v}:=@List.map_append.{u,v}
def cI:=@decide_eq_false_iff_not
def cN:=@Nat.add_mul
def cP:=@Int.le_refl
def cS.{u}:=@List.getElem_mem.{u}
def cT.{u}:=@Array.getElem?_setIfInBounds_ne.{u}
def cU.{u}:=@beq_eq_false_iff_ne.{u}
def cV.{u}:=@List.mem_filter.{u}
def cX.{u}:=@List.drop_eq_getElem_cons.{u}
def cY:=@Bool.true_and
def ca.{u}:=@List.sum_cons.{u}
def cj.{u}:=@List.mem_singleton.{u}
def ck.{u}:=@List.eq_nil_iff_forall_not_mem.{u}
def cn.{u}:=@List.take_of_length_le.{u}
def cv.{u}:=@List.all_eq_true.{u}
def cz.{u}:=@Array.getElem?_modify.{u}
def dD:=@Nat.add_sub_cancel_left
def dG:=@not_false_eq_true
def dI.{u}:=@List.length_set.{u}
def dJ.{u}:=@List.length_pos_iff.{u}
def dK.{u,v}:=@List.foldl_cons.{u,v}
def dL:=@Bool.eq_iff_iff
def dM:=@Bool.and_true
def dO.{u}:=@List.take_append_of_le_length.{u}
def dQ:=@Nat.add_zero
def dR.{u,v}:=@List.flatMap_cons.{u,v}
def dS.{u}:=@List.filter_cons.{u}
def dV.{u}:=@List.getElem?_drop.{u}
def dW:=@Bool.or_eq_true
def da:=@Bool.not_eq_true'
def di.{u,v}:=@List.map_congr_left.{u,v}
def dq:=@Nat.lt_of_lt_of_le
def dt:=@List.mem_range
def dv.{u}:=@List.mem_of_mem_take.{u}
def dw.{u}:=@List.mem_cons_of_mem.{u}
def eA:=@Bool.false_and
def eC.{u}:=@List.mem_iff_getElem?.{u}
def eD:=@Int.le_trans
def eR:=@Nat.zero_le
def eS.{u}:=@List.size_toArray.{u}
def eT.{u}:=@List.set_append_left.{u}
def eU.{u}:=@List.mem_of_mem_drop.{u}
def eu.{u}:=@List.nodup_cons.{u}
def ey:=@Int.tdiv_eq_ediv_of_nonneg
def fA:=@Nat.sub_self
def fB:=@Bool.not_eq_false'
def fJ.{u}:=@ne_eq.{u}
def fK.{u}:=@List.not_mem_nil.{u}
def fL:=@Bool.not_true
def fP.{u}:=@List.take_append_drop.{u}
def fQ.{u}:=@List.length_filter_le.{u}
def fR.{u}:=@List.eq_nil_or_concat.{u}
def fg.{u}:=@List.concat_eq_append.{u}
def fk.{u}:=@List.takeWhile_cons.{u}
def fm:=@Int.zero_add
def fp.{u}:=@List.nodup_append.{u}
def gB:=@Nat.add_assoc
def gC.{u,v}:=@List.length_filterMap_le.{u,v}
def gE:=@Nat.mul_comm
def gF:=@Nat.lt_or_ge
def gL:=@true_and
def gM.{u}:=@Option.getD_some.{u}
def gN:=@Nat.one_mul
def gd.{u}:=@List.getElem?_take.{u}
def gm:=@not_true
def gr.{u,v}:=@List.mem_map_of_mem.{u,v}
def iE.{u}:=@Option.some.inj.{u}
def iF.{u,v}:=@Option.map_none.{u,v}
def iQ.{u}:=@List.length_singleton.{u}
def iV.{u,v}:=@Option.bind_some.{u,v}
def iW.{u}:=@List.filter_append.{u}
def iX:=@Int.natCast_zero
def ia:=@Bool.false_or
def im.{u,v,w}:=@List.map_map.{u,v,w}
def iq:=@Bool.not_false
def ir:=@Bool.and_false
def iu.{u}:=@Array.getElem?_append_left.{u}
def iw.{u}:=@List.take_succ_cons.{u}
def ix.{u,v}:=@List.filterMap_cons.{u,v}
def jA:=@Nat.min_eq_left
def jJ.{u}:=@List.all_cons.{u}
def jK:=@Int.mul_add
def jN.{u,v}:=@List.mem_flatMap.{u,v}
def ju.{u}:=@List.getLast?_singleton.{u}
def jv.{u}:=@List.filter_cons_of_pos.{u}
def jw.{u}:=@List.ext_getElem?.{u}
def kH:=@decide_true
def kI.{u}:=@List.getLast?_append.{u}
def kJ:=@Bool.or_eq_false_iff
def kf.{u}:=@List.set_cons_succ.{u}
def kg.{u}:=@List.nodup_nil.{u}
def ki.{u}:=@List.singleton_append.{u}
def kj.{u}:=@Array.getElem?_toList.{u}
def lO:=@Int.mul_le_mul_of_nonneg_left
def lT.{u}:=@List.set_cons_zero.{u}
def lU.{u}:=@List.pairwise_cons.{u}
def lV.{u,v}:=@List.mem_filterMap.{u,v}
def lW.{u}:=@Array.getElem?_eq_none.{u}
def lh:=@List.getElem?_range
def lj.{u}:=@List.filter_eq_self.{u}
def lq:=@and_true
def lu:=@and_self
def lx:=@List.nodup_range
def ly.{u}:=@List.filter_cons_of_neg.{u}
def mB.{u}:=@List.getElem?_toArray.{u}
def mC.{u}:=@List.Perm.append_left.{u}
def mF.{u}:=@Array.size_append.{u}
def me.{u,v}:=@List.map_take.{u,v}
def nN.{u}:=@List.drop_length.{u}
def nO.{u,v}:=@Array.toList_map.{u,v}
def nT.{u}:=@List.drop_succ_cons.{u}
def nq.{u}:=@bne_iff_ne.{u}
def nr:=@Nat.div_lt_of_lt_mul
def nu.{u}:=@List.take_left.{u}
def nv.{u}:=@List.forall_mem_cons.{u}
def oC:=@decide_eq_false
def ox.{u}:=@Option.isSome_iff_exists.{u}
def oy.{u}:=@Array.getElem?_push_size.{u}
def pg:=@Nat.lt_of_le_of_lt
def ph.{u}:=@List.mem_cons_self.{u}
def pn.{u}:=@List.getElem?_replicate.{u}
def pv.{u}:=@List.set_eq_take_append_cons_drop.{u}
def qX.{u}:=@List.set_getElem_self.{u}
def qY.{u}:=@List.length_replicate.{u}
def qb:=@false_or
def qc.{u}:=@Option.some_or.{u}
def qd:=@Nat.sub_zero
def qe.{u}:=@List.take_zero.{u}
def qf.{u}:=@List.drop_zero.{u}
def qg:=@Classical.em
def rV:=@Int.mul_le_mul_of_nonneg_right
def rW.{u}:=@Array.eq_empty_of_size_eq_zero.{u}
def sn.{u,v}:=@List.map_drop.{u,v}
def tK:=@Int.natCast_add
def tL:=@Int.ediv_nonneg
def tM.{u,v}:=@Except.ok.injEq.{u,v}
def tN.{u}:=@Array.getElem?_setIfInBounds.{u}
def uk.{u}:=@List.replicate_succ.{u}
def um.{u}:=@Array.getElem?_push.{u}
def uy:=@decide_false
def uz:=@Int.add_zero
def vA:=@or_false
def vB:=@Nat.mod_lt
def vC.{u}:=@List.take_take.{u}
def vD.{u}:=@List.perm_ext_iff_of_nodup.{u}
def vE.{u,v}:=@List.foldl_nil.{u,v}
def vF:=@Int.mul_nonneg
def vG:=@Int.mul_le_mul
def vH:=@Bool.true_eq_false
def xy.{u}:=@List.pairwise_iff_getElem.{u}
def xz.{u}:=@List.mem_of_find?_eq_some.{u}
def yM:=@false_imp_iff
def yN.{u,v}:=@List.filterMap_cons_some.{u,v}
def yO.{u,v}:=@List.filterMap_cons_none.{u,v}
def yP:=@Bool.and_self
def yQ.{u}:=@Array.getElem?_replicate.{u}
end Go
namespace Go
def ak{a b:Prop}(x:a)(y:b):a/\b:=⟨x,y⟩
abbrev ei:=List (List UInt8)
abbrev aJ:=List UInt8
abbrev bG:=List Int
abbrev cy:=List Nat
abbrev bP:=Option Nat
abbrev uA:=Option Int
abbrev aT:=World
abbrev aM:=Program
abbrev df:=List (Int×Int)
abbrev dF:=List (Nat×Bool)
end Go

namespace Go.Pm
open Go Go.RowKit
variable(G:aM)(U:Nat)(C:aT){X e:Nat}{p:Value}{H:aM}{R L:aT}
inductive V where
 |u
 |b (x:Bool)
 |i (k:IntKind) (n:Int)
 |s (l:aJ)
 |nil
 |lit (sz:Nat) (xs:List (List V))
 |sl (sz:Nat) (xs:List (List V))
 |own (id g:Nat)
 |sub (id g lo hi:Nat)
 |ptr (id off:Nat)
 |ep (sz:Nat) (xs:List (List V)) (i off:Nat)
 |rp (id g i off:Nat)
 |mp (id:Nat)
 |it (id:Nat)
 |sy (id n:Nat)
 |eE
 |gO
 |fn (f:Nat) (caps:List V)
 |agg (xs:List V)
 |gy (xs:List V)
@[match_pattern]abbrev V.I(a:Int):V:=.i .i64 a
abbrev cD:=List (List V)
abbrev ao:=List V
def V.pure:V->Bool
 |.b _|.i _ _|.s _|.sl _ _=>A
 |_=>Z
def V.cell:V->Bool
 |.u|.agg _|.gy _|.it _|.sy _ _=>Z
 |_=>A
inductive Ob where
 |dead
 |box (T:Nat) (cs:ao)
 |row (E sz by':Nat) (g:Nat) (sh:Bool) (xs:cD)
 |map (K E:Nat) (es:List (V×V))
 |iter (st:Bool) (m E n:Nat) (ps:cy) (cur:bP)
abbrev ag:=List Ob
variable{Q D:ag}
abbrev Mem:=Nat->Value
variable{S M:Mem}
def js:Value->bP|.pointer (N a)=>N a.block|.slice (N a) _ _=>N a.block|.map (N r)=>N r|_=>Y
def Ob.wat:Ob->Prop|.dead=>False|.box _ _=>True|.row _ sz _ _ sh xs=>sh=A->F xs*sz<=U|.map _ _ _=>True|.iter _ _ _ _ _ _=>True
def wr(J:ag)(c:Mem)(b a:Nat):Prop:=∃id o,J[id]?=N o/\js (c id)=N b/\o.wat a
def gp(a:cD)(i j:Nat):Option V:=(a[i]?).bind (·[j]?)
def lk(v:Value)(b c sz:Nat):Value :=
 match v with|.slice a _ cap=>.slice (if cap=b then a else a.map (·.add (b*sz))) (c - b) (cap - b)|v=>v
def rpv(v:Value)(i b c:Nat):Value :=
 match v with|.slice (N a) _ _=>.pointer (N ⟨a.block,i*c+b,Y⟩)|v=>v
inductive VR (w:aT) (J:ag) (μ:Mem):V->Value->Prop
 |u (v:Value):VR w J μ .u v
 |b (x:Bool):VR w J μ (.b x) (.bool x)
 |i (k:IntKind) (n:Int):VR w J μ (.i k n) (.int k n)
 |s (l:aJ) (x:ByteArray) (hl:x.data.toList=l) (hm:l.length<=maxLen):VR w J μ (.s l) (.string x)
 |nil:VR w J μ .nil (.slice none 0 0)
 |Dh (sz:Nat):VR w J μ (.sl sz []) (.slice none 0 0)
 |sle (sz:Nat) (a:Addr):VR w J μ (.sl sz []) (.slice (some a) 0 0)
 |sl (sz:Nat) (xs:cD) (b o cap:Nat) (f:Nat->Nat->Value) (hlen:xs.length<=cap) (mj:cap<=maxLen) (cH:∀r∈xs,r.length=sz)
   (hc:∀i j x,gp xs i j=some x->w.cell? ⟨b,o+i*sz+j,none⟩=some (f i j)/\¬wr J μ b (o+i*sz+j)/\x.pure=true)
   (hv:∀i j x,gp xs i j=some x->VR w J μ x (f i j)):VR w J μ (.sl sz xs) (.slice (some ⟨b,o,none⟩) xs.length cap)
 |Gt (sz:Nat):VR w J μ (.lit sz []) (.slice none 0 0)
 |lit (sz:Nat) (xs:cD) (b o:Nat) (f:Nat->Nat->Value) (mj:xs.length<=maxLen) (cH:∀r∈xs,r.length=sz)
   (hc:∀i j x,gp xs i j=some x->w.cell? ⟨b,o+i*sz+j,none⟩=some (f i j)/\¬wr J μ b (o+i*sz+j)/\x.pure=true)
   (hv:∀i j x,gp xs i j=some x->VR w J μ x (f i j)):VR w J μ (.lit sz xs) (.slice (some ⟨b,o,none⟩) xs.length xs.length)
 |own (id g:Nat) (v:Value) (hid:id<J.length) (h:∀E sz by' g' sh xs,J[id]?=some (.row E sz by' g' sh xs)->g<=g'/\(g=g'->v=μ id)):VR w J μ (.own id g) v
 |sub (id g lo hi:Nat) (v:Value) (hid:id<J.length)
   (h:∀E sz by' g' sh xs,J[id]?=some (.row E sz by' g' sh xs)->g<=g'/\(g=g'->lo<=hi/\hi<=xs.length/\v=lk (μ id) lo hi sz)):VR w J μ (.sub id g lo hi) v
 |ptr (id off b:Nat) (h:∃T cs,J[id]?=some (.box T cs)) (hm:μ id=.pointer (some ⟨b,0,none⟩)):VR w J μ (.ptr id off) (.pointer (some ⟨b,off,none⟩))
 |ep (sz:Nat) (xs:cD) (i off b o:Nat) (f:Nat->Value) (hi:i<xs.length) (cH:∀r∈xs,r.length=sz)
   (hc:∀j x,gp xs i j=some x->w.cell? ⟨b,o+j,none⟩=some (f j)/\¬wr J μ b (o+j)/\x.pure=true)
   (hv:∀j x,gp xs i j=some x->VR w J μ x (f j)):VR w J μ (.ep sz xs i off) (.pointer (some ⟨b,o+off,none⟩))
 |rp (id g i off:Nat) (v:Value) (hid:id<J.length)
   (h:∀E sz by' g' sh xs,J[id]?=some (.row E sz by' g' sh xs)->g<=g'/\(g=g'->i<xs.length/\v=rpv (μ id) i off sz)):VR w J μ (.rp id g i off) v
 |mp (id r:Nat) (h:∃K E es,J[id]?=some (.map K E es)) (hm:μ id=.map (some r)):VR w J μ (.mp id) (.map (some r))
 |it (id:Nat) (v:Value) (h:∃st m E n ps c,J[id]?=some (.iter st m E n ps c)) (hm:μ id=v):VR w J μ (.it id) v
 |sy (id n b:Nat) (h:∃T cs,J[id]?=some (.box T cs)) (hm:μ id=.pointer (some ⟨b,0,none⟩)):VR w J μ (.sy id n) (.slice (some ⟨b,0,none⟩) n n)
 |eE:VR w J μ .eE (.map none)
 |gO:VR w J μ .gO (.pointer none)
 |fn (f:Nat) (caps:ao) (vs:Array Value) (hl:caps.length=vs.size) (hv:∀i x,caps[i]?=some x->VR w J μ x (vs.getD i undef)) :
   VR w J μ (.fn f caps) (.func (.func f) #[] vs)
 |agg (xs:ao) (vs:Array Value) (hl:xs.length=vs.size) (hv:∀i x,xs[i]?=some x->VR w J μ x (vs.getD i undef)):VR w J μ (.agg xs) (.agg vs)
 |gy (xs:ao) (vs:Array Value) (hl:xs.length=vs.size) (hv:∀i x,xs[i]?=some x->VR w J μ x (vs.getD i undef)):VR w J μ (.gy xs) (.tuple vs)
inductive V.Lt (n:Nat):V->Prop
 |u:Lt n .u
 |b (x):Lt n (.b x)
 |i (k a):Lt n (.i k a)
 |s (l):Lt n (.s l)
 |nil:Lt n .nil
 |lit (sz xs):Lt n (.lit sz xs)
 |sl (sz xs):Lt n (.sl sz xs)
 |own (id g) (h:id<n):Lt n (.own id g)
 |sub (id g lo hi) (h:id<n):Lt n (.sub id g lo hi)
 |ptr (id off) (h:id<n):Lt n (.ptr id off)
 |ep (sz xs i off):Lt n (.ep sz xs i off)
 |rp (id g i off) (h:id<n):Lt n (.rp id g i off)
 |mp (id) (h:id<n):Lt n (.mp id)
 |it (id) (h:id<n):Lt n (.it id)
 |sy (id m) (h:id<n):Lt n (.sy id m)
 |eE:Lt n .eE
 |gO:Lt n .gO
 |fn (f caps) (h:∀(i:Nat) (x:V),caps[i]?=some x->Lt n x):Lt n (.fn f caps)
 |agg (xs) (h:∀(i:Nat) (x:V),xs[i]?=some x->Lt n x):Lt n (.agg xs)
 |gy (xs) (h:∀(i:Nat) (x:V),xs[i]?=some x->Lt n x):Lt n (.gy xs)
def VR.lt{x:V}(h:VR R Q S x p):x.Lt (F Q):=by
 induction h with
 |u p=>exact .u
 |b x=>exact .b x
 |i k n=>exact .i k n
 |s l x z y=>exact .s l
 |nil=>exact .nil
 |Dh d=>exact .sl d _
 |sle d a=>exact .sl d _
 |sl d q b o M f C I D H v ih=>exact .sl d q
 |Gt d=>exact .lit d _
 |lit d q b o f I D H v ih=>exact .lit d q
 |own id g p j h=>exact .own id g j
 |sub id g J G p j h=>exact .sub id g J G j
 |ptr id e b h y =>obtain⟨T,L,t⟩:=h;exact .ptr id e (ab.1 t).1
 |ep d q i e b o f G D H v ih=>exact .ep d q i e
 |rp id g i e p j h=>exact .rp id g i e j
 |mp id r h y =>obtain⟨K,E,P,t⟩:=h;exact .mp id (ab.1 t).1
 |it id p h y =>obtain⟨U,m,E,n,O,c,t⟩:=h;exact .it id (ab.1 t).1
 |sy id n b h y =>obtain⟨T,L,t⟩:=h;exact .sy id n (ab.1 t).1
 |eE=>exact .eE
 |gO=>exact .gO
 |fn f w B z v ih=>exact .fn f w ih
 |agg q B z v ih=>exact .agg q ih
 |gy q B z v ih=>exact .gy q ih
def V.Lt.mono{x:V}(h:x.Lt X)(j:X<=e):x.Lt e:=by induction h with|u=>exact .u|b x=>exact .b x|i k a=>exact .i k a|s l=>exact .s l|nil=>exact .nil|lit m d=>exact .lit m d|sl m d=>exact .sl m d|own id g h=>exact .own id g (dq h j)|sub id g p o h=>exact .sub id g p o (dq h j)|ptr id c h=>exact .ptr id c (dq h j)|ep m d i c=>exact .ep m d i c|rp id g i c h=>exact .rp id g i c (dq h j)|mp id h=>exact .mp id (dq h j)|it id h=>exact .it id (dq h j)|sy id X h=>exact .sy id X (dq h j)|eE=>exact .eE|gO=>exact .gO|fn f n h ih=>exact .fn f n ih|agg d h ih=>exact .agg d ih|gy d h ih=>exact .gy d ih
structure np (w:aT) (J:ag) (μ:Mem) (w':aT) (J':ag) (μ':Mem):Prop where
 cell:∀b o v,w.cell? ⟨b,o,none⟩=some v->¬wr J μ b o->w'.cell? ⟨b,o,none⟩=some v/\¬wr J' μ' b o
 len:J.length<=J'.length
 box:∀id T cs,J[id]?=some (.box T cs)->(∃cs',J'[id]?=some (.box T cs'))/\μ' id=μ id
 map:∀id K E es,J[id]?=some (.map K E es)->(∃E' es',J'[id]?=some (.map K E' es'))/\μ' id=μ id
 itr:∀id st m E n ps c,J[id]?=some (.iter st m E n ps c)->(∃ps' c',J'[id]?=some (.iter st m E n ps' c'))/\μ' id=μ id
 row:∀id E sz by' g' sh xs,id<J.length->J'[id]?=some (.row E sz by' g' sh xs)->∃g sh0 xs0,J[id]?=some (.row E sz by' g sh0 xs0)/\g<=g'/\(g=g'->xs0.length=xs.length/\μ' id=μ id)
def VR.mono(d:np R Q S L D M){x:V}(h:VR R Q S x p):VR L D M x p:=by
 induction h with
 |u p=>exact .u p
 |b x=>exact .b x
 |i k n=>exact .i k n
 |s l x P H=>exact .s l x P H
 |nil=>exact .nil
 |Dh e=>exact .Dh e
 |sle e a=>exact .sle e a
 |sl e w b o am f ad mj cH v hv ih =>exact .sl e w b o am f ad mj cH (λi j x q=>⟨(d.cell _ _ _ (v i j x q).1 (v i j x q).2.1).1,(d.cell _ _ _ (v i j x q).1 (v i j x q).2.1).2,(v i j x q).2.2⟩) ih
 |Gt e=>exact .Gt e
 |lit e w b o f mj cH v hv ih =>exact .lit e w b o f mj cH (λi j x q=>⟨(d.cell _ _ _ (v i j x q).1 (v i j x q).2.1).1,(d.cell _ _ _ (v i j x q).1 (v i j x q).2.1).2,(v i j x q).2.2⟩) ih
 |own id g p t h =>
  refine .own id g p (dq t d.len) λE e C J X w hs=>?_;obtain⟨g1,ac,W,B,z,y⟩:=d.row id E e C J X w t hs;have I:=h _ _ _ _ _ _ B;refine⟨bX I.1 z,λhg=>?_⟩;have U:g1=J:=by omega
  rw[(y U).2];exact I.2 (by omega)
 |sub id g lo hi p t h =>
  refine .sub id g lo hi p (dq t d.len) λE e C J X w hs=>?_;obtain⟨g1,ac,W,B,z,y⟩:=d.row id E e C J X w t hs;have I:=h _ _ _ _ _ _ B;refine⟨bX I.1 z,λhg=>?_⟩;have U:g1=J:=by omega
  rw[(y U).2,<- (y U).1];exact I.2 (by omega)
 |ptr id G b h H =>obtain⟨T,cs,B⟩:=h;obtain⟨⟨O,z⟩,y⟩:=d.box id T cs B;exact .ptr id G b ⟨T,O,z⟩ (y.trans H)
 |ep e w i G b o f hi cH v hv ih =>exact .ep e w i G b o f hi cH (λj x q=>⟨(d.cell _ _ _ (v j x q).1 (v j x q).2.1).1,(d.cell _ _ _ (v j x q).1 (v j x q).2.1).2,(v j x q).2.2⟩) ih
 |rp id g i G p t h =>
  refine .rp id g i G p (dq t d.len) λE e C J X w hs=>?_;obtain⟨g1,ac,W,B,z,y⟩:=d.row id E e C J X w t hs;have I:=h _ _ _ _ _ _ B;refine⟨bX I.1 z,λhg=>?_⟩;have U:g1=J:=by omega
  rw[(y U).2,<- (y U).1];exact I.2 (by omega)
 |mp id r h H =>obtain⟨K,E,es,B⟩:=h;obtain⟨⟨E',ap,z⟩,y⟩:=d.map id K E es B;exact .mp id r ⟨K,E',ap,z⟩ (y.trans H)
 |it id p h H =>obtain⟨st,m,E,n,ps,c,B⟩:=h;obtain⟨⟨av,c',z⟩,y⟩:=d.itr id st m E n ps c B;exact .it id p ⟨st,m,E,n,av,c',z⟩ (y.trans H)
 |sy id n b h H =>obtain⟨T,cs,B⟩:=h;obtain⟨⟨O,z⟩,y⟩:=d.box id T cs B;exact .sy id n b ⟨T,O,z⟩ (y.trans H)
 |eE=>exact .eE
 |gO=>exact .gO
 |fn f af vs P hv ih=>exact .fn f af vs P ih
 |agg w vs P hv ih=>exact .agg w vs P ih
 |gy w vs P hv ih=>exact .gy w vs P ih
def np.refl(J:ag)(a:Mem):np C J a C J a :=⟨λ_ _ _ h d=>⟨h,d⟩,ax _,λ_ _ e h=>⟨⟨e,h⟩,rfl⟩,λ_ _ E i h=>⟨⟨E,i,h⟩,rfl⟩,λ_ _ _ _ _ b c h=>⟨⟨b,c,h⟩,rfl⟩,λ_ _ _ _ g j f _ h=>⟨g,j,f,h,ax _,λ_=>⟨rfl,rfl⟩⟩⟩
def nM(J:ag)(c:Mem)(d:aT)(b:ag)(a:Mem):Prop:=∀x v,VR C J c x v->VR d b a x v
def np.fU(p:np R Q S L D M):nM R Q S L D M:=λ_ _ h=>h.mono p
def fX(J:ag)(c:Mem)(d:aT)(b:ag)(a:Mem):Prop:=∀x v,VR C J c x v->x.Lt U->VR d b a x v
def nM.NW(k:nM R Q S L D M):fX X R Q S L D M:=λx v h _=>k x v h
def fX.refl(J:ag)(a:Mem):fX U C J a C J a:=λ_ _ h _=>h
def fX.trans{c:aT}{b:ag}{a:Mem} (h:fX X R Q S L D M) (k:fX X L D M c b a):fX X R Q S c b a:=λx v e d=>k x v (h x v e d) d
def nM.refl(J:ag)(a:Mem):nM C J a C J a:=λ_ _ h=>h
def nM.trans{c:aT}{b:ag}{a:Mem} (h:nM R Q S L D M) (k:nM L D M c b a):nM R Q S c b a:=λx v d=>k x v (h x v d)
def Ti(a b:Nat):Prop :=0<a/\∃(t:TypeInfo) (z:Value),G.info? U=N t/\t.zero=N z/\t.size=a/\t.bytes=b/\z.cells.size=a
def lp(J:ag)(d:Mem)(c:cD)(b:Nat)(a:List Value):Prop :=(∀r∈c,F r=b)/\∀i j x,gp c i j=N x->x.pure=A/\∃v,a[i*b+j]?=N v/\VR C J d x v
def V.Oe:V->Bool
 |.i _ _|.s _|.b _=>A
 |_=>Z
def V.qE:V->Bool
 |.i _ _|.s _|.b _=>A
 |.agg xs=>xs.all V.Oe
 |_=>Z
def V.jG:V->Bool|.agg xs=>xs.all V.cell|x=>x.cell
def vv(J:ag)(b:Mem)(c:List (V×V))(a:Array MapEntry)(clock:Nat):Prop :=a.size=F c/\(∀(i:Nat) (k x:V),c[i]?=N (k,x)->k.qE=A/\x.jG=A/\∃e,a[i]?=N e/\VR C J b k e.key/\VR C J b x e.val) /\(∀(i:Nat) (e:MapEntry),a[i]?=N e->e.born<clock)/\(∀(i j:Nat) (e d:MapEntry),a[i]?=N e->a[j]?=N d->e.born=d.born->i=j)
def NP(J:ag)(l:Mem)(m j g:Nat)(k:cy)(d:bP)(h since:Nat)(b:Array Nat):Prop :=l m=.map (N h)/\(∀p∈k,p<g)/\∃K E f a clock,J[m]?=N (.map K E f)/\C.heap[h]?=N (.map a clock)/\j<=E /\(E=j->g<=F f/\(F f=g->clock=since/\(∀(i:Nat) (e:MapEntry),a[i]?=N e->(b.contains e.born=Z<->i∈k)) /\∀c,d=N c->∃e:MapEntry,a[c]?=N e/\b.back?=N e.born))
def NN(J:ag)(i:Mem)(m g j:Nat)(d:bP)(b:Int):Prop :=∃f,i m=.map (N f)/\∃K E h a clock,J[m]?=N (.map K E h)/\C.heap[f]?=N (.map a clock)/\g<=E /\(E=g->j<=F h/\∀c,d=N c->∃e:MapEntry,a[c]?=N e/\(e.born:Int)=b)
def Ad(J:ag)(f:Mem)(v:Value):Ob->Prop|.dead=>True|.box T cs=>∃(b:Nat) (g:Array Value),v=.pointer (N ⟨b,0,Y⟩)/\U<=b/\C.heap[b]?=N (.cells g T (0,0))/\g.size=F cs /\∀(j:Nat) (x:V),cs[j]?=N x->∃u,g[j]?=N u/\VR C J f x u|.row E sz by' _ _ xs=>Ti G E sz by'/\∃c:List Value,C.ownsRow U E sz v (F xs) c/\lp C J f xs sz c|.map _ _ es=>∃(r:Nat) (d:Array MapEntry) (clock:Nat),v=.map (N r)/\U<=r/\C.heap[r]?=N (.map d clock)/\vv C J f es d clock|.iter A m E0 n0 _ cur=>∃(a:Int),v=.int .i64 a/\NN C J f m E0 n0 cur a|.iter Z m E0 n0 ps cur=>∃(r h since:Nat) (e:Array Nat),v=.pointer (N ⟨r,0,Y⟩)/\U<=r/\C.heap[r]?=N (.mapIter (N h) since e since)/\NP C J f m E0 n0 ps cur h since e
def Bk:bG:=[1,10,100,1000,10000,100000,1000000,10000000,100000000,1000000000,10000000000,100000000000,1000000000000,10000000000000,100000000000000,1000000000000000,10000000000000000,100000000000000000,1000000000000000000,10000000000000000000]
def UJ:List (String×IntKind×bG):=[("internal/strconv.uint64pow10",.u64,Bk)]
def Laid:Prop:=∀t∈UJ,∀g,G.globalNamed t.1=N g->g<U/\Lib.TabIs G C t.1 t.2.1 t.2.2
structure vw (P:aM) (B:Nat) (w0 w:aT):Prop extends Below B w0 w where
 laid:Laid P B w0
def vw.grown{a w w':aT}{row:bP}(h:vw H X a w)(d:w.grownBy w' row)(c:X<=w.heap.size)(b:∀k,row=N k->X<=k):vw H X a w' :=⟨h.toBelow.grown d c b,h.laid⟩
def vw.tab(h:vw H X R L){t:String×IntKind×bG}(d:t∈UJ)(b:H.globalNamed t.1=N e):Lib.TabIs H L t.1 t.2.1 t.2.2:=by obtain⟨c,a⟩:=h.laid t d e b;unfold Lib.TabIs World.var? at a |-;simp only[b,iV]at a |-;rw[h.block e c];exact a
structure gU (P:aM) (B:Nat) (w0 w:aT) (J:ag) (μ:Mem):Prop where
 below:vw P B w0 w
 base:B<=w.heap.size
 obj:∀id o,J[id]?=some o->Ad P B w J μ (μ id) o
 sep:∀i j oi oj b,J[i]?=some oi->J[j]?=some oj->oi≠.dead->oj≠.dead->js (μ i)=some b->js (μ j)=some b->i=j
def FR(J:ag)(c:Mem)(b:ao)(a:Act):Prop :=a.defers=[]/\a.tmps.size=F b/\∀i x,b[i]?=N x->VR C J c x (a.tmps.getD i undef)
def FR.fU(k:nM R Q S L D M){b:ao}{a:Act}(h:FR R Q S b a):FR L D M b a :=⟨h.1,h.2.1,λi x c=>k _ _ (h.2.2 i x c)⟩
structure St where
 fr:ao
 J:ag
variable{q:St}
abbrev bj:=Exit->St->Prop
variable{d:bj}
abbrev bk:=St->Prop
def Uw(J:ag)(c:Mem)(a:ao)(b:Array Value):Prop:=b.size=F a/\∀i x,a[i]?=N x->VR C J c x (b.getD i undef)
def PC(b:ao)(J:ag)(Q:V->ag->Prop):Prop :=∀(B:Nat) (h w:aT) (d:Mem) (g:Array Value),gU G B h w J d->Uw w J d b g ->Calls G U g w λe f=>∃r v c a,e=.returned v/\Q r c/\gU G B h f c a/\VR f c a r v/\nM w J d f c a
def PW(P:aM)(c:Code)(K:bj)(f:St):Prop :=∀(B:Nat) (i w:aT) (g:Mem) (a:Act),gU P B i w f.J g->FR w f.J g f.fr a ->c.wp P (λe j h=>∃b d,K e b/\gU P B i h b.J d/\FR h b.J d b.fr j/\fX U w f.J g h b.J d) a w
def PC.mono{b:ao}{a f:V->ag->Prop}(h:PC H X b Q a)(m:∀r d,a r d->f r d):PC H X b Q f :=λB i w g l j n=>(h B i w g l j n).mono λ_ _ ⟨r,v,d,e,o,k,c⟩=>⟨r,v,d,e,o,m _ _ k,c⟩
def PW.mono{c:Code}{i:bj}(h:PW X H c d q)(k:∀e b,d e b->i e b):PW X H c i q :=λB n w l a o j=>wp_mono (h B n w l a o j) λ_ _ _ ⟨b,g,m,f⟩=>⟨b,g,k _ _ m,f⟩
def PW.skip(h:d .normal q):PW X H .skip d q :=λ_ _ _ b _ c a=>wp_skip ⟨q,b,h,c,a,fX.refl _ _ _ _⟩
def PW.ret(h:d .ret q):PW X H .ret d q :=λ_ _ _ b _ c a=>wp_ret ⟨q,b,h,c,a,fX.refl _ _ _ _⟩
def PW.exit{id:Nat}(h:d (.exit id) q):PW X H (.exit id) d q :=λ_ _ _ b _ c a=>wp_exit ⟨q,b,h,c,a,fX.refl _ _ _ _⟩
def abt(P:aM)(y:Code)(K:bj):bj|.normal,a=>PW U P y K a|e,a=>K e a
def PW.seq{x y:Code}(h:PW X H x (abt X H y d) q):PW X H (.seq x y) d q:=by
 intro B o w r a v p;refine wp_seq (wp_mono (h B o w r a v p) ?_);rintro e z s ⟨i,g,k,b,f,j⟩;cases e with
 |normal=>exact wp_mono (k B o s g z b f) λ_ _ _ ⟨m,n,D,t,u,C⟩=>⟨m,n,D,t,u,j.trans C⟩
 |exit id=>exact⟨i,g,k,b,f,j⟩
 |goto l=>exact⟨i,g,k,b,f,j⟩
 |ret=>exact⟨i,g,k,b,f,j⟩
 |panic c=>exact⟨i,g,k,b,f,j⟩
 |outgrown=>exact⟨i,g,k,b,f,j⟩
def yI(id:Nat)(K:bj):bj|.exit id',a=>if id'=id then K .normal a else K (.exit id') a|e,a=>K e a
def PW.block{id:Nat}{c:Code}(h:PW X H c (yI id d) q):PW X H (.block id c) d q:=by
 intro B r w p a s o;refine wp_block (wp_mono (h B r w p a s o) ?_);rintro e u t ⟨f,i,j,b,g,k⟩;cases e with
 |normal=>exact⟨f,i,j,b,g,k⟩
 |exit n =>
  by_cases m:n=id;.subst m;simp only[yI,aU]at j;simp only[Exit.inBlock,aU];exact⟨f,i,j,b,g,k⟩
  simp only[yI,m,aQ]at j;simp only[Exit.inBlock,m,aQ];exact⟨f,i,j,b,g,k⟩
 |goto l=>exact⟨f,i,j,b,g,k⟩
 |ret=>exact⟨f,i,j,b,g,k⟩
 |panic c=>exact⟨f,i,j,b,g,k⟩
 |outgrown=>exact⟨f,i,j,b,g,k⟩
def rX{Q:Exit->Act->aT->Prop}{a:Act}{c:Code}(Jj:Nat->Act->aT->Prop)(h0:Jj U a R) (round:∀k a R,Jj k a R->c.wp H (Exit.then (λo n=>∃s,s<k/\Jj s o n) Q) a R):(Code.loop c).wp H Q a R:=by
 intro b k t;have u:∀U a R,Jj U a R->∃e o n,Q e o n/\Arrives H (lone (b.at a (.code c::.inLoop c::k)) t R) b k t e o n:=by
  intro U;induction U using Nat.strongRecOn with
  |_ U ih =>
  intro a R v;obtain⟨e,f,d,i,h⟩:=round U a R v b (.inLoop c::k) t;cases e with
  |normal =>obtain⟨s,w,m⟩:=i;obtain⟨p,q,r,j,g⟩:=ih s w f d m;exact⟨p,q,r,j,.of_steps (Steps.trans h (.one step_inLoop)) g⟩
  |exit id=>exact⟨_,f,d,i,.pass (x:=.inLoop c) rfl (λ_ _=>.inl (by simp)) h⟩
  |goto l=>exact⟨_,f,d,i,.pass (x:=.inLoop c) rfl (λ_ _=>.inl (by simp)) h⟩
  |ret=>exact⟨_,f,d,i,.pass (x:=.inLoop c) rfl (λ_ _=>.inl (by simp)) h⟩
  |panic y=>exact⟨_,f,d,i,.pass (x:=.inLoop c) rfl (λ_ _=>.inl (by simp)) h⟩
  |outgrown=>exact⟨_,f,d,i,.pass (x:=.inLoop c) rfl (λ_ _=>.inl (by simp)) h⟩
 obtain⟨e,o,n,i,h⟩:=u _ a R h0;exact⟨e,o,n,i,.of_steps (.one step_loop) h⟩
def XK(I:bk)(m:St->Nat)(k:Nat)(K:bj):bj|.normal,a=>I a/\m a<k|e,a=>K e a
def PW.loop{c:Code}(I:bk)(m:St->Nat)(h0:I q)(h:∀q,I q->PW X H c (XK I m (m q) d) q):PW X H (.loop c) d q:=by
 intro B C w y a V T;have G:∀(b:Nat) (i:St) (v:aT) (p:Mem) (K:Act),m i=b->I i->gU H B C v i.J p->FR v i.J p i.fr K->fX X w q.J y v i.J p ->
   (Code.loop c).wp H (λe L z=>∃f g,d e f/\gU H B C z f.J g/\FR z f.J g f.fr L/\fX X w q.J y z f.J g) K v:=by intro b i v p K W U Q R S;refine rX b (λk D x=>∃j r,m j=k/\I j/\gU H B C x j.J r/\FR x j.J r j.fr D/\fX X w q.J y x j.J r) ⟨i,p,W,U,Q,R,S⟩ ?_;rintro k D x ⟨j,r,E,O,M,P,t⟩;refine wp_mono (h j O B C x r D M P) ?_;rintro e L z ⟨f,g,s,n,o,u⟩;cases e with|normal=>exact⟨m f,E▸s.2,f,g,rfl,s.1,n,o,t.trans u⟩|exit id=>exact⟨f,g,s,n,o,t.trans u⟩|goto l=>exact⟨f,g,s,n,o,t.trans u⟩|ret=>exact⟨f,g,s,n,o,t.trans u⟩|panic c=>exact⟨f,g,s,n,o,t.trans u⟩|outgrown=>exact⟨f,g,s,n,o,t.trans u⟩
 exact G _ q w y a rfl h0 V T (fX.refl _ _ _ _)
def Gm{w f:aT}{a:Nat}{e:TypeId}{size:Nat}{v:Value}{n:Nat}{i:List Value}(h:w.ownsRow a e size v n i) (l:∀g,js v=N g->f.heap[g]?=w.heap[g]?):f.ownsRow a e size v n i:=by
 obtain⟨o,c⟩:=h;refine⟨o,?_⟩;rcases c with c|⟨g,d,b,j,m,k,r⟩;.exact .inl c
 exact .inr ⟨g,d,b,j,m,by rw[l g (by simp[j,js])];exact k,r⟩
def Ad.rQ{o:Ob}(h:Ad H X R Q S p o)(u:o≠.dead)(a:js p=N e):X<=e/\e<R.heap.size:=by
 cases o with
 |dead=>exact absurd rfl u
 |box T C =>obtain⟨x,B,rfl,d,b,_⟩:=h;simp only[js,aa]at a;subst a;exact⟨d,(bh.1 b).1⟩
 |row E G s g y I =>
  obtain⟨_,f,⟨_,b⟩,_⟩:=h;rcases b with⟨rfl,_⟩|⟨g,q,t,rfl,l,v,_⟩;.simp[js]at a
  simp only[js,aa]at a;subst a;exact⟨l,(bh.1 v).1⟩
 |map K E J =>obtain⟨r,k,clock,rfl,d,b,_⟩:=h;simp only[js,aa]at a;subst a;exact⟨d,(bh.1 b).1⟩
 |iter w m E n z c =>
 cases w;.obtain⟨r,D,since,i,rfl,d,b,_⟩:=h;simp only[js,aa]at a;subst a;exact⟨d,(bh.1 b).1⟩
 obtain⟨j,rfl,_⟩:=h;simp[js]at a
def lp.fU{b:cD}{a:List Value}(h:lp R Q S b X a)(k:nM R Q S L D M):lp L D M b X a :=
 ⟨h.1,λi j x c=>⟨(h.2 i j x c).1,let ⟨v,e,d⟩:=(h.2 i j x c).2;⟨v,e,k _ _ d⟩⟩⟩
def vv.fU{c:List (V×V)}{b:Array MapEntry}{clock:Nat}(h:vv R Q S c b clock)(k:nM R Q S L D M):vv L D M c b clock :=
 ⟨h.1,λi a x m=>let ⟨g,d,e,l,f,j⟩:=h.2.1 i a x m;⟨g,d,e,l,k _ _ f,k _ _ j⟩,h.2.2⟩
def xw(w:aT)(J:ag)(l:Mem)(w':aT)(n:ag)(k:Mem)(m:Nat):Prop :=∀(K E:Nat) (h:List (V×V)) (g:Nat) (c:Array MapEntry) (clock:Nat),J[m]?=N (.map K E h)->l m=.map (N g)->w.heap[g]?=N (.map c clock) ->k m=.map (N g)/\∃o j d a b,n[m]?=N (.map o j d)/\w'.heap[g]?=N (.map a b)/\E<=j /\(j=E->F h<=F d/\(F d=F h->b=clock/\∀(i:Nat) (f:MapEntry),a[i]?=N f->∃e,c[i]?=N e/\e.born=f.born) /\∀(i:Nat) (e:MapEntry),c[i]?=N e->∃f,a[i]?=N f/\f.born=e.born)
def NP.step{k:Nat}{q:cy}{g:bP}{l since:Nat}{d:Array Nat}(h:NP R Q S X e k q g l since d)(y:xw R Q S L D M X):NP L D M X e k q g l since d:=by
 obtain⟨W,U,K,E,s,j,clock,t,z,u,h5⟩:=h;obtain⟨g1,P,r,o,f,b,V,g3,x,g5⟩:=y K E s l j clock t W z;refine⟨g1,U,P,r,o,f,b,V,g3,bX u x,λhe=>?_⟩;have C:E=e:=by omega
 have w:r=E:=by omega
 obtain⟨h6,h7⟩:=h5 C;obtain⟨J,v,g8⟩:=g5 w;refine⟨bX h6 J,λhn=>?_⟩;have e3:F s=k:=by omega
 obtain⟨a1,G,a3⟩:=h7 e3;obtain⟨O,b2⟩:=v (by omega);refine⟨O.trans a1,λi n B=>?_,λc I=>?_⟩;.obtain⟨a,m,p⟩:=b2 i n B;rw[<- p];exact G i a m
 obtain⟨a,m,p⟩:=a3 c I;obtain⟨n,H,T⟩:=g8 c a m;exact⟨n,H,by rw[T];exact p⟩
def NN.step{l:Nat}{i:bP}{d:Int}(h:NN R Q S X e l i d)(G:xw R Q S L D M X):NN L D M X e l i d:=by
 obtain⟨m,t,K,E,H,g,clock,o,I,s,u⟩:=h;obtain⟨B,W,k,j,f,b,r,q,z,O⟩:=G K E H m g clock o t I;refine⟨m,B,W,k,j,f,b,r,q,bX s z,λhe=>?_⟩;have T:E=e:=by omega
 have y:k=E:=by omega
 obtain⟨J,v⟩:=u T;obtain⟨n,_,x⟩:=O y;refine⟨bX J n,λc V=>?_⟩;obtain⟨a,C,P⟩:=v c V;obtain⟨w,U,p⟩:=x c a C;exact⟨w,U,by rw[p];exact P⟩
def xw.same{w:aT}{w':aT}(h1:D[X]?=Q[X]?)(g:M X=S X)(k:∀b,js (S X)=N b->w'.heap[b]?=w.heap[b]?):xw w Q S w' D M X:=by intro K E j d a clock f c m;exact⟨g.trans c,K,E,j,a,clock,h1.trans f,by rw[k d (by rw[c];rfl)];exact m,ax _,λ_=>⟨ax _,λ_=>⟨rfl,λi l h=>⟨l,h,rfl⟩⟩,λi e h=>⟨e,h,rfl⟩⟩⟩
def Ad.fU{o:Ob}(h:Ad H X R Q S p o)(k:nM R Q S L D M) (q:∀b,js p=N b->L.heap[b]?=R.heap[b]?) (z:∀w m E n s c,o=.iter w m E n s c->xw R Q S L D M m:=by intro _ _ _ _ _ _ h;cases h):Ad H X L D M p o:=by
 cases o with
 |dead=>trivial
 |box T V =>obtain⟨y,C,rfl,d,a,v,t⟩:=h;exact⟨y,C,rfl,d,by rw[q y rfl];exact a,v,λj x O=>let ⟨u,G,P⟩:=t j x O;⟨u,G,k _ _ P⟩⟩
 |row E W I g U xs =>obtain⟨B,e,d,a⟩:=h;exact⟨B,e,Gm d q,a.fU k⟩
 |map K E es =>obtain⟨r,l,clock,rfl,d,a,v⟩:=h;exact⟨r,l,clock,rfl,d,by rw[q r rfl];exact a,v.fU k⟩
 |iter w m E n s c =>
 cases w;.obtain⟨r,J,since,f,rfl,d,a,t⟩:=h;exact⟨r,J,since,f,rfl,d,by rw[q r rfl];exact a,t.step (z _ m E n s c rfl)⟩
 obtain⟨i,rfl,h⟩:=h;exact⟨i,rfl,h.step (z _ m E n s c rfl)⟩
def gU.rQ(h:gU H X R L Q S){id:Nat}{o:Ob}(b:Q[id]?=N o)(a:o≠.dead)(c:js (S id)=N e):X<=e/\e<L.heap.size :=(h.obj id o b).rQ a c
def gU.update{w':aT}{J':ag}{μ':Mem}(s:gU H X R L Q S)(id:Nat)(row:bP) (hg:L.grownBy w' row) (cH:∀b,row=N b->∃o,Q[id]?=N o/\o≠.dead/\js (S id)=N b) (I:F Q<=F J') (e:∀j,j≠id->J'[j]?=Q[j]?) (f:∀j,j≠id->μ' j=S j) (ku:∀b,js (μ' id)=N b->(∃o,Q[id]?=N o/\o≠.dead/\js (S id)=N b)\/L.heap.size<=b) (sj:∀b p v o,Q[id]?=N o->o≠.dead->js (S id)=N b->L.cell? ⟨b,p,Y⟩=N v->¬wr Q S b p ->w'.cell? ⟨b,p,Y⟩=N v/\∀o',J'[id]?=N o'->js (μ' id)=N b->¬o'.wat p) (Wr:∀T cs,Q[id]?=N (.box T cs)->(∃ad,J'[id]?=N (.box T ad))/\μ' id=S id) (PG:∀K E V,Q[id]?=N (.map K E V)->(∃E' ap,J'[id]?=N (.map K E' ap))/\μ' id=S id/\xw L Q S w' J' μ' id) (am:∀E sz x C sh U,id<F Q->J'[id]?=N (.row E sz x C sh U)->∃g ac P,Q[id]?=N (.row E sz x g ac P)/\g<=C/\(g=C->F P=F U/\μ' id=S id)) (dP:np L Q S w' J' μ'->∀o,J'[id]?=N o->Ad H X w' J' μ' (μ' id) o) (aE:∀M m E n G c,Q[id]?=N (.iter M m E n G c)->(∃af c',J'[id]?=N (.iter M m E n af c'))/\μ' id=S id:=by intro _ _ _ _ _ _ h;simp_all) : gU H X R w' J' μ'/\np L Q S w' J' μ':=by
 have hp:np L Q S w' J' μ':=by
  refine⟨λb p v hc hw=>?_,I,λj T cs d=>?_,λj K E V d=>?_,λj M m E n G c d=>?_,λj E sz x C sh U lz d=>?_⟩
  .have dC:=World.block_lt_of_cell? L _ hc;refine⟨?_,?_⟩
   .by_cases D:N b=row;.obtain⟨o,l,q,r⟩:=cH b D.symm;exact(sj b p v o l q r hc hw).1
    exact hg.cell hc D
   rintro⟨j,W,d,u,J⟩;by_cases a:j=id
   .subst a;rcases ku b u with⟨o,l,q,r⟩|h;.exact(sj b p v o l q r hc hw).2 W d u J
    exact absurd dC (Nat.not_lt.2 h)
   rw[e j a]at d;rw[f j a]at u;exact hw ⟨j,W,d,u,J⟩
  .by_cases a:j=id;.subst a;exact Wr T cs d
   exact⟨⟨cs,by rw[e j a];exact d⟩,f j a⟩
  .by_cases a:j=id;.subst a;exact⟨(PG K E V d).1,(PG K E V d).2.1⟩
   exact⟨⟨E,V,by rw[e j a];exact d⟩,f j a⟩
  .by_cases a:j=id;.subst a;exact aE M m E n G c d
   exact⟨⟨G,c,by rw[e j a];exact d⟩,f j a⟩
  by_cases a:j=id;.subst a;exact am E sz x C sh U lz d
  rw[e j a]at d;exact⟨C,sh,U,d,ax _,λ_=>⟨rfl,f j a⟩⟩
 refine⟨⟨s.below.grown hg s.base (λk hk=>?_),bX s.base hg.size,λj o d=>?_,λi j oi W b hi d Uq SR t u=>?_⟩,hp⟩;.obtain⟨o,l,q,r⟩:=cH k hk;exact(s.rQ l q r).1
 .by_cases a:j=id;.subst a;exact dP hp o d
  rw[e j a]at d;rw[f j a];by_cases O:o=.dead;.subst O;trivial
  have z:∀(j:Nat) (o:Ob),Q[j]?=N o->o≠.dead->j≠id->∀b,js (S j)=N b->w'.heap[b]?=L.heap[b]?:=by intro j o d O a b D;refine hg.block b (s.rQ d O D).2 λav=>?_;obtain⟨o2,l,q,r⟩:=cH b av.symm;exact a (s.sep j id o o2 b d l O q D r)
  refine(s.obj j o d).fU hp.fU (z j o d O a) λM m E n G c ho=>?_;intro K2 E2 B bm y clock l q r;by_cases w:m=id;.subst w;exact(PG K2 E2 B l).2.2 K2 E2 B bm y clock l q r
  exact xw.same (e m w) (f m w) (z m _ l (by simp) w) K2 E2 B bm y clock l q r
 by_cases Lu:i=id
 .subst Lu;by_cases a:j=i;.exact a.symm
  rw[e j a]at d;rw[f j a]at u;rcases ku b t with⟨o,l,q,r⟩|h;.exact s.sep i j o W b l d q SR r u
  exact absurd (s.rQ d SR u).2 (Nat.not_lt.2 h)
 rw[e i Lu]at hi;rw[f i Lu]at t;by_cases a:j=id
 .subst a;rcases ku b u with⟨o,l,q,r⟩|h;.exact s.sep i j oi o b hi l Uq q t r
  exact absurd (s.rQ hi Uq t).2 (Nat.not_lt.2 h)
 rw[e j a]at d;rw[f j a]at u;exact s.sep i j oi W b hi d Uq SR t u
def gU.grown{w':aT}(a:gU H X R L Q S)(d:L.grownBy w' Y):gU H X R w' Q S/\np L Q S w' Q S:=by
 have l:np L Q S w' Q S:=⟨λb u v I s=>⟨d.cell I (by simp),s⟩,ax _,λ_ _ D h=>⟨⟨D,h⟩,rfl⟩,λ_ _ E y h=>⟨⟨E,y,h⟩,rfl⟩,λ_ _ _ _ _ p c h=>⟨⟨p,c,h⟩,rfl⟩,λ_ _ _ _ g B x _ h=>⟨g,B,x,h,ax _,λ_=>⟨rfl,rfl⟩⟩⟩;refine⟨⟨a.below.grown d a.base (by simp),bX a.base d.size,λj o q=>?_,a.sep⟩,l⟩;by_cases k:o=.dead;.subst k;trivial
 refine(a.obj j o q).fU l.fU (λb f=>d.block b (a.rQ q k f).2 (by simp)) λK m E n p c J=>?_;intro C G i t e clock r w z;exact xw.same rfl rfl (λb f=>d.block b (a.rQ r (by simp) f).2 (by simp)) C G i t e clock r w z
def r7(a:Mem)(id:Nat)(v:Value):Mem:=λj=>if j=id then v else a j
def eH(a:Mem)(id:Nat)(v:Value):r7 a id v id=v:=by simp[r7]
def mQ(a:Mem)(id:Nat)(v:Value)(j:Nat)(h:j≠id):r7 a id v j=a j:=by simp[r7,h]
def yA(J:ag)(o:Ob)(j:Nat)(h:j≠F J):(J++[o])[j]?=J[j]?:=by
 rcases gF j (F J) with a|a;.rw[aj a]
 have b:F J<j:=by omega
 rw[bK (by simp;omega),bK a]
def jY(J:ag)(o:Ob):¬(J[F J]?=N o):=by simp
def gU.sb{w':aT}(m:gU H X R L Q S)(o:Ob)(v:Value)(i:L.grownBy w' Y) (l:∀b,js v=N b->L.heap.size<=b) (k:np L Q S w' (Q++[o]) (r7 S (F Q) v)->Ad H X w' (Q++[o]) (r7 S (F Q) v) v o) : gU H X R w' (Q++[o]) (r7 S (F Q) v)/\np L Q S w' (Q++[o]) (r7 S (F Q) v):=by
 refine m.update (F Q) Y i (by simp) (by simp) (λj d=>yA Q o j d) (λj d=>mQ S _ v j d) ?_ ?_ ?_ ?_ ?_ ?_ (λ_ _ _ _ _ _ h=>absurd h (jY Q _));.intro b e;rw[eH]at e;exact .inr (l b e)
 .intro b g u c h;exact absurd h (jY Q c)
 .intro T p h;exact absurd h (jY Q _)
 .intro K E n h;exact absurd h (jY Q _)
 .intro _ _ _ _ _ _ h;omega
 intro f c a;have:c=o:=by simpa using a.symm
 subst this;rw[eH];exact k f
inductive O where
 |t (n:Nat)
 |c (v:V)
inductive I where
 |aV (x:O)
 |pick (c a b:O)
 |box (T:Nat) (x:O)
 |alloc (T:Nat) (zs:ao)
 |build (zs:ao) (parts:List (Nat×Nat×O))
 |bN (sz:Nat) (szs:List (bP)) (xs:List O)
 |JJ (E sz by':Nat) (szs:List (bP)) (xs:List O)
 |load (k:bP) (a:O)
 |store (k:Nat) (szs:List (bP)) (a x:O)
 |dE (x:O)
 |bin (op:BinOp) (x y:O)
 |beq (neg:Bool) (ks:cy) (x y:O)
 |Yd (neg:Bool) (x y:O)
 |un (op:UnOp) (x:O)
 |Hm (k:IntKind) (x:O)
 |G5 (x:O)
 |slice (sz:Nat) (x:O) (lo hi:Option O)
 |fM (x:O) (lo hi:Option O)
 |fV (off:Nat) (x:O)
 |idx (sz:Nat) (x i:O)
 |fN (x i:O)
 |JP (n sz:Nat) (x i:O)
 |asl (n:Nat) (x:O)
 |ext (k:Nat) (x:O)
 |len (str:Bool) (x:O)
 |max2 (x y:O)
 |min2 (x y:O)
 |app (E sz by':Nat) (x y:O)
 |apps (E:Nat) (x y:O)
 |mk (E sz by':Nat) (zs:ao) (l c:O)
 |nJ (K E:Nat)
 |look (kd:Nat) (z:V) (ok:Bool) (m k:O)
 |vf (kd:Nat) (szs:List (bP)) (m k x:O)
 |BJ (x:O)
 |call (f:Nat) (args:List O)
 |l6 (x:O) (args:List O)
 |TH (f:Nat) (xs:List O)
 |Hn (sz:Nat) (zs:ao) (x:O)
 |Dx (kd:Nat) (m k:O)
 |wA (kd:Nat) (z:V) (m k:O)
 |wz (szs:List (bP)) (m s x:O)
 |range (x:O)
 |next (x:O)
 |Nz (x:O)
 |Kd (off:Nat) (x:O)
 |NS (n:Nat) (x i:O)
 |clip (sz:Nat) (x h m:O)
 |Ed (x y:O)
 |XI (E by':Nat) (l c:O)
 |stop
def yE:Value->Option V|.bool x=>N (.b x)|.int k n=>N (.i k n)|.string x=>if F x.data.toList<=maxLen then N (.s x.data.toList)else Y|.slice Y 0 0=>N .nil|.pointer Y=>N .gO|.map Y=>N .eE|_=>Y
def cO:Operand->Option O|.tmp t=>N (.t t)|.const v=>(yE v).map .c|.func f=>N (.c (.fn f []))|.global _=>Y
def Uv:List Operand->Option (List O)
 |[]=>N []
 |x::xs=>match cO x,Uv xs with
  |some y,N a=>N (y::a)
  |_,_=>Y
def jr:List Value->Option (ao)
 |[]=>N []
 |x::xs=>match yE x,jr xs with
  |some y,N a=>N (y::a)
  |_,_=>Y
def kp(P:aM)(n:Nat):List Field->Option (cy)
 |[]=>N []
 |f::fs=>if f.offset=n/\f.name ≠ "_" then match P.underlying f.type,kp P (n+1) fs with
   |some (.int _),N ks=>N (0::ks)
   |some .string,N ks=>N (1::ks)
   |some .bool,N ks=>N (2::ks)
   |_,_=>Y
  else Y
def LH:Option (cy) :=
 match G.underlying U with
 |some (.struct fs)=>if G.stoodInHeld U=Z/\G.eqGuardType G.depth U=Z then kp G 0 fs.toList else Y
 |some (.array 2 e)=>if G.eqGuardType G.depth U=Z/\G.cellsOf e=1 then match G.underlying e with
   |some (.int _)=>N [0,0]
   |_=>Y
  else Y
 |_=>Y
def U0:Bool :=
 match G.underlying U with
 |some (.int _)|some .string=>A
 |_=>Z
def TU:Bool :=
 match G.underlying U with|some .bool=>A|_=>Z
def fO:Option Bool :=
 match G.underlying U with
 |some (.struct _)|some (.array _ _)=>N A
 |some _=>N Z
 |none=>Y
def tD:Nat->List (Nat×Operand)->Option (List O)|_,[]=>N []|n,(i,x)::r=>if i=n then(match cO x,tD (n+1) r with|some y,N a=>N (y::a)|_,_=>Y)else Y
def tE(places:List (Nat×Nat)):List (Nat×Operand)->Option (List (Nat×Nat×O))
 |[]=>N []
 |(i,x)::r=>match places[i]?,cO x,tE places r with
  |some (a,b),N y,N c=>N ((a,b,y)::c)
  |_,_,_=>Y
def placesOf(a:List Field):Option (List (Nat×Nat)):=a.mapM λf=>(G.info? f.type).map λi=>(f.offset,i.size)
def Zj:cy->bP|[1,1]=>N 4|[0,1,0]=>N 5|_=>Y
def kD:bP :=
 match G.underlying U with
 |some (.int _)=>N 0
 |some .string=>N 1
 |some (.struct fs)=>if G.stoodInHeld U=Z then(kp G 0 fs.toList).bind Zj else Y
 |some (.array 2 e)=>match G.underlying e with
  |some (.int _)=>if G.cellsOf e=1 then N 3 else Y
  |_=>Y
 |_=>Y
def lE(k:V):Bool:=match U with
 |3=>(match k with
  |.agg [.i _ _,.i _ _]=>A
  |_=>Z)
 |4=>(match k with
  |.agg [.s _,.s _]=>A
  |_=>Z)
 |5=>(match k with
  |.agg [.i _ _,.s _,.i _ _]=>A
  |_=>Z)
 |_=>k.qE
def vg{k:V}(h:lE X k=A):k.qE=A:=by
 unfold lE at h;split at h
 .split at h;.rfl
  simp at h
 .split at h;.rfl
  simp at h
 .split at h;.rfl
  simp at h
 exact h
def VU(k:V):lE 0 k=k.qE:=rfl
def VT(k:V):lE 1 k=k.qE:=rfl
def VS(k l:IntKind)(a b:Int):lE 3 (.agg [.i k a,.i l b])=A:=rfl
def VQ(a b:aJ):lE 4 (.agg [.s a,.s b])=A:=rfl
def VP(k l:IntKind)(a b:Int)(c:aJ):lE 5 (.agg [.i k a,.s c,.i l b])=A:=rfl
def uw:Option Operand->Option (Option O)|none=>N Y|some x=>(cO x).map N
def yp:BinOp->Bool
 |.eql|.neq=>A
 |_=>Z
def ot(P:aM):Nat->Nat->List (bP)
 |0,_=>[]
 |d+1,T=>match P.underlying T with
  |some (.slice e)=>[N (P.cellsOf e)]
  |some (.struct fs)=>fs.toList.flatMap λf=>ot P d f.type
  |_=>[Y]
def nE:bP->V->V|some sz,.nil=>.sl sz []|_,.lit sz xs=>.sl sz xs|_,x=>x
def cZ:List (bP)->ao->ao|s::ss,x::a=>nE s x::cZ ss a|_,a=>a
def dB(a:List (bP)):V->V|.agg xs=>.agg (cZ a xs)|y=>y
def zeroV:Option V :=
 match G.info? U with
 |some t=>match t.zero with
  |some (.agg cs)=>(jr cs.toList).map λzs=>.agg (cZ (ot G 6 U) zs)
  |some z=>yE z
  |none=>Y
 |none=>Y
def IV:Value->Bool|.int .u8 0=>A|_=>Z
def kQ(c:Call):Option I :=
 match c.callee,c.args.toList,c.argTypes.toList with
 |.builtin .len,[x],[T]=>match G.underlying T,cO x with
  |some .string,N x=>N (.len A x)
  |some (.slice _),N x=>N (.len Z x)
  |some (.map _ _),N x=>N (.BJ x)
  |_,_=>Y
 |.builtin .max,[x,y],_=>match cO x,cO y with
  |some x,N y=>N (.max2 x y)
  |_,_=>Y
 |.builtin .min,[x,y],_=>match cO x,cO y with
  |some x,N y=>N (.min2 x y)
  |_,_=>Y
 |.builtin .append,[x,y],[T,U]=>match G.underlying T,cO x,cO y with
  |some (.slice E),N x,N y=>match G.info? E with
   |some t=>match t.zero with
    |some z=>if T=U then(if 0<t.size/\z.cells.size=t.size then N (.app E t.size t.bytes x y)else Y)
     else match G.underlying U with
      |some .string=>if t.size=1/\t.bytes=1/\IV z=A then N (.apps E x y)else Y
      |_=>Y
    |none=>Y
   |none=>Y
  |_,_,_=>Y
 |.builtin .delete,[m,k],[T,K']=>match G.underlying T,cO m,cO k with
  |some (.map K _),N m,N k=>if K'=K then(kD G K).map λd=>.Dx d m k else Y
  |_,_,_=>Y
 |.builtin .clear,[x],[T]=>match G.underlying T,cO x with
  |some (.slice E),N x=>match G.info? E with
   |some t=>match t.zero with
    |some z=>if 0<t.size/\z.cells.size=t.size then(jr z.cells.toList).map λzs=>.Hn t.size (cZ (ot G 6 E) zs) x else Y
    |none=>Y
   |none=>Y
  |_,_=>Y
 |.value (.func f),a,_=>match G.funcs[f]? with
  |some b=>if b.body.isSome/\b.name ≠ "runtime.NumGoroutine" then(Uv a).map (.call f)
   else if b.body.isNone/\b.name = "math/bits.Sub64" /\ b.origin = "" then match Uv a with
    |some [x,y,.c (.i .u64 0)]=>N (.Ed x y)
    |_=>Y
   else Y
  |none=>Y
 |.value (.tmp t),a,_=>(Uv a).map (.l6 (.t t))
 |_,_,_=>Y
def adw:bP->Nat->List O->Bool|some 23,_,[.t 18,.t 20,.t 22]=>A|some 46,_,[.t 45]=>A|some 53,2,[.t 52]=>A|some 79,11,[.t 78]=>A|_,_,_=>Z
def M9:BinOp->Bool|.neq=>A|_=>Z
def compile(o:Oper):Option I :=
 match o.op with
 |.move x|.assign x=>(cO x).map .aV
 |.pick c a b=>match cO c,cO a,cO b with
  |some c,some a,some b=>some (.pick c a b)
  |_,_,_=>Y
 |.box T x=>(cO x).map (.box T)
 |.alloc T=>match G.info? T with
  |some t=>match t.zero with
   |some z=>(jr z.cells.toList).map (.alloc T)
   |none=>Y
  |none=>Y
 |.build T parts=>match G.info? T,G.underlying T with
  |some t,some (.struct fs)=>match t.zero with
   |some z=>match jr z.cells.toList,placesOf G fs.toList with
    |some zs,some places=>(tE places parts.toList).map (.build zs)
    |_,_=>Y
   |none=>Y
  |some t,some (.array n E)=>match t.zero,G.info? E with
   |some z,some te=>match jr z.cells.toList with
    |some zs=>(tE ((List.range n).map λi=>(i*te.size,te.size)) parts.toList).map (.build zs)
    |none=>Y
   |_,_=>Y
  |_,_=>Y
 |.buildSlice T len parts=>match G.underlying T with
  |some (.slice E)=>match G.info? E with
   |some t=>match t.zero with
    |some z=>if parts.size=len/\0<t.size/\z.cells.size=t.size/\len*t.size<=2^24 then(tD 0 parts.toList).map λq=>if adw o.dst t.size q=true then .JJ E t.size t.bytes (ot G 6 E) q else .bN t.size (ot G 6 E) q else Y
    |none=>Y
   |none=>Y
  |_=>Y
 |.load T a=>match cO a,fO G T,G.info? T with
  |some a,some true,some t=>some (.load (some t.size) a)
  |some a,some Z,some _=>some (.load Y a)
  |_,_,_=>Y
 |.store T a x=>match cO a,cO x,G.info? T with
  |some a,some x,some t=>some (.store t.size (ot G 6 T) a x)
  |_,_,_=>Y
 |.nilCheck x=>(cO x).map .dE
 |.binOp op T x y _=>match cO x,cO y with
  |some x,some y=>if yp op then(if U0 G T then some (.bin op x y)else if TU G T then some (.Yd (M9 op) x y)else(LH G T).map λr=>.beq (M9 op) r x y)else some (.bin op x y)
  |_,_=>Y
 |.unOp op _ x=>(cO x).map (.un op)
 |.convert s d x=>match G.underlying s,G.underlying d,cO x with
  |some (.int _),some (.int k),some x=>some (.Hm k x)
  |some (.slice e),some .string,some x=>match G.underlying e with
   |some (.int .u8)=>some (.G5 x)
   |_=>Y
  |_,_,_=>Y
 |.slice T x lo hi Y=>match G.underlying T,cO x,uw lo,uw hi with
  |some .string,some x,some lo,some hi=>some (.fM x lo hi)
  |some (.slice E),some x,some lo,some hi=>match G.info? E with
   |some t=>some (.slice t.size x lo hi)
   |none=>Y
  |some (.array n E),some x,some Y,some Y=>match G.info? E with
   |some t=>if t.size=1/\n<=1024 then some (.asl n x)else Y
   |none=>Y
  |_,_,_,_=>Y
 |.slice T x Y (some h) (some m)=>match G.underlying T,cO x,cO h,cO m with
  |some (.slice E),some x,some h,some m=>match G.info? E with
   |some t=>some (.clip t.size x h m)
   |none=>Y
  |_,_,_,_=>Y
 |.fieldAddr T x f=>match G.underlying T,cO x with
  |some (.struct fs),some x=>match fs[f]? with
   |some g=>match G.info? g.type with
    |some t=>if t.size=0 then Y else some (.fV g.offset x)
    |none=>Y
   |none=>Y
  |_,_=>Y
 |.indexAddr T x i=>match G.underlying T,cO x,cO i with
  |some (.slice E),some x,some i=>match G.info? E with
   |some t=>some (.idx t.size x i)
   |none=>Y
  |some (.array n E),some x,some i=>match G.info? E with
   |some t=>some (.JP n t.size x i)
   |none=>Y
  |_,_,_=>Y
 |.index T x i=>match G.underlying T,cO x,cO i with
  |some .string,some x,some i=>some (.fN x i)
  |some (.array n E),some x,some i=>if fO G E=some Z/\G.cellsOf E=1 then some (.NS n x i)else Y
  |_,_,_=>Y
 |.extract t k=>(cO t).map (.ext k)
 |.field T x f=>match G.underlying T,cO x with
  |some (.struct fs),some x=>match fs[f]? with
   |some g=>if fO G g.type=some Z then some (.Kd g.offset x)else Y
   |none=>Y
  |_,_=>Y
 |.makeSlice T l c=>match G.underlying T with
  |some (.slice E)=>match G.info? E with
   |some t=>match t.zero,cO l,cO c with
    |some (.slice Y 0 0),some l,some c=>if t.size=1 then some (.XI E t.bytes l c)else Y
    |some z,some l,some c=>if 0<t.size/\z.cells.size=t.size then(jr z.cells.toList).map λzs=>.mk E t.size t.bytes (cZ (ot G 6 E) zs) l c else Y
    |_,_,_=>Y
   |none=>Y
  |_=>Y
 |.lookup T m k ok=>match G.underlying T,cO m,cO k with
  |some (.map K E),some m,some k=>match kD G K,zeroV G E with
   |some j,some z=>some (.look j z ok m k)
   |_,_=>Y
  |_,_,_=>Y
 |.mapUpdate T m k x=>match G.underlying T,cO m,cO k,cO x with
  |some (.map K E),some m,some k,some x=>(kD G K).map λj=>.vf j (ot G 6 E) m k x
  |_,_,_,_=>Y
 |.mapEntry T m k=>match G.underlying T,cO m,cO k with
  |some (.map K E),some m,some k=>match kD G K,zeroV G E with
   |some j,some z=>some (.wA j z m k)
   |_,_=>Y
  |_,_,_=>Y
 |.entryStore T m s x=>match G.underlying T,cO m,cO s,cO x with
  |some (.map _ E),some m,some s,some x=>some (.wz (ot G 6 E) m s x)
  |_,_,_,_=>Y
 |.range T x=>match G.underlying T,cO x with
  |some (.map _ _),some x=>some (.range x)
  |_,_=>Y
 |.next x Z=>(cO x).map .next
 |.entry x=>(cO x).map .Nz
 |.makeMap T Y=>match G.underlying T with
  |some (.map K E)=>some (.nJ K E)
  |_=>Y
 |.call c=>kQ G c
 |.makeFunc (.func f) first p=>if first.size=0 then(Uv p.toList).map (.TH f)else Y
 |_=>Y
def ev(a:ao):O->V|.t n=>a.getD n .u|.c v=>v
def fH:V->ao|.agg xs=>xs|x=>[x]
def gA(J:ag):V->Bool
 |.u|.agg _|.gy _|.it _|.sy _ _=>Z
 |.own id g=>match J[id]? with
  |some (.row _ _ _ g' _ _)=>g==g'
  |_=>Z
 |.sub id g _ _=>match J[id]? with
  |some (.row _ _ _ g' _ _)=>g==g'
  |_=>Z
 |.rp id g _ _=>match J[id]? with
  |some (.row _ _ _ g' _ _)=>g==g'
  |_=>Z
 |_=>A
def gD(J:ag)(x:V):Bool:=match x with|.agg xs=>xs.all (gA J)|x=>gA J x
def uS(cells:ao):List (Nat×Nat×ao)->Option (ao)|[]=>N cells|(off,sz,x)::r=>if F x=sz/\off+sz<=F cells then uS (cells.take off++x++cells.drop (off+sz)) r else Y
def KQ:ao->ao->Option Bool|[.i k a,.i l b],[.i k' a',.i l' b']=>if k=k'/\l=l' then N (a==a'&&b==b')else Y|_,_=>Y
def A2:ao->ao->Option Bool|[.s a,.s b],[.s a',.s b']=>N (a==a'&&b==b')|_,_=>Y
def HB:ao->ao->Option Bool|[.i k a,.s b,.i l c],[.i k' a',.s b',.i l' c']=>if k=k'/\l=l' then N (a==a'&&(b==b'&&c==c'))else Y|_,_=>Y
def cA:Nat->V->V->Option Bool|0,.i k a,.i k' b=>if k=k' then N (a==b)else Y|1,.s a,.s b=>N (a==b)|2,.b a,.b b=>N (a==b)|3,.agg xs,.agg ys=>KQ xs ys|4,.agg xs,.agg ys=>A2 xs ys|5,.agg xs,.agg ys=>HB xs ys|_,_,_=>Y
def fu:cy->ao->ao->Option Bool
 |[],[],[]=>N A
 |k::ks,x::xs,y::ys=>match cA k x y,fu ks xs ys with
  |some p,N q=>N (p&&q)
  |_,_=>Y
 |_,_,_=>Y
def gK(c:BinOp):V->V->Option (Prop×V)
 |.i k a,.i k' b=>match c with
  |.shl=>N (0<=b,.i k (k.wrap (a*2^(min b.toNat k.bits))))
  |.shr=>N (0<=b,.i k (a.fdiv (2^(min b.toNat k.bits))))
  |_=>if k=k' then match c with
   |.add=>N (True,.i k (k.wrap (a+b)))
   |.sub=>N (True,.i k (k.wrap (a - b)))
   |.mul=>N (True,.i k (k.wrap (a*b)))
   |.quo=>N (b≠0,.i k (k.wrap (a.tdiv b)))
   |.rem=>N (b≠0,.i k (a.tmod b))
   |.and=>N (True,.i k (k.wrap ((BitVec.ofInt k.bits a &&& BitVec.ofInt k.bits b).toNat:Int)))
   |.or=>N (True,.i k (k.wrap ((BitVec.ofInt k.bits a ||| BitVec.ofInt k.bits b).toNat:Int)))
   |.xor=>N (True,.i k (k.wrap ((BitVec.ofInt k.bits a ^^^ BitVec.ofInt k.bits b).toNat:Int)))
   |.eql=>N (True,.b (a==b))
   |.neq=>N (True,.b (a != b))
   |.lss=>N (True,.b (a<b))
   |.leq=>N (True,.b (a<=b))
   |.gtr=>N (True,.b (b<a))
   |.geq=>N (True,.b (b<=a))
   |_=>Y
   else Y
 |.s a,.s b=>match c with
  |.add=>N (F a+F b<=maxLen,.s (a++b))
  |.eql=>N (True,.b (a==b))
  |.neq=>N (True,.b (!(a==b)))
  |.lss=>N (True,.b (Op.bytesLess a b))
  |.leq=>N (True,.b (Op.bytesLess a b||a==b))
  |.gtr=>N (True,.b (!(Op.bytesLess a b||a==b)))
  |.geq=>N (True,.b (!Op.bytesLess a b))
  |_=>Y
 |_,_=>Y
def rowsOf(J:ag)(a:Nat):V->Option (cD)
 |.nil=>N []
 |.lit sz' xs=>if sz'=a then N xs else Y
 |.sl sz' xs=>if sz'=a then N xs else Y
 |.own id g=>match J[id]? with
  |some (.row _ sz' _ g' _ xs)=>if g=g'/\sz'=a then N xs else Y
  |_=>Y
 |.sub id g lo hi=>match J[id]? with
  |some (.row _ sz' _ g' _ xs)=>if g=g'/\sz'=a then N ((xs.drop lo).take (hi - lo))else Y
  |_=>Y
 |_=>Y
def qV:ao->Option UInt8|[.i .u8 n]=>N (UInt8.ofNat n.toNat)|_=>Y
def bytesOf:cD->Option (aJ)
 |[]=>N []
 |r::rs=>match qV r,bytesOf rs with
  |some x,N a=>N (x::a)
  |_,_=>Y
def eL(b:Nat)(k:V):List (V×V)->Nat->Option (Option (Nat×V))
 |[],_=>N Y
 |(a,x)::es,i=>match cA b k a with
  |some A=>N (N (i,x))
  |some Z=>eL b k es (i+1)
  |none=>Y
def c8(J:ag)(a:Nat)(m k:V):Option (Option (Nat×V)) :=
 match m with
 |.eE=>N Y
 |.mp id=>match J[id]? with
  |some (.map _ _ es)=>eL a k es 0
  |_=>Y
 |_=>Y
def ba(e:ao)(J:ag):I->Option (Prop×V)
 |.aV x=>some (True,ev e x)
 |.pick c a b=>match ev e c with
  |.b x=>some (True,match ev e a,ev e b with
   |.b p,.b q=>.b (bif x then p else q)
   |p,q=>bif x then p else q)
  |_=>Y
 |.build zs parts=>match uS zs (parts.map λ(t,v,x)=>(t,v,fH (ev e x)))with
  |some w=>some (∀p∈parts,gD J (ev e p.2.2)=A,.agg w)
  |none=>Y
 |.bN v szs d=>some ((∀x∈d,gD J (ev e x)=A)/\∀r∈d.map λx=>cZ szs (fH (ev e x)),F r=v/\∀c∈r,c.pure=A,.lit v (d.map λx=>cZ szs (fH (ev e x))))
 |.load k a=>match ev e a with
  |.ptr id t=>match J[id]? with
   |some (.box _ w)=>match k with
    |none=>match w[t]? with
     |some x=>some (True,x)
     |none=>Y
    |some n=>some (t+n<=F w,.agg ((w.drop t).take n))
   |_=>Y
  |.ep _ d i t=>match k with
   |none=>match gp d i t with
    |some x=>some (True,x)
    |none=>Y
   |some n=>some (t+n<=F (d.getD i []),.agg (((d.getD i []).drop t).take n))
  |.rp id g i t=>match J[id]? with
   |some (.row _ _ _ g' _ d)=>if g=g' then match k with
    |none=>match gp d i t with
     |some x=>some (True,x)
     |none=>Y
    |some n=>some (t+n<=F (d.getD i []),.agg (((d.getD i []).drop t).take n))
    else Y
   |_=>Y
  |_=>Y
 |.dE x=>match ev e x with
  |.ptr id t=>some (True,.ptr id t)
  |.ep v d i t=>some (True,.ep v d i t)
  |.rp id g i t=>match J[id]? with
   |some (.row _ _ _ g' _ _)=>if g=g' then some (True,.rp id g i t)else Y
   |_=>Y
  |_=>Y
 |.bin op x y=>gK op (ev e x) (ev e y)
 |.beq neg ks x y=>match ev e x,ev e y with
  |.agg d,.agg ys=>match fu ks d ys with
   |some r=>some (True,.b (bif neg then !r else r))
   |none=>Y
  |_,_=>Y
 |.Yd neg x y=>match ev e x,ev e y with
  |.b p,.b q=>some (True,.b (bif neg then !(p==q)else(p==q)))
  |_,_=>Y
 |.un op x=>match op,ev e x with
  |.not,.b p=>some (True,.b (!p))
  |.neg,.i k n=>some (True,.i k (k.wrap (0 - n)))
  |_,_=>Y
 |.Hm k x=>match ev e x with
  |.i _ n=>some (True,.i k (k.wrap n))
  |_=>Y
 |.G5 x=>match rowsOf J 1 (ev e x)with
  |some d=>match bytesOf d with
   |some l=>some (True,.s l)
   |none=>Y
  |none=>Y
 |.slice v x lo hi =>
  let n:bP:=match ev e x with
   |.nil=>some 0
   |.lit sz' d=>if sz'=v then some (F d) else Y
   |.sl sz' d=>if sz'=v then some (F d) else Y
   |.own id g=>match J[id]? with
    |some (.row _ sz' _ g' _ d)=>if g=g'/\sz'=v then some (F d) else Y
    |_=>Y
   |_=>Y
  match n with
  |none=>Y
  |some n =>
   let l:uA:=match lo with
    |none=>some 0
    |some x=>match ev e x with
     |.i _ a=>some a
     |_=>Y
   let h:uA:=match hi with
    |none=>some n
    |some x=>match ev e x with
     |.i _ a=>some a
     |_=>Y
   match l,h with
   |some l,some h=>match ev e x with
    |.nil=>some (l=0/\h=0,.nil)
    |.lit _ d=>some (0<=l/\l<=h/\h<=n,.sl v ((d.drop l.toNat).take (h.toNat - l.toNat)))
    |.sl _ d=>some (0<=l/\l<=h/\h<=n,.sl v ((d.drop l.toNat).take (h.toNat - l.toNat)))
    |.own id g=>some (0<=l/\l<=h/\h<=n,.sub id g l.toNat h.toNat)
    |_=>Y
   |_,_=>Y
 |.fM x lo hi=>match ev e x with
  |.s a =>
   let l:uA:=match lo with
    |none=>some 0
    |some x=>match ev e x with
     |.i _ a=>some a
     |_=>Y
   let h:uA:=match hi with
    |none=>some (F a)
    |some x=>match ev e x with
     |.i _ a=>some a
     |_=>Y
   match l,h with
   |some l,some h=>some (0<=l/\l<=h/\h<=F a,.s ((a.drop l.toNat).take (h.toNat - l.toNat)))
   |_,_=>Y
  |_=>Y
 |.fV t x=>match ev e x with
  |.ptr id o=>some (True,.ptr id (o+t))
  |.ep v d i o=>some (True,.ep v d i (o+t))
  |.rp id g i o=>match J[id]? with
   |some (.row _ _ _ g' _ _)=>if g=g' then some (True,.rp id g i (o+t))else Y
   |_=>Y
  |_=>Y
 |.idx v x i=>match ev e i with
  |.i _ n=>match ev e x with
   |.sl sz' d=>if sz'=v then some (0<=n/\n<F d,.ep v d n.toNat 0)else Y
   |.lit sz' d=>if sz'=v then some (0<=n/\n<F d,.ep v d n.toNat 0)else Y
   |.own id g=>match J[id]? with
    |some (.row _ sz' _ g' _ d)=>if g=g'/\sz'=v then some (0<=n/\n<F d,.rp id g n.toNat 0)else Y
    |_=>Y
   |.sub id g lo hi=>match J[id]? with
    |some (.row _ sz' _ g' _ _)=>if g=g'/\sz'=v then some (0<=n/\n<(hi - lo:Nat),.rp id g (lo+n.toNat) 0)else Y
    |_=>Y
   |.sy id m=>if v=1 then some (0<=n/\n<m,.ptr id n.toNat)else Y
   |_=>Y
  |_=>Y
 |.JP n v x i=>match ev e x,ev e i with
  |.ptr id o,.i _ k=>some (0<=k/\k<n,.ptr id (o+k.toNat*v))
  |_,_=>Y
 |.asl n x=>match ev e x with
  |.ep _ d i 0=>if(d.getD i []).length=n then some (n<=1024,.sl 1 ((d.getD i []).map λc=>[c]))else Y
  |_=>Y
 |.fN x i=>match ev e x,ev e i with
  |.s l,.i _ n=>some (0<=n/\n<F l,.i .u8 (l.getD n.toNat 0).toNat)
  |_,_=>Y
 |.ext k x=>match ev e x with
  |.gy d=>match d[k]? with
   |some y=>some (True,y)
   |none=>Y
  |_=>Y
 |.len A x=>match ev e x with
  |.s l=>some (True,.i .i64 (F l))
  |_=>Y
 |.len Z x=>match ev e x with
  |.nil=>some (True,.i .i64 0)
  |.lit _ d=>some (True,.i .i64 (F d))
  |.sl _ d=>some (True,.i .i64 (F d))
  |.own id g=>match J[id]? with
   |some (.row _ _ _ g' _ d)=>if g=g' then some (True,.i .i64 (F d))else Y
   |_=>Y
  |.sub id g lo hi=>match J[id]? with
   |some (.row _ _ _ g' _ _)=>if g=g' then some (True,.i .i64 (hi - lo:Nat))else Y
   |_=>Y
  |.sy _ n=>some (True,.i .i64 n)
  |_=>Y
 |.BJ x=>match ev e x with
  |.eE=>some (True,.i .i64 0)
  |.mp id=>match J[id]? with
   |some (.map _ _ es)=>some (True,.i .i64 (F es))
   |_=>Y
  |_=>Y
 |.look kd z ok m k=>match c8 J kd (ev e m) (ev e k)with
  |some Y=>some (lE kd (ev e k)=A,if ok then .gy [z,.b Z]else z)
  |some (some (_,x))=>some (lE kd (ev e k)=A,if ok then .gy [x,.b A]else x)
  |none=>Y
 |.max2 x y=>match ev e x,ev e y with
  |.i k a,.i _ b=>some (True,.i k (if a<b then b else a))
  |_,_=>Y
 |.min2 x y=>match ev e x,ev e y with
  |.i k a,.i _ b=>some (True,.i k (if b<a then b else a))
  |_,_=>Y
 |.TH f d=>some (True,.fn f (d.map (ev e)))
 |.Kd t x=>match ev e x with
  |.agg d=>match d[t]? with
   |some y=>some (True,y)
   |none=>Y
  |_=>Y
 |.NS n x i=>match ev e x,ev e i with
  |.agg d,.i _ k=>some (0<=k/\k<n/\F d=n,d.getD k.toNat .u)
  |_,_=>Y
 |.Ed x y=>match ev e x,ev e y with
  |.i .u64 p,.i .u64 q=>some (0<=p/\0<=q/\q<18446744073709551616,.gy [.i .u64 ((p+18446744073709551616 - q) % 18446744073709551616),.i .u64 (if p<q then 1 else 0)])
  |_,_=>Y
 |.clip v x h m=>match ev e h,ev e m with
  |.i _ p,.i _ q=>match ev e x with
   |.sl sz' d=>if sz'=v then some (0<=p/\p<=q/\q<=F d,.sl v (d.take p.toNat))else Y
   |_=>Y
  |_,_=>Y
 |.Nz x=>match ev e x with
  |.it j=>match J[j]? with
   |some (.iter Z m E n _ (some c))=>match J[m]? with
    |some (.map _ E' es)=>if E'=E/\F es=n then match es[c]? with
     |some (k,y)=>some (True,.gy [k,y])
     |none=>Y
     else Y
    |_=>Y
   |_=>Y
  |_=>Y
 |_=>Y
def xu(c a:Nat)(J:ag)(x:V)(b:cD):Option (Prop×V×ag) :=
 match x with
 |.nil=>N (F b*a<=2^47/\F b<=maxLen,.own (F J) 0,J++[.row U c a 0 Z b])
 |.lit sz' xs=>if sz'=c then N ((F xs+F b)*a<=2^47/\F xs+F b<=maxLen,
   if b.isEmpty then .lit c xs else .own (F J) 0,if b.isEmpty then J else J++[.row U c a 0 Z (xs++b)])else Y
 |.own id g=>match J[id]? with
  |some (.row E' sz' by2 g' sh xs)=>if g=g'/\U=E'/\c=sz'/\a=by2 then
    N ((F xs+F b)*a<=2^47/\F xs+F b<=maxLen,.own id (g+1),J.set id (.row U c a (g+1) sh (xs++b)))
   else Y
  |_=>Y
 |.sub id g lo hi=>match J[id]? with
  |some (.row E' sz' by2 g' sh xs)=>if g=g'/\U=E'/\c=sz'/\a=by2/\lo=0/\sh=Z then
    N (hi<=F xs/\(hi+F b)*a<=2^47/\hi+F b<=maxLen,.own id (g+1),J.set id (.row U c a (g+1) Z (xs.take hi++b)))
   else Y
  |_=>Y
 |_=>Y
def ee(l:aJ):cD:=l.map λc=>[V.i .u8 c.toNat]
def cc(b:ao)(J:ag):I->Option (Prop×V×ag)
 |.box T x=>N (gD J (ev b x)=true,.ptr (F J) 0,J++[.box T (fH (ev b x))])
 |.alloc T zs=>N (True,.ptr (F J) 0,J++[.box T zs])
 |.store k szs a x=>match ev b a with
  |.ptr id off=>match J[id]? with
   |some (.box T cs)=>N (gD J (ev b x)=true/\F (fH (ev b x))=k/\off+k<=F cs,.u,J.set id (.box T (cs.take off++fH (ev b x)++cs.drop (off+k))))
   |_=>Y
  |.rp id g i off=>match J[id]? with
   |some (.row E sz by' g' sh xs)=>if g=g'/\sh=Z then
     N (gD J (ev b x)=true/\(∀c∈cZ szs (fH (ev b x)),c.pure=true)/\F (fH (ev b x))=k/\off+k<=sz/\i<F xs,.u,
      J.set id (.row E sz by' g sh (xs.set i ((xs.getD i []).take off++cZ szs (fH (ev b x))++(xs.getD i []).drop (off+k)))))
    else Y
   |_=>Y
  |_=>Y
 |.app E sz by' x y=>match rowsOf J sz (ev b y)with
  |some e=>xu E sz by' J (ev b x) e
  |none=>Y
 |.apps E x y=>match ev b y with
  |.s l=>xu E 1 1 J (ev b x) (ee l)
  |_=>Y
 |.mk E sz by' zs l c=>match ev b l,ev b c with
  |.i _ n,.i _ m=>N (0<=n/\(n=m\/n=0)/\0<=m/\m*by'<=2^48/\m<=maxLen/\(∀z∈zs,z.pure=true),.own (F J) 0,J++[.row E sz by' 0 Z (List.replicate n.toNat zs)])
  |_,_=>Y
 |.nJ K E=>N (True,.mp (F J),J++[.map K E []])
 |.Hn sz zs x=>match ev b x with
  |.sub id g lo hi=>match J[id]? with
   |some (.row E sz' by' g' sh xs)=>if g=g'/\sz'=sz/\sh=Z then
     N (∀z∈zs,z.pure=true,.gy [],J.set id (.row E sz' by' g' sh (xs.take lo++List.replicate (hi - lo) zs++xs.drop hi)))
    else Y
   |_=>Y
  |_=>Y
 |.JJ E sz by' szs xs=>N ((∀x∈xs,gD J (ev b x)=true)/\∀r∈xs.map λx=>cZ szs (fH (ev b x)),F r=sz/\∀c∈r,c.pure=true,.own (F J) 0,J++[.row E sz by' 0 Z (xs.map λx=>cZ szs (fH (ev b x)))])
 |.vf kd szs m k x =>
  let d:=dB szs (ev b x)
  match ev b m with
  |.mp id=>match J[id]? with
   |some (.map K E es)=>match eL kd (ev b k) es 0 with
    |some Y=>N (lE kd (ev b k)=true/\d.jG=true,.u,J.set id (.map K E (es++[(ev b k,d)])))
    |some (N (i,_))=>N (lE kd (ev b k)=true/\d.jG=true,.u,J.set id (.map K E (es.set i (ev b k,d))))
    |none=>Y
   |_=>Y
  |_=>Y
 |.Dx kd m k=>match ev b m with
  |.mp id=>match J[id]? with
   |some (.map K E es)=>match eL kd (ev b k) es 0 with
    |some Y=>N (lE kd (ev b k)=true,.gy [],J)
    |some (N (i,_))=>N (lE kd (ev b k)=true,.gy [],J.set id (.map K (E+1) (es.eraseIdx i)))
    |none=>Y
   |_=>Y
  |_=>Y
 |.wA kd z m k=>match ev b m with
  |.mp id=>match J[id]? with
   |some (.map K E es)=>match eL kd (ev b k) es 0 with
    |some Y=>N (lE kd (ev b k)=true/\z.jG=true,.gy [z,.it (F J)],J.set id (.map K E (es++[(ev b k,z)]))++[.iter true id E (F es+1) [] (N (F es))])
    |some (N (i,x))=>N (lE kd (ev b k)=true,.gy [x,.it (F J)],J++[.iter true id E (F es) [] (N i)])
    |none=>Y
   |_=>Y
  |_=>Y
 |.wz szs m s x =>
  let d:=dB szs (ev b x)
  match ev b m,ev b s with
  |.mp id,.it j=>match J[id]?,J[j]? with
   |some (.map K E es),N (.iter true id' E' _ _ (N c))=>if id'=id/\E'=E then match es[c]? with
    |some (k,_)=>N (d.jG=true,.u,J.set id (.map K E (es.set c (k,d))))
    |none=>Y
    else Y
   |_,_=>Y
  |_,_=>Y
 |.range x=>match ev b x with
  |.mp id=>match J[id]? with
   |some (.map _ E es)=>N (True,.it (F J),J++[.iter Z id E (F es) (List.range (F es)) Y])
   |_=>Y
  |_=>Y
 |.XI E by' l c=>match ev b l,ev b c with
  |.i _ n,.i _ m=>N (n=m/\0<=n/\n*by'<=2^48/\n<=maxLen,.sy (F J) n.toNat,J++[.box E (List.replicate n.toNat .nil)])
  |_,_=>Y
 |_=>Y
def BH(J:ag)(x:V):Option (Nat×Nat×Nat×Nat×cy) :=
 match x with
 |.it j=>match J[j]? with
  |some (.iter Z m E n ps _)=>match J[m]? with
   |some (.map _ E' es)=>if E'=E/\F es=n then N (j,m,E,n,ps)else Y
   |_=>Y
  |_=>Y
 |_=>Y
end Go.Pm

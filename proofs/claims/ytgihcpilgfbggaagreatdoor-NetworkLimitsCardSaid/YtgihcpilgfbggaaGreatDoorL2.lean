/- A part of the proof that for every input the law NetworkLimits returns true and leaves its argument as it was. -/
import Derived.Calls
import Derived.Below
import Derived.Laws.AppendOwn
import Derived.Laws.OwnMore
import Derived.Lib.LaidTab
set_option linter.all false
namespace Go
def AZ.{u}:=@Array.getElem?_setIfInBounds_self_of_lt.{u}
def C4:=@Nat.mul_one
def C5.{u}:=@List.take_take.{u}
def C6.{u}:=@List.set_append_left.{u}
def C7.{u}:=@List.drop_zero.{u}
def Df:=@Iff.rfl
def Fk.{u}:=@List.replicate_zero.{u}
def Fl.{u}:=@List.replicate_succ.{u}
def Fm.{u}:=@Array.toList_append.{u}
def G4:=@Int.not_lt
def G5:=@Int.emod_lt_of_pos
def G6:=@Bool.true_eq_false
def Kg:=@UInt8.not_lt
def Kh.{u}:=@Ne.symm.{u}
def Ki:=@Nat.le_of_eq
def Kj.{u}:=@List.all_nil.{u}
def Kk:=@Int.ofNat_le
def NF.{u}:=@Option.getD_none.{u}
def NG:=@Nat.le_add_right
def NH.{u,v}:=@List.mem_flatMap.{u,v}
def NI.{u,v}:=@List.lookup_cons.{u,v}
def NJ.{u,v}:=@List.getElem_map.{u,v}
def NK.{u}:=@Array.eq_empty_of_size_eq_zero.{u}
def QA:=@Int.emod_nonneg
def Qx:=@UInt8.toNat_inj
def Qy:=@Nat.div_add_mod
def Qz.{u}:=@List.filter_nil.{u}
def TW.{u}:=@List.nodup_iff_pairwise_ne.{u}
def TX.{u}:=@List.drop_take.{u}
def TY.{u}:=@List.append_cancel_left_eq.{u}
def Ug.{u}:=@List.mem_or_eq_of_mem_set.{u}
def XL.{u}:=@List.take_nil.{u}
def XM.{u,v}:=@List.length_filterMap_le.{u,v}
def XN.{u}:=@List.eq_of_mem_replicate.{u}
def XO.{u}:=@List.drop_nil.{u}
def XP.{u}:=@List.Pairwise.imp_of_mem.{u}
def Yf:=@Nat.pos_of_mul_pos_left
def Yg:=@Nat.le_mul_of_pos_right
def Yh.{u}:=@List.pairwise_mergeSort.{u}
def Yi.{u}:=@List.getElem?_set_self'.{u}
def aA.{u,v}:=@Prod.mk.injEq.{u,v}
def aB:=@Bool.and_eq_true
def aC.{u}:=@List.getD_cons_succ.{u}
def aF:=@Bool.false_eq_true
def aG.{u}:=@List.nil_append.{u}
def aH:=@Int.toNat_natCast
def aI:=@Nat.zero_add
def aJ.{u}:=@List.cons_append.{u}
def aL.{u}:=@Array.length_toList.{u}
def aM.{u}:=@List.getElem?_append_right.{u}
def aN.{u}:=@List.mem_of_getElem?.{u}
def aO.{u}:=@List.getElem?_set_ne.{u}
def aW.{u,v}:=@List.map_cons.{u,v}
def aY.{u}:=@List.mem_cons.{u}
def aZ.{u,v}:=@List.map_nil.{u,v}
def aa.{u}:=@Option.some.injEq.{u}
def aaX:=@List.pairwise_lt_range
def ab.{u}:=@List.getElem?_eq_some_iff.{u}
def ae.{u,v}:=@List.length_map.{u,v}
def ag.{u}:=@List.length_cons.{u}
def ai.{u}:=@List.length_nil.{u}
def ak.{u,v}:=@Option.map_eq_some_iff.{u,v}
def ao.{u}:=@List.getElem?_eq_getElem.{u}
def aq.{u}:=@List.getElem?_set_self.{u}
def ar.{u}:=@List.getD_cons_zero.{u}
def aw:=@Nat.le_refl
def ax.{u}:=@List.getElem?_cons_zero.{u}
def az.{u}:=@List.getElem?_append_left.{u}
def bA:=@Bool.false_and
def bB.{u}:=@List.length_drop.{u}
def bF:=@Nat.le_trans
def bH.{u}:=@List.eq_nil_iff_forall_not_mem.{u}
def bI:=@Bool.and_true
def bK.{u}:=@List.not_mem_nil.{u}
def bR.{u}:=@List.all_eq_true.{u}
def bS.{u}:=@Array.getElem?_eq_some_iff.{u}
def bU:=@Bool.not_eq_true'
def bZ:=@Bool.and_false
def ba.{u}:=@List.length_take.{u}
def bd:=@Classical.byContradiction
def bg.{u,v}:=@List.getElem?_map.{u,v}
def bl:=@Nat.mul_le_mul_right
def bm.{u}:=@Array.getD_eq_getD_getElem?.{u}
def bn.{u}:=@List.getElem?_take_of_lt.{u}
def bo.{u}:=@List.getElem?_eq_none.{u}
def bq.{u}:=@List.eq_nil_of_length_eq_zero.{u}
def bt.{u}:=@List.append_nil.{u}
def bu:=@Bool.true_and
def bz.{u}:=@List.mem_cons_of_mem.{u}
def cJ.{u}:=@List.take_of_length_le.{u}
def cK:=@List.mem_range
def cL:=@Bool.not_eq_false'
def cP:=@Bool.eq_iff_iff
def cU.{u}:=@List.set_cons_zero.{u}
def cW.{u}:=@List.set_cons_succ.{u}
def cZ.{u}:=@List.length_pos_iff.{u}
def cc.{u}:=@List.getElem?_cons_succ.{u}
def cg.{u,v}:=@Option.map_some.{u,v}
def cj.{u,v}:=@List.foldl_cons.{u,v}
def cn:=@Nat.add_zero
def ct.{u}:=@List.forall_mem_cons.{u}
def dD:=@Nat.lt_of_lt_of_le
def dE.{u}:=@List.pairwise_cons.{u}
def dI.{u,v}:=@List.mem_map.{u,v}
def dJ:=@Nat.add_sub_cancel_left
def dM.{u}:=@List.drop_eq_getElem_cons.{u}
def dd.{u}:=@List.mem_of_mem_take.{u}
def dj.{u}:=@List.getElem_mem.{u}
def dn.{u}:=@List.mem_cons_self.{u}
def dp.{u}:=@List.getElem?_drop.{u}
def dw.{u}:=@Array.getElem?_setIfInBounds_ne.{u}
def eN.{u,v}:=@List.map_congr_left.{u,v}
def eS.{u}:=@Array.getElem?_modify.{u}
def eU:=@Nat.sub_self
def eV.{u,v}:=@List.flatMap_cons.{u,v}
def ed.{u}:=@List.set_append_right.{u}
def ee.{u}:=@List.mem_iff_getElem?.{u}
def eu.{u}:=@List.size_toArray.{u}
def ey.{u}:=@List.all_cons.{u}
def fA:=@Nat.one_mul
def fB.{u}:=@List.take_append_of_le_length.{u}
def fH:=@Bool.not_true
def fL:=@Nat.mul_comm
def fM:=@Nat.lt_or_ge
def fN:=@Bool.or_eq_true
def fT.{u}:=@List.getElem?_take.{u}
def fY.{u,v}:=@Option.bind_some.{u,v}
def fZ:=@Int.natCast_zero
def ff.{u}:=@List.mem_of_mem_drop.{u}
def gF:=@Nat.zero_le
def gG:=@Nat.min_eq_left
def gu.{u}:=@List.take_succ_cons.{u}
def iF.{u}:=@List.takeWhile_cons.{u}
def iU.{u,v}:=@List.flatMap_nil.{u,v}
def iw.{u}:=@List.ext_getElem?.{u}
def jA:=@Bool.false_or
def jH.{u,v}:=@List.filterMap_cons.{u,v}
def jM.{u}:=@List.length_eq_zero_iff.{u}
def jN.{u}:=@List.getLast?_singleton.{u}
def jd:=@Bool.not_false
def jr.{u}:=@Array.size_append.{u}
def kM.{u}:=@List.length_filter_le.{u}
def kN.{u}:=@List.getElem?_toArray.{u}
def kO.{u}:=@List.eq_nil_or_concat.{u}
def kP.{u}:=@List.concat_eq_append.{u}
def ky.{u}:=@Option.some.inj.{u}
def lI.{u}:=@Option.getD_some.{u}
def lJ.{u,v}:=@Array.toList_map.{u,v}
def lQ.{u}:=@List.mergeSort_perm.{u}
def lR:=@List.getElem?_range
def ll:=@Nat.div_lt_of_lt_mul
def ln.{u}:=@List.take_left.{u}
def lp.{u}:=@List.getLast?_append.{u}
def lq:=@Int.fdiv_eq_ediv_of_nonneg
def lr.{u}:=@Array.getElem?_append_left.{u}
def mZ:=@UInt8.toNat_ofNat'
def mw:=@List.range_succ
def nQ.{u}:=@List.getElem?_set.{u}
def nR.{u,v}:=@List.foldl_nil.{u,v}
def nS.{u}:=@Array.getElem?_eq_none.{u}
def na:=@Nat.lt_of_le_of_lt
def nb.{u}:=@List.mem_singleton.{u}
def o7.{u}:=@List.filter_cons.{u}
def o8.{u}:=@List.drop_length.{u}
def oF.{u}:=@List.length_replicate.{u}
def pw.{u}:=@List.set_comm.{u}
def qE.{u}:=@List.mem_filter.{u}
def qF.{u,v}:=@Except.ok.injEq.{u,v}
def qG.{u}:=@Array.getElem?_setIfInBounds.{u}
def qW.{u}:=@List.drop_succ_cons.{u}
def ru.{u}:=@List.set_set.{u}
def rv.{u,v,w}:=@List.map_map.{u,v,w}
def se.{u}:=@Option.some_or.{u}
def sf:=@Nat.mod_lt
def sg.{u}:=@List.take_zero.{u}
def si.{u}:=@List.filter_append.{u}
def tC.{u}:=@List.pairwise_iff_getElem.{u}
def tD.{u}:=@List.mem_of_find?_eq_some.{u}
def tG.{u}:=@List.flatten_cons.{u}
def tH:=@Int.le_refl
def tJ:=@Bool.not_eq_false
def uY.{u}:=@Array.getElem?_replicate.{u}
def wg:=@Nat.mod_eq_of_lt
def wh.{u}:=@List.getElem?_replicate.{u}
def wi.{u}:=@List.any_eq_true.{u}
def yE:=@Nat.sub_zero
def yF.{u}:=@List.drop_eq_nil_of_le.{u}
def yK.{u,v}:=@List.map_append.{u,v}
def yL.{u}:=@List.length_set.{u}
def yM.{u}:=@List.find?_some.{u}
def zP.{u}:=@Array.getElem?_toList.{u}
end Go

namespace Go.Pm
open Go Go.RowKit
inductive V where
 | u
 | b (x:Bool)
 | i (k:IntKind) (n:Int)
 | s (l:List UInt8)
 | nil
 | lit (sz:Nat) (xs:List (List V))
 | sl (sz:Nat) (xs:List (List V))
 | own (id g:Nat)
 | sub (id g lo hi:Nat)
 | ptr (id off:Nat)
 | ep (sz:Nat) (xs:List (List V)) (i off:Nat)
 | rp (id g i off:Nat)
 | mp (id:Nat)
 | fE
 | ie
 | fn (f:Nat) (caps:List V)
 | agg (xs:List V)
 | gZ (xs:List V)
def V.pure:V→Bool
 | .b _ | .i _ _ | .s _ | .sl _ _=>true
 | _=>false
def V.cell:V→Bool
 | .u | .agg _ | .gZ _=>false
 | _=>true
inductive Ob where
 | dead
 | box (T:Nat) (cs:List V)
 | row (E sz by':Nat) (g:Nat) (sh:Bool) (xs:List (List V))
 | map (K E:Nat) (es:List (V×V))
abbrev ah:=List Ob
abbrev Mem:=Nat→Value
def iT:Value→Option Nat
 | .pointer (some a)=>some a.block
 | .slice (some a) _ _=>some a.block
 | .map (some r)=>some r
 | _=>none
def Ob.Yk(off:Nat):Ob→Prop
 | .dead=>False
 | .box _ _=>True
 | .row _ sz _ _ sh xs=>sh=true→xs.length*sz≤off
 | .map _ _ _=>True
def wr(σ:ah)(μ:Mem)(b off:Nat):Prop:=∃ id o,σ[id]?=some o∧iT (μ id)=some b∧o.Yk off
def ft(xs:List (List V))(i j:Nat):Option V:=(xs[i]?).bind (·[j]?)
def jI(v:Value)(lo hi sz:Nat):Value :=
 match v with
 | .slice a _ cap=>.slice (if cap=lo then a else a.map (·.add (lo*sz))) (hi - lo) (cap - lo)
 | v=>v
def UC(v:Value)(i off sz:Nat):Value :=
 match v with
 | .slice (some a) _ _=>.pointer (some ⟨a.block,i*sz+off,none⟩)
 | v=>v
inductive VR (w:World) (σ:ah) (μ:Mem):V→Value→Prop
 | u (v:Value):VR w σ μ .u v
 | b (x:Bool):VR w σ μ (.b x) (.bool x)
 | i (k:IntKind) (n:Int):VR w σ μ (.i k n) (.int k n)
 | s (l:List UInt8) (x:ByteArray) (hl:x.data.toList=l) (hm:l.length≤maxLen):VR w σ μ (.s l) (.string x)
 | nil:VR w σ μ .nil (.slice none 0 0)
 | zY (sz:Nat):VR w σ μ (.sl sz []) (.slice none 0 0)
 | sle (sz:Nat) (a:Addr):VR w σ μ (.sl sz []) (.slice (some a) 0 0)
 | sl (sz:Nat) (xs:List (List V)) (b o cap:Nat) (f:Nat→Nat→Value) (hlen:xs.length≤cap) (ku:cap≤maxLen) (cm:∀ r∈xs,r.length=sz)
   (hc:∀ i j x,ft xs i j=some x→w.cell? ⟨b,o+i*sz+j,none⟩=some (f i j)∧¬ wr σ μ b (o+i*sz+j)∧x.pure=true)
   (hv:∀ i j x,ft xs i j=some x→VR w σ μ x (f i j)):VR w σ μ (.sl sz xs) (.slice (some ⟨b,o,none⟩) xs.length cap)
 | Ce (sz:Nat):VR w σ μ (.lit sz []) (.slice none 0 0)
 | lit (sz:Nat) (xs:List (List V)) (b o:Nat) (f:Nat→Nat→Value) (ku:xs.length≤maxLen) (cm:∀ r∈xs,r.length=sz)
   (hc:∀ i j x,ft xs i j=some x→w.cell? ⟨b,o+i*sz+j,none⟩=some (f i j)∧¬ wr σ μ b (o+i*sz+j)∧x.pure=true)
   (hv:∀ i j x,ft xs i j=some x→VR w σ μ x (f i j)):VR w σ μ (.lit sz xs) (.slice (some ⟨b,o,none⟩) xs.length xs.length)
 | own (id g:Nat) (v:Value) (hid:id<σ.length) (h:∀ E sz by' g' sh xs,σ[id]?=some (.row E sz by' g' sh xs)→g≤g'∧(g=g'→v=μ id)):VR w σ μ (.own id g) v
 | sub (id g lo hi:Nat) (v:Value) (hid:id<σ.length)
   (h:∀ E sz by' g' sh xs,σ[id]?=some (.row E sz by' g' sh xs)→g≤g'∧(g=g'→lo≤hi∧hi≤xs.length∧v=jI (μ id) lo hi sz)):VR w σ μ (.sub id g lo hi) v
 | ptr (id off b:Nat) (h:∃ T cs,σ[id]?=some (.box T cs)) (hm:μ id=.pointer (some ⟨b,0,none⟩)):VR w σ μ (.ptr id off) (.pointer (some ⟨b,off,none⟩))
 | ep (sz:Nat) (xs:List (List V)) (i off b o:Nat) (f:Nat→Value) (hi:i<xs.length) (cm:∀ r∈xs,r.length=sz)
   (hc:∀ j x,ft xs i j=some x→w.cell? ⟨b,o+j,none⟩=some (f j)∧¬ wr σ μ b (o+j)∧x.pure=true)
   (hv:∀ j x,ft xs i j=some x→VR w σ μ x (f j)):VR w σ μ (.ep sz xs i off) (.pointer (some ⟨b,o+off,none⟩))
 | rp (id g i off:Nat) (v:Value) (hid:id<σ.length)
   (h:∀ E sz by' g' sh xs,σ[id]?=some (.row E sz by' g' sh xs)→g≤g'∧(g=g'→i<xs.length∧v=UC (μ id) i off sz)):VR w σ μ (.rp id g i off) v
 | mp (id r:Nat) (h:∃ K E es,σ[id]?=some (.map K E es)) (hm:μ id=.map (some r)):VR w σ μ (.mp id) (.map (some r))
 | fE:VR w σ μ .fE (.map none)
 | ie:VR w σ μ .ie (.pointer none)
 | fn (f:Nat) (caps:List V) (vs:Array Value) (hl:caps.length=vs.size) (hv:∀ i x,caps[i]?=some x→VR w σ μ x (vs.getD i undef)) :
   VR w σ μ (.fn f caps) (.func (.func f) #[] vs)
 | agg (xs:List V) (vs:Array Value) (hl:xs.length=vs.size) (hv:∀ i x,xs[i]?=some x→VR w σ μ x (vs.getD i undef)):VR w σ μ (.agg xs) (.agg vs)
 | gZ (xs:List V) (vs:Array Value) (hl:xs.length=vs.size) (hv:∀ i x,xs[i]?=some x→VR w σ μ x (vs.getD i undef)):VR w σ μ (.gZ xs) (.tuple vs)
inductive V.Lt (n:Nat):V→Prop
 | u:Lt n .u
 | b (x):Lt n (.b x)
 | i (k a):Lt n (.i k a)
 | s (l):Lt n (.s l)
 | nil:Lt n .nil
 | lit (sz xs):Lt n (.lit sz xs)
 | sl (sz xs):Lt n (.sl sz xs)
 | own (id g) (h:id<n):Lt n (.own id g)
 | sub (id g lo hi) (h:id<n):Lt n (.sub id g lo hi)
 | ptr (id off) (h:id<n):Lt n (.ptr id off)
 | ep (sz xs i off):Lt n (.ep sz xs i off)
 | rp (id g i off) (h:id<n):Lt n (.rp id g i off)
 | mp (id) (h:id<n):Lt n (.mp id)
 | fE:Lt n .fE
 | ie:Lt n .ie
 | fn (f caps) (h:∀ (i:Nat) (x:V),caps[i]?=some x→Lt n x):Lt n (.fn f caps)
 | agg (xs) (h:∀ (i:Nat) (x:V),xs[i]?=some x→Lt n x):Lt n (.agg xs)
 | gZ (xs) (h:∀ (i:Nat) (x:V),xs[i]?=some x→Lt n x):Lt n (.gZ xs)
theorem VR.lt{w:World}{σ:ah}{μ:Mem}{x:V}{v:Value}(h:VR w σ μ x v):x.Lt σ.length:=by
 induction h with
 | u v=>exact .u
 | b x=>exact .b x
 | i k n=>exact .i k n
 | s l x hl hm=>exact .s l
 | nil=>exact .nil
 | zY sz=>exact .sl sz _
 | sle sz a=>exact .sl sz _
 | sl sz xs b o cap f hlen ku cm hc hv ih=>exact .sl sz xs
 | Ce sz=>exact .lit sz _
 | lit sz xs b o f ku cm hc hv ih=>exact .lit sz xs
 | own id g v hid h=>exact .own id g hid
 | sub id g lo hi v hid h=>exact .sub id g lo hi hid
 | ptr id off b h hm =>
  obtain⟨T,cs,h1⟩:=h;exact .ptr id off (ab.1 h1).1
 | ep sz xs i off b o f hi cm hc hv ih=>exact .ep sz xs i off
 | rp id g i off v hid h=>exact .rp id g i off hid
 | mp id r h hm =>
  obtain⟨K,E,es,h1⟩:=h;exact .mp id (ab.1 h1).1
 | fE=>exact .fE
 | ie=>exact .ie
 | fn f caps vs hl hv ih=>exact .fn f caps ih
 | agg xs vs hl hv ih=>exact .agg xs ih
 | gZ xs vs hl hv ih=>exact .gZ xs ih
theorem V.Lt.mono{n m:Nat}{x:V}(h:x.Lt n)(hm:n≤m):x.Lt m:=by
 induction h with
 | u=>exact .u
 | b x=>exact .b x
 | i k a=>exact .i k a
 | s l=>exact .s l
 | nil=>exact .nil
 | lit sz xs=>exact .lit sz xs
 | sl sz xs=>exact .sl sz xs
 | own id g h=>exact .own id g (dD h hm)
 | sub id g lo hi h=>exact .sub id g lo hi (dD h hm)
 | ptr id off h=>exact .ptr id off (dD h hm)
 | ep sz xs i off=>exact .ep sz xs i off
 | rp id g i off h=>exact .rp id g i off (dD h hm)
 | mp id h=>exact .mp id (dD h hm)
 | fE=>exact .fE
 | ie=>exact .ie
 | fn f caps h ih=>exact .fn f caps ih
 | agg xs h ih=>exact .agg xs ih
 | gZ xs h ih=>exact .gZ xs ih
structure lP (w:World) (σ:ah) (μ:Mem) (w':World) (σ':ah) (μ':Mem):Prop where
 cell:∀ b o v,w.cell? ⟨b,o,none⟩=some v→¬ wr σ μ b o→w'.cell? ⟨b,o,none⟩=some v∧¬ wr σ' μ' b o
 len:σ.length≤σ'.length
 box:∀ id T cs,σ[id]?=some (.box T cs)→(∃ cs',σ'[id]?=some (.box T cs'))∧μ' id=μ id
 map:∀ id K E es,σ[id]?=some (.map K E es)→(∃ es',σ'[id]?=some (.map K E es'))∧μ' id=μ id
 row:∀ id E sz by' g' sh xs,id<σ.length→σ'[id]?=some (.row E sz by' g' sh xs)→∃ g sh0 xs0,σ[id]?=some (.row E sz by' g sh0 xs0)∧g≤g'∧(g=g'→xs0.length=xs.length∧μ' id=μ id)
theorem VR.mono{w:World}{σ:ah}{μ:Mem}{w':World}{σ':ah}{μ':Mem}(p:lP w σ μ w' σ' μ'){x:V}{v:Value}(h:VR w σ μ x v):VR w' σ' μ' x v:=by
 induction h with
 | u v=>exact .u v
 | b x=>exact .b x
 | i k n=>exact .i k n
 | s l x hl hm=>exact .s l x hl hm
 | nil=>exact .nil
 | zY sz=>exact .zY sz
 | sle sz a=>exact .sle sz a
 | sl sz xs b o cap f hlen ku cm hc hv ih =>
  exact .sl sz xs b o cap f hlen ku cm (fun i j x hx=>⟨(p.cell _ _ _ (hc i j x hx).1 (hc i j x hx).2.1).1,(p.cell _ _ _ (hc i j x hx).1 (hc i j x hx).2.1).2,(hc i j x hx).2.2⟩) ih
 | Ce sz=>exact .Ce sz
 | lit sz xs b o f ku cm hc hv ih =>
  exact .lit sz xs b o f ku cm (fun i j x hx=>⟨(p.cell _ _ _ (hc i j x hx).1 (hc i j x hx).2.1).1,(p.cell _ _ _ (hc i j x hx).1 (hc i j x hx).2.1).2,(hc i j x hx).2.2⟩) ih
 | own id g v hid h =>
  refine .own id g v (dD hid p.len) fun E sz by' g' sh xs hs=>?_;obtain⟨g1,sh',xs',h1,h2,h3⟩:=p.row id E sz by' g' sh xs hid hs;have h4:=h _ _ _ _ _ _ h1;refine⟨bF h4.1 h2,fun hg=>?_⟩;have e1:g1=g':=by omega
  rw[(h3 e1).2];exact h4.2 (by omega)
 | sub id g lo hi v hid h =>
  refine .sub id g lo hi v (dD hid p.len) fun E sz by' g' sh xs hs=>?_;obtain⟨g1,sh',xs',h1,h2,h3⟩:=p.row id E sz by' g' sh xs hid hs;have h4:=h _ _ _ _ _ _ h1;refine⟨bF h4.1 h2,fun hg=>?_⟩;have e1:g1=g':=by omega
  rw[(h3 e1).2,← (h3 e1).1];exact h4.2 (by omega)
 | ptr id off b h hm =>
  obtain⟨T,cs,h1⟩:=h;obtain⟨⟨cs',h2⟩,h3⟩:=p.box id T cs h1;exact .ptr id off b ⟨T,cs',h2⟩ (h3.trans hm)
 | ep sz xs i off b o f hi cm hc hv ih =>
  exact .ep sz xs i off b o f hi cm (fun j x hx=>⟨(p.cell _ _ _ (hc j x hx).1 (hc j x hx).2.1).1,(p.cell _ _ _ (hc j x hx).1 (hc j x hx).2.1).2,(hc j x hx).2.2⟩) ih
 | rp id g i off v hid h =>
  refine .rp id g i off v (dD hid p.len) fun E sz by' g' sh xs hs=>?_;obtain⟨g1,sh',xs',h1,h2,h3⟩:=p.row id E sz by' g' sh xs hid hs;have h4:=h _ _ _ _ _ _ h1;refine⟨bF h4.1 h2,fun hg=>?_⟩;have e1:g1=g':=by omega
  rw[(h3 e1).2,← (h3 e1).1];exact h4.2 (by omega)
 | mp id r h hm =>
  obtain⟨K,E,es,h1⟩:=h;obtain⟨⟨es',h2⟩,h3⟩:=p.map id K E es h1;exact .mp id r ⟨K,E,es',h2⟩ (h3.trans hm)
 | fE=>exact .fE
 | ie=>exact .ie
 | fn f caps vs hl hv ih=>exact .fn f caps vs hl ih
 | agg xs vs hl hv ih=>exact .agg xs vs hl ih
 | gZ xs vs hl hv ih=>exact .gZ xs vs hl ih
theorem lP.refl(w:World)(σ:ah)(μ:Mem):lP w σ μ w σ μ :=
 ⟨fun _ _ _ h h'=>⟨h,h'⟩,aw _,fun _ _ cs h=>⟨⟨cs,h⟩,rfl⟩,fun _ _ _ es h=>⟨⟨es,h⟩,rfl⟩,fun _ _ _ _ g sh xs _ h=>⟨g,sh,xs,h,aw _,fun _=>⟨rfl,rfl⟩⟩⟩
def mh(w:World)(σ:ah)(μ:Mem)(w':World)(σ':ah)(μ':Mem):Prop:=∀ x v,VR w σ μ x v→VR w' σ' μ' x v
theorem lP.eO{w:World}{σ:ah}{μ:Mem}{w':World}{σ':ah}{μ':Mem}(p:lP w σ μ w' σ' μ'):mh w σ μ w' σ' μ':=fun _ _ h=>h.mono p
def fe(n:Nat)(w:World)(σ:ah)(μ:Mem)(w':World)(σ':ah)(μ':Mem):Prop:=∀ x v,VR w σ μ x v→x.Lt n→VR w' σ' μ' x v
theorem mh.IC{n:Nat}{w:World}{σ:ah}{μ:Mem}{w':World}{σ':ah}{μ':Mem}(k:mh w σ μ w' σ' μ'):fe n w σ μ w' σ' μ':=fun x v h _=>k x v h
theorem fe.refl(n:Nat)(w:World)(σ:ah)(μ:Mem):fe n w σ μ w σ μ:=fun _ _ h _=>h
theorem fe.trans{n:Nat}{w:World}{σ:ah}{μ:Mem}{w':World}{σ':ah}{μ':Mem}{w'':World}{σ'':ah}{μ'':Mem}
  (h:fe n w σ μ w' σ' μ') (k:fe n w' σ' μ' w'' σ'' μ''):fe n w σ μ w'' σ'' μ'':=fun x v hx hl=>k x v (h x v hx hl) hl
theorem mh.refl(w:World)(σ:ah)(μ:Mem):mh w σ μ w σ μ:=fun _ _ h=>h
theorem mh.trans{w:World}{σ:ah}{μ:Mem}{w':World}{σ':ah}{μ':Mem}{w'':World}{σ'':ah}{μ'':Mem}
  (h:mh w σ μ w' σ' μ') (k:mh w' σ' μ' w'' σ'' μ''):mh w σ μ w'' σ'' μ'':=fun x v hx=>k x v (h x v hx)
def Ti(P:Program)(E sz by':Nat):Prop :=
 0<sz∧∃ (t:TypeInfo) (z:Value),P.info? E=some t∧t.zero=some z∧t.size=sz∧t.bytes=by'∧z.cells.size=sz
def jT(w:World)(σ:ah)(μ:Mem)(xs:List (List V))(sz:Nat)(vals:List Value):Prop :=
 (∀ r∈xs,r.length=sz)∧∀ i j x,ft xs i j=some x→x.pure=true∧∃ v,vals[i*sz+j]?=some v∧VR w σ μ x v
def V.Uy:V→Bool
 | .i _ _ | .s _ | .b _=>true
 | _=>false
def V.mG:V→Bool
 | .i _ _ | .s _ | .b _=>true
 | .agg xs=>xs.all V.Uy
 | _=>false
def V.vS:V→Bool
 | .agg xs=>xs.all V.pure
 | x=>x.pure
def NB(w:World)(σ:ah)(μ:Mem)(es:List (V×V))(ents:Array MapEntry)(clock:Nat):Prop :=
 ents.size=es.length∧(∀ (i:Nat) (k x:V),es[i]?=some (k,x)→k.mG=true∧x.vS=true∧∃ e,ents[i]?=some e∧VR w σ μ k e.key∧VR w σ μ x e.val) ∧
 (∀ (i:Nat) (e:MapEntry),ents[i]?=some e→e.born<clock)∧(∀ (i j:Nat) (e e':MapEntry),ents[i]?=some e→ents[j]?=some e'→e.born=e'.born→i=j)
def zN(P:Program)(B:Nat)(w:World)(σ:ah)(μ:Mem)(v:Value):Ob→Prop
 | .dead=>True
 | .box T cs=>∃ (b:Nat) (vs:Array Value),v=.pointer (some ⟨b,0,none⟩)∧B≤b∧w.heap[b]?=some (.cells vs T (0,0))∧vs.size=cs.length ∧
   ∀ (j:Nat) (x:V),cs[j]?=some x→∃ u,vs[j]?=some u∧VR w σ μ x u
 | .row E sz by' _ _ xs=>Ti P E sz by'∧∃ vals:List Value,w.ownsRow B E sz v xs.length vals∧jT w σ μ xs sz vals
 | .map _ _ es=>∃ (r:Nat) (ents:Array MapEntry) (clock:Nat),v=.map (some r)∧B≤r∧w.heap[r]?=some (.map ents clock)∧NB w σ μ es ents clock
def xa:List Int:=[1,10,100,1000,10000,100000,1000000,10000000,100000000,1000000000,10000000000,100000000000,1000000000000,10000000000000,100000000000000,1000000000000000,10000000000000000,100000000000000000,1000000000000000000,10000000000000000000]
def N4:List (String×IntKind×List Int):=[("internal/strconv.uint64pow10",.u64,xa)]
def Laid(P:Program)(B:Nat)(w:World):Prop:=∀ t∈N4,∀ g,P.globalNamed t.1=some g→g<B∧Lib.TabIs P w t.1 t.2.1 t.2.2
structure sd (P:Program) (B:Nat) (w0 w:World):Prop extends Below B w0 w where
 laid:Laid P B w0
theorem sd.grown{P:Program}{B:Nat}{a w w':World}{row:Option Nat}(h:sd P B a w)(hg:w.grownBy w' row)(hB:B≤w.heap.size)(hr:∀ k,row=some k→B≤k):sd P B a w' :=
 ⟨h.toBelow.grown hg hB hr,h.laid⟩
theorem sd.tab{P:Program}{B:Nat}{w0 w:World}(h:sd P B w0 w){t:String×IntKind×List Int}(ht:t∈N4){g:Nat}(hg:P.globalNamed t.1=some g):Lib.TabIs P w t.1 t.2.1 t.2.2:=by
 obtain⟨h1,h2⟩:=h.laid t ht g hg;unfold Lib.TabIs World.var? at h2 ⊢;simp only[hg,fY]at h2 ⊢;rw[h.block g h1];exact h2
structure gM (P:Program) (B:Nat) (w0 w:World) (σ:ah) (μ:Mem):Prop where
 below:sd P B w0 w
 base:B≤w.heap.size
 obj:∀ id o,σ[id]?=some o→zN P B w σ μ (μ id) o
 sep:∀ i j oi oj b,σ[i]?=some oi→σ[j]?=some oj→oi≠.dead→oj≠.dead→iT (μ i)=some b→iT (μ j)=some b→i=j
def FR(w:World)(σ:ah)(μ:Mem)(fr:List V)(a:Act):Prop :=
 a.defers=[]∧a.tmps.size=fr.length∧∀ i x,fr[i]?=some x→VR w σ μ x (a.tmps.getD i undef)
theorem FR.eO{w:World}{σ:ah}{μ:Mem}{w':World}{σ':ah}{μ':Mem}(k:mh w σ μ w' σ' μ'){fr:List V}{a:Act}(h:FR w σ μ fr a):FR w' σ' μ' fr a :=
 ⟨h.1,h.2.1,fun i x hx=>k _ _ (h.2.2 i x hx)⟩
structure St where
 fr:List V
 σ:ah
def Qw(w:World)(σ:ah)(μ:Mem)(xs:List V)(vs:Array Value):Prop:=vs.size=xs.length∧∀ i x,xs[i]?=some x→VR w σ μ x (vs.getD i undef)
def PC(P:Program)(f:Nat)(args:List V)(σ:ah)(Q:V→ah→Prop):Prop :=
 ∀ (B:Nat) (w0 w:World) (μ:Mem) (vs:Array Value),gM P B w0 w σ μ→Qw w σ μ args vs →
  Calls P f vs w fun e w'=>∃ r v σ' μ',e=.returned v∧Q r σ'∧gM P B w0 w' σ' μ'∧VR w' σ' μ' r v∧mh w σ μ w' σ' μ'
def PW(n:Nat)(P:Program)(c:Code)(K:Exit→St→Prop)(st:St):Prop :=
 ∀ (B:Nat) (w0 w:World) (μ:Mem) (a:Act),gM P B w0 w st.σ μ→FR w st.σ μ st.fr a →
  c.wp P (fun e a' w'=>∃ st' μ',K e st'∧gM P B w0 w' st'.σ μ'∧FR w' st'.σ μ' st'.fr a'∧fe n w st.σ μ w' st'.σ μ') a w
theorem PC.mono{P:Program}{f:Nat}{args:List V}{σ:ah}{Q Q':V→ah→Prop}(h:PC P f args σ Q)(hq:∀ r σ',Q r σ'→Q' r σ'):PC P f args σ Q' :=
 fun B w0 w μ vs hs hv=>(h B w0 w μ vs hs hv).mono fun _ _ ⟨r,v,σ',μ',he,hQ,rest⟩=>⟨r,v,σ',μ',he,hq _ _ hQ,rest⟩
theorem PW.mono{n:Nat}{P:Program}{c:Code}{K K':Exit→St→Prop}{st:St}(h:PW n P c K st)(hk:∀ e st',K e st'→K' e st'):PW n P c K' st :=
 fun B w0 w μ a hs hf=>wp_mono (h B w0 w μ a hs hf) fun _ _ _ ⟨st',μ',hK,rest⟩=>⟨st',μ',hk _ _ hK,rest⟩
theorem PW.skip{n:Nat}{P:Program}{K:Exit→St→Prop}{st:St}(h:K .normal st):PW n P .skip K st :=
 fun _ _ _ μ _ hs hf=>wp_skip ⟨st,μ,h,hs,hf,fe.refl _ _ _ _⟩
theorem PW.ret{n:Nat}{P:Program}{K:Exit→St→Prop}{st:St}(h:K .ret st):PW n P .ret K st :=
 fun _ _ _ μ _ hs hf=>wp_ret ⟨st,μ,h,hs,hf,fe.refl _ _ _ _⟩
theorem PW.exit{n:Nat}{P:Program}{id:Nat}{K:Exit→St→Prop}{st:St}(h:K (.exit id) st):PW n P (.exit id) K st :=
 fun _ _ _ μ _ hs hf=>wp_exit ⟨st,μ,h,hs,hf,fe.refl _ _ _ _⟩
def Ur(n:Nat)(P:Program)(y:Code)(K:Exit→St→Prop):Exit→St→Prop
 | .normal,st=>PW n P y K st
 | e,st=>K e st
theorem PW.seq{n:Nat}{P:Program}{x y:Code}{K:Exit→St→Prop}{st:St}(h:PW n P x (Ur n P y K) st):PW n P (.seq x y) K st:=by
 intro B w0 w μ a hs hf;refine wp_seq (wp_mono (h B w0 w μ a hs hf) ?_);rintro e a' w' ⟨st',μ',hK,hs',hf',hk⟩;cases e with
 | normal=>exact wp_mono (hK B w0 w' μ' a' hs' hf') fun _ _ _ ⟨st2,μ2,h1,h2,h3,h4⟩=>⟨st2,μ2,h1,h2,h3,hk.trans h4⟩
 | exit id=>exact⟨st',μ',hK,hs',hf',hk⟩
 | goto l=>exact⟨st',μ',hK,hs',hf',hk⟩
 | ret=>exact⟨st',μ',hK,hs',hf',hk⟩
 | panic c=>exact⟨st',μ',hK,hs',hf',hk⟩
 | outgrown=>exact⟨st',μ',hK,hs',hf',hk⟩
def uU(id:Nat)(K:Exit→St→Prop):Exit→St→Prop
 | .exit id',st=>if id'=id then K .normal st else K (.exit id') st
 | e,st=>K e st
theorem PW.block{n:Nat}{P:Program}{id:Nat}{c:Code}{K:Exit→St→Prop}{st:St}(h:PW n P c (uU id K) st):PW n P (.block id c) K st:=by
 intro B w0 w μ a hs hf;refine wp_block (wp_mono (h B w0 w μ a hs hf) ?_);rintro e a' w' ⟨st',μ',hK,hs',hf',hk⟩;cases e with
 | normal=>exact⟨st',μ',hK,hs',hf',hk⟩
 | exit id' =>
  by_cases hid:id'=id
  ·subst hid;simp only[uU,if_true]at hK;simp only[Exit.inBlock,if_true];exact⟨st',μ',hK,hs',hf',hk⟩
  ·simp only[uU,hid,if_false]at hK;simp only[Exit.inBlock,hid,if_false];exact⟨st',μ',hK,hs',hf',hk⟩
 | goto l=>exact⟨st',μ',hK,hs',hf',hk⟩
 | ret=>exact⟨st',μ',hK,hs',hf',hk⟩
 | panic c=>exact⟨st',μ',hK,hs',hf',hk⟩
 | outgrown=>exact⟨st',μ',hK,hs',hf',hk⟩
theorem pd{P:Program}{Q:Exit→Act→World→Prop}{a:Act}{w:World}{c:Code}(n:Nat)(J:Nat→Act→World→Prop)(h0:J n a w)
  (round:∀ k a w,J k a w→c.wp P (Exit.then (fun a' w'=>∃ k',k'<k∧J k' a' w') Q) a w):(Code.loop c).wp P Q a w:=by
 intro b k cs
 have key:∀ n a w,J n a w→∃ e a' w',Q e a' w'∧Arrives P (lone (b.at a (.code c::.inLoop c::k)) cs w) b k cs e a' w':=by
  intro n
  induction n using Nat.strongRecOn with
  | _ n ih =>
   intro a w hJ;obtain⟨e,a₁,w₁,hq,rY⟩:=round n a w hJ b (.inLoop c::k) cs;cases e with
   | normal =>
    obtain⟨k',eC,hJ₁⟩:=hq;obtain⟨e₂,a₂,w₂,hq₂,harr₂⟩:=ih k' eC a₁ w₁ hJ₁;exact⟨e₂,a₂,w₂,hq₂,.of_steps (Steps.trans rY (.one step_inLoop)) harr₂⟩
   | exit id=>exact⟨_,a₁,w₁,hq,.pass (x:=.inLoop c) rfl (fun _ _=>.inl (by simp)) rY⟩
   | goto l=>exact⟨_,a₁,w₁,hq,.pass (x:=.inLoop c) rfl (fun _ _=>.inl (by simp)) rY⟩
   | ret=>exact⟨_,a₁,w₁,hq,.pass (x:=.inLoop c) rfl (fun _ _=>.inl (by simp)) rY⟩
   | panic ch=>exact⟨_,a₁,w₁,hq,.pass (x:=.inLoop c) rfl (fun _ _=>.inl (by simp)) rY⟩
   | outgrown=>exact⟨_,a₁,w₁,hq,.pass (x:=.inLoop c) rfl (fun _ _=>.inl (by simp)) rY⟩
 obtain⟨e,a',w',hq,rY⟩:=key _ a w h0;exact⟨e,a',w',hq,.of_steps (.one step_loop) rY⟩
def QO(I:St→Prop)(m:St→Nat)(k:Nat)(K:Exit→St→Prop):Exit→St→Prop
 | .normal,st=>I st∧m st<k
 | e,st=>K e st
theorem PW.loop{n:Nat}{P:Program}{c:Code}{K:Exit→St→Prop}{st:St}(I:St→Prop)(m:St→Nat)(h0:I st)(h:∀ st,I st→PW n P c (QO I m (m st) K) st):PW n P (.loop c) K st:=by
 intro B w0 w μ a hs hf
 have key:∀ (N:Nat) (st1:St) (w1:World) (μ1:Mem) (a1:Act),m st1=N→I st1→gM P B w0 w1 st1.σ μ1→FR w1 st1.σ μ1 st1.fr a1→fe n w st.σ μ w1 st1.σ μ1 →
   (Code.loop c).wp P (fun e a' w'=>∃ st' μ',K e st'∧gM P B w0 w' st'.σ μ'∧FR w' st'.σ μ' st'.fr a'∧fe n w st.σ μ w' st'.σ μ') a1 w1:=by
  intro N st1 w1 μ1 a1 hn hI YP Zb sk;refine pd N (fun k a2 w2=>∃ st2 μ2,m st2=k∧I st2∧gM P B w0 w2 st2.σ μ2∧FR w2 st2.σ μ2 st2.fr a2∧fe n w st.σ μ w2 st2.σ μ2) ⟨st1,μ1,hn,hI,YP,Zb,sk⟩ ?_;rintro k a2 w2 ⟨st2,μ2,T9,Yd,WJ,PB,qR⟩;refine wp_mono (h st2 Yd B w0 w2 μ2 a2 WJ PB) ?_;rintro e a' w' ⟨st',μ',hK,hs',hf',hk⟩;cases e with
  | normal=>exact⟨m st',T9▸hK.2,st',μ',rfl,hK.1,hs',hf',qR.trans hk⟩
  | exit id=>exact⟨st',μ',hK,hs',hf',qR.trans hk⟩
  | goto l=>exact⟨st',μ',hK,hs',hf',qR.trans hk⟩
  | ret=>exact⟨st',μ',hK,hs',hf',qR.trans hk⟩
  | panic c=>exact⟨st',μ',hK,hs',hf',qR.trans hk⟩
  | outgrown=>exact⟨st',μ',hK,hs',hf',qR.trans hk⟩
 exact key _ st w μ a rfl h0 hs hf (fe.refl _ _ _ _)
theorem B4{w w':World}{base:Nat}{e:TypeId}{size:Nat}{v:Value}{n:Nat}{xs:List Value}(h:w.ownsRow base e size v n xs)
  (hb:∀ g,iT v=some g→w'.heap[g]?=w.heap[g]?):w'.ownsRow base e size v n xs:=by
 obtain⟨h1,h2⟩:=h;refine⟨h1,?_⟩;rcases h2 with h2 | ⟨g,cap,cur,hv,hg,hh,r⟩
 ·exact .inl h2
 ·exact .inr ⟨g,cap,cur,hv,hg,by rw[hb g (by simp[hv,iT])];exact hh,r⟩
theorem zN.qB{P:Program}{B:Nat}{w:World}{σ:ah}{μ:Mem}{v:Value}{o:Ob}(h:zN P B w σ μ v o)(ho:o≠.dead){b:Nat}(hb:iT v=some b):B≤b∧b<w.heap.size:=by
 cases o with
 | dead=>exact absurd rfl ho
 | box T cs =>
  obtain⟨b',vs,rfl,h1,h2,_⟩:=h;simp only[iT,aa]at hb;subst hb;exact⟨h1,(bS.1 h2).1⟩
 | row E sz by' g sh xs =>
  obtain⟨_,vals,⟨_,h2⟩,_⟩:=h;rcases h2 with⟨rfl,_⟩ | ⟨g,cap,cur,rfl,hg,hh,_⟩
  ·simp[iT]at hb
  ·simp only[iT,aa]at hb;subst hb;exact⟨hg,(bS.1 hh).1⟩
 | map K E es =>
  obtain⟨r,ents,clock,rfl,h1,h2,_⟩:=h;simp only[iT,aa]at hb;subst hb;exact⟨h1,(bS.1 h2).1⟩
theorem jT.eO{w:World}{σ:ah}{μ:Mem}{w':World}{σ':ah}{μ':Mem}{xs:List (List V)}{sz:Nat}{vals:List Value}(h:jT w σ μ xs sz vals)(k:mh w σ μ w' σ' μ'):jT w' σ' μ' xs sz vals :=
 ⟨h.1,fun i j x hx=>⟨(h.2 i j x hx).1,let ⟨v,h1,h2⟩:=(h.2 i j x hx).2;⟨v,h1,k _ _ h2⟩⟩⟩
theorem NB.eO{w:World}{σ:ah}{μ:Mem}{w':World}{σ':ah}{μ':Mem}{es:List (V×V)}{ents:Array MapEntry}{clock:Nat}(h:NB w σ μ es ents clock)(k:mh w σ μ w' σ' μ'):NB w' σ' μ' es ents clock :=
 ⟨h.1,fun i a x hx=>let ⟨h1,h2,e,h3,h4,h5⟩:=h.2.1 i a x hx;⟨h1,h2,e,h3,k _ _ h4,k _ _ h5⟩,h.2.2⟩
theorem zN.eO{P:Program}{B:Nat}{w:World}{σ:ah}{μ:Mem}{w':World}{σ':ah}{μ':Mem}{v:Value}{o:Ob}(h:zN P B w σ μ v o)(k:mh w σ μ w' σ' μ')
  (hb:∀ b,iT v=some b→w'.heap[b]?=w.heap[b]?):zN P B w' σ' μ' v o:=by
 cases o with
 | dead=>trivial
 | box T cs =>
  obtain⟨b',vs,rfl,h1,h2,h3,h4⟩:=h;exact⟨b',vs,rfl,h1,by rw[hb b' rfl];exact h2,h3,fun j x hx=>let ⟨u,h5,h6⟩:=h4 j x hx;⟨u,h5,k _ _ h6⟩⟩
 | row E sz by' g sh xs =>
  obtain⟨ht,vals,h1,h2⟩:=h;exact⟨ht,vals,B4 h1 hb,h2.eO k⟩
 | map K E es =>
  obtain⟨r,ents,clock,rfl,h1,h2,h3⟩:=h;exact⟨r,ents,clock,rfl,h1,by rw[hb r rfl];exact h2,h3.eO k⟩
theorem gM.qB{P:Program}{B:Nat}{w0 w:World}{σ:ah}{μ:Mem}(h:gM P B w0 w σ μ){id:Nat}{o:Ob}(ho:σ[id]?=some o)(hd:o≠.dead){b:Nat}(hb:iT (μ id)=some b):B≤b∧b<w.heap.size :=
 (h.obj id o ho).qB hd hb
theorem gM.update{P:Program}{B:Nat}{w0 w:World}{σ:ah}{μ:Mem}{w':World}{σ':ah}{μ':Mem}(hS:gM P B w0 w σ μ)(id:Nat)(row:Option Nat)
  (hg:w.grownBy w' row)
  (cm:∀ b,row=some b→∃ o,σ[id]?=some o∧o≠.dead∧iT (μ id)=some b)
  (hlen:σ.length≤σ'.length)
  (hσ:∀ j,j≠id→σ'[j]?=σ[j]?)
  (hμ:∀ j,j≠id→μ' j=μ j)
  (jQ:∀ b,iT (μ' id)=some b→(∃ o,σ[id]?=some o∧o≠.dead∧iT (μ id)=some b)∨w.heap.size≤b)
  (pq:∀ b off v o,σ[id]?=some o→o≠.dead→iT (μ id)=some b→w.cell? ⟨b,off,none⟩=some v→¬ wr σ μ b off →
   w'.cell? ⟨b,off,none⟩=some v∧∀ o',σ'[id]?=some o'→iT (μ' id)=some b→¬ o'.Yk off)
  (Zo:∀ T cs,σ[id]?=some (.box T cs)→(∃ cs',σ'[id]?=some (.box T cs'))∧μ' id=μ id)
  (Py:∀ K E es,σ[id]?=some (.map K E es)→(∃ es',σ'[id]?=some (.map K E es'))∧μ' id=μ id)
  (hrg:∀ E sz by' g' sh xs,id<σ.length→σ'[id]?=some (.row E sz by' g' sh xs)→∃ g sh0 xs0,σ[id]?=some (.row E sz by' g sh0 xs0)∧g≤g'∧(g=g'→xs0.length=xs.length∧μ' id=μ id))
  (dO:lP w σ μ w' σ' μ'→∀ o,σ'[id]?=some o→zN P B w' σ' μ' (μ' id) o) :
  gM P B w0 w' σ' μ'∧lP w σ μ w' σ' μ':=by
 have hp:lP w σ μ w' σ' μ':=by
  refine⟨fun b off v hc hw=>?_,hlen,fun j T cs hj=>?_,fun j K E es hj=>?_,fun j E sz by' g' sh xs rk hj=>?_⟩
  ·have eC:=World.block_lt_of_cell? w _ hc;refine⟨?_,?_⟩
   ·by_cases hb:some b=row
    ·obtain⟨o,h1,h2,h3⟩:=cm b hb.symm;exact(pq b off v o h1 h2 h3 hc hw).1
    ·exact hg.cell hc hb
   ·rintro⟨j,oj,hj,MH,hwj⟩
    by_cases tE:j=id
    ·subst tE;rcases jQ b MH with⟨o,h1,h2,h3⟩ | h
     ·exact(pq b off v o h1 h2 h3 hc hw).2 oj hj MH hwj
     ·exact absurd eC (Nat.not_lt.2 h)
    ·rw[hσ j tE]at hj;rw[hμ j tE]at MH;exact hw ⟨j,oj,hj,MH,hwj⟩
  ·by_cases tE:j=id
   ·subst tE;exact Zo T cs hj
   ·exact⟨⟨cs,by rw[hσ j tE];exact hj⟩,hμ j tE⟩
  ·by_cases tE:j=id
   ·subst tE;exact Py K E es hj
   ·exact⟨⟨es,by rw[hσ j tE];exact hj⟩,hμ j tE⟩
  ·by_cases tE:j=id
   ·subst tE;exact hrg E sz by' g' sh xs rk hj
   ·rw[hσ j tE]at hj;exact⟨g',sh,xs,hj,aw _,fun _=>⟨rfl,hμ j tE⟩⟩
 refine⟨⟨hS.below.grown hg hS.base (fun k hk=>?_),bF hS.base hg.size,fun j o hj=>?_,fun i j oi oj b hi hj zq yJ Xg MH=>?_⟩,hp⟩
 ·obtain⟨o,h1,h2,h3⟩:=cm k hk;exact(hS.qB h1 h2 h3).1
 ·by_cases tE:j=id
  ·subst tE;exact dO hp o hj
  ·rw[hσ j tE]at hj;rw[hμ j tE]
   by_cases hd:o=.dead
   ·subst hd;trivial
   ·refine(hS.obj j o hj).eO hp.eO fun b hb=>?_;refine hg.block b (hS.qB hj hd hb).2 fun hbr=>?_;obtain⟨o2,h1,h2,h3⟩:=cm b hbr.symm;exact tE (hS.sep j id o o2 b hj h1 hd h2 hb h3)
 ·by_cases MA:i=id
  ·subst MA
   by_cases tE:j=i
   ·exact tE.symm
   ·rw[hσ j tE]at hj;rw[hμ j tE]at MH;rcases jQ b Xg with⟨o,h1,h2,h3⟩ | h
    ·exact hS.sep i j o oj b h1 hj h2 yJ h3 MH
    ·exact absurd (hS.qB hj yJ MH).2 (Nat.not_lt.2 h)
  ·rw[hσ i MA]at hi;rw[hμ i MA]at Xg
   by_cases tE:j=id
   ·subst tE;rcases jQ b MH with⟨o,h1,h2,h3⟩ | h
    ·exact hS.sep i j oi o b hi h1 zq h2 Xg h3
    ·exact absurd (hS.qB hi zq Xg).2 (Nat.not_lt.2 h)
   ·rw[hσ j tE]at hj;rw[hμ j tE]at MH;exact hS.sep i j oi oj b hi hj zq yJ Xg MH
theorem gM.grown{P:Program}{B:Nat}{w0 w:World}{σ:ah}{μ:Mem}{w':World}(hS:gM P B w0 w σ μ)(hg:w.grownBy w' none):gM P B w0 w' σ μ∧lP w σ μ w' σ μ:=by
 have hp:lP w σ μ w' σ μ:=⟨fun b off v hc hw=>⟨hg.cell hc (by simp),hw⟩,aw _,fun _ _ cs h=>⟨⟨cs,h⟩,rfl⟩,fun _ _ _ es h=>⟨⟨es,h⟩,rfl⟩,fun _ _ _ _ g sh xs _ h=>⟨g,sh,xs,h,aw _,fun _=>⟨rfl,rfl⟩⟩⟩;refine⟨⟨hS.below.grown hg hS.base (by simp),bF hS.base hg.size,fun j o hj=>?_,hS.sep⟩,hp⟩
 by_cases hd:o=.dead
 ·subst hd;trivial
 ·exact(hS.obj j o hj).eO hp.eO fun b hb=>hg.block b (hS.qB hj hd hb).2 (by simp)
def qH(μ:Mem)(id:Nat)(v:Value):Mem:=fun j=>if j=id then v else μ j
theorem dL(μ:Mem)(id:Nat)(v:Value):qH μ id v id=v:=by simp[qH]
theorem nU(μ:Mem)(id:Nat)(v:Value)(j:Nat)(h:j≠id):qH μ id v j=μ j:=by simp[qH,h]
theorem uM(σ:ah)(o:Ob)(j:Nat)(h:j≠σ.length):(σ++[o])[j]?=σ[j]?:=by
 rcases fM j σ.length with h1 | h1
 ·rw[az h1]
 ·have h2:σ.length<j:=by omega
  rw[bo (by simp;omega),bo h1]
theorem kc(σ:ah)(o:Ob):¬ (σ[σ.length]?=some o):=by simp
theorem gM.pY{P:Program}{B:Nat}{w0 w:World}{σ:ah}{μ:Mem}{w':World}(hS:gM P B w0 w σ μ)(o:Ob)(v:Value)(hg:w.grownBy w' none)
  (hv:∀ b,iT v=some b→w.heap.size≤b)
  (dO:lP w σ μ w' (σ++[o]) (qH μ σ.length v)→zN P B w' (σ++[o]) (qH μ σ.length v) v o) :
  gM P B w0 w' (σ++[o]) (qH μ σ.length v)∧lP w σ μ w' (σ++[o]) (qH μ σ.length v):=by
 refine hS.update σ.length none hg (by simp) (by simp) (fun j hj=>uM σ o j hj) (fun j hj=>nU μ _ v j hj) ?_ ?_ ?_ ?_ ?_ ?_
 ·intro b hb;rw[dL]at hb;exact .inr (hv b hb)
 ·intro b off u o' h;exact absurd h (kc σ o')
 ·intro T cs h;exact absurd h (kc σ _)
 ·intro K E es h;exact absurd h (kc σ _)
 ·intro _ _ _ _ _ _ h;omega
 ·intro hp o' ho';have:o'=o:=by simpa using ho'.symm
  subst this;rw[dL];exact dO hp
inductive O where
 | t (n:Nat)
 | c (v:V)
inductive I where
 | aK (x:O)
 | pick (c a b:O)
 | box (T:Nat) (x:O)
 | alloc (T:Nat) (zs:List V)
 | build (zs:List V) (parts:List (Nat×Nat×O))
 | bQ (sz:Nat) (szs:List (Option Nat)) (xs:List O)
 | E7 (E sz by':Nat) (szs:List (Option Nat)) (xs:List O)
 | load (k:Option Nat) (a:O)
 | store (k:Nat) (szs:List (Option Nat)) (a x:O)
 | dF (x:O)
 | bin (op:BinOp) (x y:O)
 | beq (neg:Bool) (ks:List Nat) (x y:O)
 | NS (neg:Bool) (x y:O)
 | un (op:UnOp) (x:O)
 | rn (k:IntKind) (x:O)
 | yx (x:O)
 | slice (sz:Nat) (x:O) (lo hi:Option O)
 | fv (x:O) (lo hi:Option O)
 | eG (off:Nat) (x:O)
 | idx (sz:Nat) (x i:O)
 | gQ (x i:O)
 | C2 (n sz:Nat) (x i:O)
 | TS (n:Nat) (x:O)
 | ext (k:Nat) (x:O)
 | len (str:Bool) (x:O)
 | max2 (x y:O)
 | min2 (x y:O)
 | app (E sz by':Nat) (x y:O)
 | apps (E:Nat) (x y:O)
 | mk (E sz by':Nat) (zs:List V) (l c:O)
 | pk (K E:Nat)
 | look (kd:Nat) (z:V) (ok:Bool) (m k:O)
 | vT (kd:Nat) (szs:List (Option Nat)) (m k x:O)
 | zb (x:O)
 | call (f:Nat) (args:List O)
 | jy (x:O) (args:List O)
 | NQ (f:Nat) (xs:List O)
 | Dd (sz:Nat) (zs:List V) (x:O)
 | stop
def uS:Value→Option V
 | .bool x=>some (.b x)
 | .int k n=>some (.i k n)
 | .string x=>if x.data.toList.length≤maxLen then some (.s x.data.toList)else none
 | .slice none 0 0=>some .nil
 | .pointer none=>some .ie
 | .map none=>some .fE
 | _=>none
def cO:Operand→Option O
 | .tmp t=>some (.t t)
 | .const v=>(uS v).map .c
 | .func f=>some (.c (.fn f []))
 | .global _=>none
def Q8:List Operand→Option (List O)
 | []=>some []
 | x::xs=>match cO x,Q8 xs with
  | some y,some ys=>some (y::ys)
  | _,_=>none
def iu:List Value→Option (List V)
 | []=>some []
 | x::xs=>match uS x,iu xs with
  | some y,some ys=>some (y::ys)
  | _,_=>none
def oz(P:Program)(n:Nat):List Field→Option (List Nat)
 | []=>some []
 | f::fs=>if f.offset=n∧f.name ≠ "_" then match P.underlying f.type,oz P (n+1) fs with
   | some (.int _),some ks=>some (0::ks)
   | some .string,some ks=>some (1::ks)
   | some .bool,some ks=>some (2::ks)
   | _,_=>none
  else none
def GF(P:Program)(T:Nat):Option (List Nat) :=
 match P.underlying T with
 | some (.struct fs)=>if P.stoodInHeld T=false∧P.eqGuardType P.depth T=false then oz P 0 fs.toList else none
 | some (.array 2 e)=>if P.eqGuardType P.depth T=false∧P.cellsOf e=1 then match P.underlying e with
   | some (.int _)=>some [0,0]
   | _=>none
  else none
 | _=>none
def Of(P:Program)(T:Nat):Bool :=
 match P.underlying T with
 | some (.int _) | some .string=>true
 | _=>false
def No(P:Program)(T:Nat):Bool :=
 match P.underlying T with
 | some .bool=>true
 | _=>false
def gK(P:Program)(T:Nat):Option Bool :=
 match P.underlying T with
 | some (.struct _) | some (.array _ _)=>some true
 | some _=>some false
 | none=>none
def qz:Nat→List (Nat×Operand)→Option (List O)
 | _,[]=>some []
 | n,(i,x)::r=>if i=n then(match cO x,qz (n+1) r with | some y,some ys=>some (y::ys) | _,_=>none)else none
def qA(places:List (Nat×Nat)):List (Nat×Operand)→Option (List (Nat×Nat×O))
 | []=>some []
 | (i,x)::r=>match places[i]?,cO x,qA places r with
  | some (off,sz),some y,some ys=>some ((off,sz,y)::ys)
  | _,_,_=>none
def placesOf(P:Program)(fs:List Field):Option (List (Nat×Nat)):=fs.mapM fun f=>(P.info? f.type).map fun i=>(f.offset,i.size)
def l7(P:Program)(K:Nat):Option Nat :=
 match P.underlying K with
 | some (.int _)=>some 0
 | some .string=>some 1
 | some (.array 2 e)=>match P.underlying e with
  | some (.int _)=>if P.cellsOf e=1 then some 3 else none
  | _=>none
 | _=>none
def ov(kd:Nat)(k:V):Bool:=if kd=3 then(match k with
 | .agg [.i _ _,.i _ _]=>true
 | _=>false)else k.mG
theorem xK{kd:Nat}{k:V}(h:ov kd k=true):k.mG=true:=by
 unfold ov at h;split at h
 ·split at h
  ·rfl
  ·simp at h
 ·exact h
theorem Pg(k:V):ov 0 k=k.mG:=rfl
theorem Pf(k:V):ov 1 k=k.mG:=rfl
theorem Pe(k l:IntKind)(a b:Int):ov 3 (.agg [.i k a,.i l b])=true:=rfl
def rq:Option Operand→Option (Option O)
 | none=>some none
 | some x=>(cO x).map some
def uI:BinOp→Bool
 | .eql | .neq=>true
 | _=>false
def nF(P:Program):Nat→Nat→List (Option Nat)
 | 0,_=>[]
 | d+1,T=>match P.underlying T with
  | some (.slice e)=>[some (P.cellsOf e)]
  | some (.struct fs)=>fs.toList.flatMap fun f=>nF P d f.type
  | _=>[none]
def lG:Option Nat→V→V
 | some sz,.nil=>.sl sz []
 | _,.lit sz xs=>.sl sz xs
 | _,x=>x
def cq:List (Option Nat)→List V→List V
 | s::ss,x::xs=>lG s x::cq ss xs
 | _,xs=>xs
def kz(szs:List (Option Nat)):V→V
 | .agg xs=>.agg (cq szs xs)
 | y=>y
def zeroV(P:Program)(E:Nat):Option V :=
 match P.info? E with
 | some t=>match t.zero with
  | some (.agg cs)=>(iu cs.toList).map fun zs=>.agg (cq (nF P 6 E) zs)
  | some z=>uS z
  | none=>none
 | none=>none
def Es:Value→Bool
 | .int .u8 0=>true
 | _=>false
def km(P:Program)(c:Call):Option I :=
 match c.callee,c.args.toList,c.argTypes.toList with
 | .builtin .len,[x],[T]=>match P.underlying T,cO x with
  | some .string,some x=>some (.len true x)
  | some (.slice _),some x=>some (.len false x)
  | some (.map _ _),some x=>some (.zb x)
  | _,_=>none
 | .builtin .max,[x,y],_=>match cO x,cO y with
  | some x,some y=>some (.max2 x y)
  | _,_=>none
 | .builtin .min,[x,y],_=>match cO x,cO y with
  | some x,some y=>some (.min2 x y)
  | _,_=>none
 | .builtin .append,[x,y],[T,U]=>match P.underlying T,cO x,cO y with
  | some (.slice E),some x,some y=>match P.info? E with
   | some t=>match t.zero with
    | some z=>if T=U then(if 0<t.size∧z.cells.size=t.size then some (.app E t.size t.bytes x y)else none)
     else match P.underlying U with
      | some .string=>if t.size=1∧t.bytes=1∧Es z=true then some (.apps E x y)else none
      | _=>none
    | none=>none
   | none=>none
  | _,_,_=>none
 | .builtin .clear,[x],[T]=>match P.underlying T,cO x with
  | some (.slice E),some x=>match P.info? E with
   | some t=>match t.zero with
    | some z=>if 0<t.size∧z.cells.size=t.size then(iu z.cells.toList).map fun zs=>.Dd t.size (cq (nF P 6 E) zs) x else none
    | none=>none
   | none=>none
  | _,_=>none
 | .value (.func f),args,_=>match P.funcs[f]? with
  | some fn=>if fn.body.isSome∧fn.name ≠ "runtime.NumGoroutine" then(Q8 args).map (.call f)else none
  | none=>none
 | .value (.tmp t),args,_=>(Q8 args).map (.jy (.t t))
 | _,_,_=>none
def Wb:Option Nat→List O→Bool
 | some 23,[.t 18,.t 20,.t 22]=>true
 | some 46,[.t 45]=>true
 | _,_=>false
def HZ:BinOp→Bool
 | .neq=>true
 | _=>false
def compile(P:Program)(o:Oper):Option I :=
 match o.op with
 | .move x | .assign x=>(cO x).map .aK
 | .pick c a b=>match cO c,cO a,cO b with
  | some c,some a,some b=>some (.pick c a b)
  | _,_,_=>none
 | .box T x=>(cO x).map (.box T)
 | .alloc T=>match P.info? T with
  | some t=>match t.zero with
   | some z=>(iu z.cells.toList).map (.alloc T)
   | none=>none
  | none=>none
 | .build T parts=>match P.info? T,P.underlying T with
  | some t,some (.struct fs)=>match t.zero with
   | some z=>match iu z.cells.toList,placesOf P fs.toList with
    | some zs,some places=>(qA places parts.toList).map (.build zs)
    | _,_=>none
   | none=>none
  | some t,some (.array n E)=>match t.zero,P.info? E with
   | some z,some te=>match iu z.cells.toList with
    | some zs=>(qA ((List.range n).map fun i=>(i*te.size,te.size)) parts.toList).map (.build zs)
    | none=>none
   | _,_=>none
  | _,_=>none
 | .buildSlice T len parts=>match P.underlying T with
  | some (.slice E)=>match P.info? E with
   | some t=>match t.zero with
    | some z=>if parts.size=len∧0<t.size∧z.cells.size=t.size∧len*t.size≤2^24 then(qz 0 parts.toList).map fun xs=>if Wb o.dst xs=true then .E7 E t.size t.bytes (nF P 6 E) xs else .bQ t.size (nF P 6 E) xs else none
    | none=>none
   | none=>none
  | _=>none
 | .load T a=>match cO a,gK P T,P.info? T with
  | some a,some true,some t=>some (.load (some t.size) a)
  | some a,some false,some _=>some (.load none a)
  | _,_,_=>none
 | .store T a x=>match cO a,cO x,P.info? T with
  | some a,some x,some t=>some (.store t.size (nF P 6 T) a x)
  | _,_,_=>none
 | .nilCheck x=>(cO x).map .dF
 | .binOp op T x y _=>match cO x,cO y with
  | some x,some y=>if uI op then(if Of P T then some (.bin op x y)else if No P T then some (.NS (HZ op) x y)else(GF P T).map fun ks=>.beq (HZ op) ks x y)else some (.bin op x y)
  | _,_=>none
 | .unOp op _ x=>(cO x).map (.un op)
 | .convert s d x=>match P.underlying s,P.underlying d,cO x with
  | some (.int _),some (.int k),some x=>some (.rn k x)
  | some (.slice e),some .string,some x=>match P.underlying e with
   | some (.int .u8)=>some (.yx x)
   | _=>none
  | _,_,_=>none
 | .slice T x lo hi none=>match P.underlying T,cO x,rq lo,rq hi with
  | some .string,some x,some lo,some hi=>some (.fv x lo hi)
  | some (.slice E),some x,some lo,some hi=>match P.info? E with
   | some t=>some (.slice t.size x lo hi)
   | none=>none
  | some (.array n E),some x,some none,some none=>match P.info? E with
   | some t=>if t.size=1∧n≤1024 then some (.TS n x)else none
   | none=>none
  | _,_,_,_=>none
 | .fieldAddr T x f=>match P.underlying T,cO x with
  | some (.struct fs),some x=>match fs[f]? with
   | some fd=>match P.info? fd.type with
    | some t=>if t.size=0 then none else some (.eG fd.offset x)
    | none=>none
   | none=>none
  | _,_=>none
 | .indexAddr T x i=>match P.underlying T,cO x,cO i with
  | some (.slice E),some x,some i=>match P.info? E with
   | some t=>some (.idx t.size x i)
   | none=>none
  | some (.array n E),some x,some i=>match P.info? E with
   | some t=>some (.C2 n t.size x i)
   | none=>none
  | _,_,_=>none
 | .index T x i=>match P.underlying T,cO x,cO i with
  | some .string,some x,some i=>some (.gQ x i)
  | _,_,_=>none
 | .extract t k=>(cO t).map (.ext k)
 | .makeSlice T l c=>match P.underlying T with
  | some (.slice E)=>match P.info? E with
   | some t=>match t.zero,cO l,cO c with
    | some z,some l,some c=>if 0<t.size∧z.cells.size=t.size then(iu z.cells.toList).map fun zs=>.mk E t.size t.bytes (cq (nF P 6 E) zs) l c else none
    | _,_,_=>none
   | none=>none
  | _=>none
 | .lookup T m k ok=>match P.underlying T,cO m,cO k with
  | some (.map K E),some m,some k=>match l7 P K,zeroV P E with
   | some kd,some z=>some (.look kd z ok m k)
   | _,_=>none
  | _,_,_=>none
 | .mapUpdate T m k x=>match P.underlying T,cO m,cO k,cO x with
  | some (.map K E),some m,some k,some x=>(l7 P K).map fun kd=>.vT kd (nF P 6 E) m k x
  | _,_,_,_=>none
 | .makeMap T none=>match P.underlying T with
  | some (.map K E)=>some (.pk K E)
  | _=>none
 | .call c=>km P c
 | .makeFunc (.func f) first caps=>if first.size=0 then(Q8 caps.toList).map (.NQ f)else none
 | _=>none
def ev(fr:List V):O→V
 | .t n=>fr.getD n .u
 | .c v=>v
def eI:V→List V
 | .agg xs=>xs
 | x=>[x]
def gg(σ:ah):V→Bool
 | .u | .agg _ | .gZ _=>false
 | .own id g=>match σ[id]? with
  | some (.row _ _ _ g' _ _)=>g==g'
  | _=>false
 | .sub id g _ _=>match σ[id]? with
  | some (.row _ _ _ g' _ _)=>g==g'
  | _=>false
 | .rp id g _ _=>match σ[id]? with
  | some (.row _ _ _ g' _ _)=>g==g'
  | _=>false
 | _=>true
def fJ(σ:ah)(x:V):Bool:=match x with
 | .agg xs=>xs.all (gg σ)
 | x=>gg σ x
def rL(cells:List V):List (Nat×Nat×List V)→Option (List V)
 | []=>some cells
 | (off,sz,x)::r=>if x.length=sz∧off+sz≤cells.length then rL (cells.take off++x++cells.drop (off+sz)) r else none
def Br:List V→List V→Option Bool
 | [.i k a,.i l b],[.i k' a',.i l' b']=>if k=k'∧l=l' then some (a==a'&&b==b')else none
 | _,_=>none
def cu:Nat→V→V→Option Bool
 | 0,.i k a,.i k' b=>if k=k' then some (a==b)else none
 | 1,.s a,.s b=>some (a==b)
 | 2,.b a,.b b=>some (a==b)
 | 3,.agg xs,.agg ys=>Br xs ys
 | _,_,_=>none
def fm:List Nat→List V→List V→Option Bool
 | [],[],[]=>some true
 | k::ks,x::xs,y::ys=>match cu k x y,fm ks xs ys with
  | some p,some q=>some (p&&q)
  | _,_=>none
 | _,_,_=>none
def fX(op:BinOp):V→V→Option (Prop×V)
 | .i k a,.i k' b=>match op with
  | .shl=>some (0≤b,.i k (k.wrap (a*2^(min b.toNat k.bits))))
  | .shr=>some (0≤b,.i k (a.fdiv (2^(min b.toNat k.bits))))
  | _=>if k=k' then match op with
   | .add=>some (True,.i k (k.wrap (a+b)))
   | .sub=>some (True,.i k (k.wrap (a - b)))
   | .mul=>some (True,.i k (k.wrap (a*b)))
   | .quo=>some (b≠0,.i k (k.wrap (a.tdiv b)))
   | .rem=>some (b≠0,.i k (a.tmod b))
   | .and=>some (True,.i k (k.wrap ((BitVec.ofInt k.bits a &&& BitVec.ofInt k.bits b).toNat:Int)))
   | .or=>some (True,.i k (k.wrap ((BitVec.ofInt k.bits a ||| BitVec.ofInt k.bits b).toNat:Int)))
   | .xor=>some (True,.i k (k.wrap ((BitVec.ofInt k.bits a ^^^ BitVec.ofInt k.bits b).toNat:Int)))
   | .eql=>some (True,.b (a==b))
   | .neq=>some (True,.b (a != b))
   | .lss=>some (True,.b (a<b))
   | .leq=>some (True,.b (a≤b))
   | .gtr=>some (True,.b (b<a))
   | .geq=>some (True,.b (b≤a))
   | _=>none
   else none
 | .s a,.s b=>match op with
  | .add=>some (a.length+b.length≤maxLen,.s (a++b))
  | .eql=>some (True,.b (a==b))
  | .neq=>some (True,.b (!(a==b)))
  | .lss=>some (True,.b (Op.bytesLess a b))
  | .leq=>some (True,.b (Op.bytesLess a b||a==b))
  | .gtr=>some (True,.b (!(Op.bytesLess a b||a==b)))
  | .geq=>some (True,.b (!Op.bytesLess a b))
  | _=>none
 | _,_=>none
def rowsOf(σ:ah)(sz:Nat):V→Option (List (List V))
 | .nil=>some []
 | .lit sz' xs=>if sz'=sz then some xs else none
 | .sl sz' xs=>if sz'=sz then some xs else none
 | .own id g=>match σ[id]? with
  | some (.row _ sz' _ g' _ xs)=>if g=g'∧sz'=sz then some xs else none
  | _=>none
 | .sub id g lo hi=>match σ[id]? with
  | some (.row _ sz' _ g' _ xs)=>if g=g'∧sz'=sz then some ((xs.drop lo).take (hi - lo))else none
  | _=>none
 | _=>none
def oC:List V→Option UInt8
 | [.i .u8 n]=>some (UInt8.ofNat n.toNat)
 | _=>none
def bytesOf:List (List V)→Option (List UInt8)
 | []=>some []
 | r::rs=>match oC r,bytesOf rs with
  | some x,some xs=>some (x::xs)
  | _,_=>none
def fx(kd:Nat)(k:V):List (V×V)→Nat→Option (Option (Nat×V))
 | [],_=>some none
 | (a,x)::es,i=>match cu kd k a with
  | some true=>some (some (i,x))
  | some false=>fx kd k es (i+1)
  | none=>none
def fU(σ:ah)(kd:Nat)(m k:V):Option (Option (Nat×V)) :=
 match m with
 | .fE=>some none
 | .mp id=>match σ[id]? with
  | some (.map _ _ es)=>fx kd k es 0
  | _=>none
 | _=>none
def aS(fr:List V)(σ:ah):I→Option (Prop×V)
 | .aK x=>some (True,ev fr x)
 | .pick c a b=>match ev fr c with
  | .b x=>some (True,match ev fr a,ev fr b with
   | .b p,.b q=>.b (bif x then p else q)
   | p,q=>bif x then p else q)
  | _=>none
 | .build zs parts=>match rL zs (parts.map fun(off,sz,x)=>(off,sz,eI (ev fr x)))with
  | some cs=>some (∀ p∈parts,fJ σ (ev fr p.2.2)=true,.agg cs)
  | none=>none
 | .bQ sz szs xs=>some ((∀ x∈xs,fJ σ (ev fr x)=true)∧∀ r∈xs.map fun x=>cq szs (eI (ev fr x)),r.length=sz∧∀ c∈r,c.pure=true,.lit sz (xs.map fun x=>cq szs (eI (ev fr x))))
 | .load k a=>match ev fr a with
  | .ptr id off=>match σ[id]? with
   | some (.box _ cs)=>match k with
    | none=>match cs[off]? with
     | some x=>some (True,x)
     | none=>none
    | some n=>some (off+n≤cs.length,.agg ((cs.drop off).take n))
   | _=>none
  | .ep _ xs i off=>match k with
   | none=>match ft xs i off with
    | some x=>some (True,x)
    | none=>none
   | some n=>some (off+n≤(xs.getD i []).length,.agg (((xs.getD i []).drop off).take n))
  | .rp id g i off=>match σ[id]? with
   | some (.row _ _ _ g' _ xs)=>if g=g' then match k with
    | none=>match ft xs i off with
     | some x=>some (True,x)
     | none=>none
    | some n=>some (off+n≤(xs.getD i []).length,.agg (((xs.getD i []).drop off).take n))
    else none
   | _=>none
  | _=>none
 | .dF x=>match ev fr x with
  | .ptr id off=>some (True,.ptr id off)
  | .ep sz xs i off=>some (True,.ep sz xs i off)
  | .rp id g i off=>match σ[id]? with
   | some (.row _ _ _ g' _ _)=>if g=g' then some (True,.rp id g i off)else none
   | _=>none
  | _=>none
 | .bin op x y=>fX op (ev fr x) (ev fr y)
 | .beq neg ks x y=>match ev fr x,ev fr y with
  | .agg xs,.agg ys=>match fm ks xs ys with
   | some r=>some (True,.b (bif neg then !r else r))
   | none=>none
  | _,_=>none
 | .NS neg x y=>match ev fr x,ev fr y with
  | .b p,.b q=>some (True,.b (bif neg then !(p==q)else(p==q)))
  | _,_=>none
 | .un op x=>match op,ev fr x with
  | .not,.b p=>some (True,.b (!p))
  | .neg,.i k n=>some (True,.i k (k.wrap (0 - n)))
  | _,_=>none
 | .rn k x=>match ev fr x with
  | .i _ n=>some (True,.i k (k.wrap n))
  | _=>none
 | .yx x=>match rowsOf σ 1 (ev fr x)with
  | some xs=>match bytesOf xs with
   | some l=>some (True,.s l)
   | none=>none
  | none=>none
 | .slice sz x lo hi =>
  let n:Option Nat:=match ev fr x with
   | .nil=>some 0
   | .lit sz' xs=>if sz'=sz then some xs.length else none
   | .sl sz' xs=>if sz'=sz then some xs.length else none
   | .own id g=>match σ[id]? with
    | some (.row _ sz' _ g' _ xs)=>if g=g'∧sz'=sz then some xs.length else none
    | _=>none
   | _=>none
  match n with
  | none=>none
  | some n =>
   let l:Option Int:=match lo with
    | none=>some 0
    | some x=>match ev fr x with
     | .i _ a=>some a
     | _=>none
   let h:Option Int:=match hi with
    | none=>some n
    | some x=>match ev fr x with
     | .i _ a=>some a
     | _=>none
   match l,h with
   | some l,some h=>match ev fr x with
    | .nil=>some (l=0∧h=0,.nil)
    | .lit _ xs=>some (0≤l∧l≤h∧h≤n,.sl sz ((xs.drop l.toNat).take (h.toNat - l.toNat)))
    | .sl _ xs=>some (0≤l∧l≤h∧h≤n,.sl sz ((xs.drop l.toNat).take (h.toNat - l.toNat)))
    | .own id g=>some (0≤l∧l≤h∧h≤n,.sub id g l.toNat h.toNat)
    | _=>none
   | _,_=>none
 | .fv x lo hi=>match ev fr x with
  | .s a =>
   let l:Option Int:=match lo with
    | none=>some 0
    | some x=>match ev fr x with
     | .i _ a=>some a
     | _=>none
   let h:Option Int:=match hi with
    | none=>some a.length
    | some x=>match ev fr x with
     | .i _ a=>some a
     | _=>none
   match l,h with
   | some l,some h=>some (0≤l∧l≤h∧h≤a.length,.s ((a.drop l.toNat).take (h.toNat - l.toNat)))
   | _,_=>none
  | _=>none
 | .eG off x=>match ev fr x with
  | .ptr id o=>some (True,.ptr id (o+off))
  | .ep sz xs i o=>some (True,.ep sz xs i (o+off))
  | .rp id g i o=>match σ[id]? with
   | some (.row _ _ _ g' _ _)=>if g=g' then some (True,.rp id g i (o+off))else none
   | _=>none
  | _=>none
 | .idx sz x i=>match ev fr i with
  | .i _ n=>match ev fr x with
   | .sl sz' xs=>if sz'=sz then some (0≤n∧n<xs.length,.ep sz xs n.toNat 0)else none
   | .lit sz' xs=>if sz'=sz then some (0≤n∧n<xs.length,.ep sz xs n.toNat 0)else none
   | .own id g=>match σ[id]? with
    | some (.row _ sz' _ g' _ xs)=>if g=g'∧sz'=sz then some (0≤n∧n<xs.length,.rp id g n.toNat 0)else none
    | _=>none
   | .sub id g lo hi=>match σ[id]? with
    | some (.row _ sz' _ g' _ _)=>if g=g'∧sz'=sz then some (0≤n∧n<(hi - lo:Nat),.rp id g (lo+n.toNat) 0)else none
    | _=>none
   | _=>none
  | _=>none
 | .C2 n sz x i=>match ev fr x,ev fr i with
  | .ptr id o,.i _ k=>some (0≤k∧k<n,.ptr id (o+k.toNat*sz))
  | _,_=>none
 | .TS n x=>match ev fr x with
  | .ep _ xs i 0=>if(xs.getD i []).length=n then some (n≤1024,.sl 1 ((xs.getD i []).map fun c=>[c]))else none
  | _=>none
 | .gQ x i=>match ev fr x,ev fr i with
  | .s l,.i _ n=>some (0≤n∧n<l.length,.i .u8 (l.getD n.toNat 0).toNat)
  | _,_=>none
 | .ext k x=>match ev fr x with
  | .gZ xs=>match xs[k]? with
   | some y=>some (True,y)
   | none=>none
  | _=>none
 | .len true x=>match ev fr x with
  | .s l=>some (True,.i .i64 l.length)
  | _=>none
 | .len false x=>match ev fr x with
  | .nil=>some (True,.i .i64 0)
  | .lit _ xs=>some (True,.i .i64 xs.length)
  | .sl _ xs=>some (True,.i .i64 xs.length)
  | .own id g=>match σ[id]? with
   | some (.row _ _ _ g' _ xs)=>if g=g' then some (True,.i .i64 xs.length)else none
   | _=>none
  | .sub id g lo hi=>match σ[id]? with
   | some (.row _ _ _ g' _ _)=>if g=g' then some (True,.i .i64 (hi - lo:Nat))else none
   | _=>none
  | _=>none
 | .zb x=>match ev fr x with
  | .fE=>some (True,.i .i64 0)
  | .mp id=>match σ[id]? with
   | some (.map _ _ es)=>some (True,.i .i64 es.length)
   | _=>none
  | _=>none
 | .look kd z ok m k=>match fU σ kd (ev fr m) (ev fr k)with
  | some none=>some (ov kd (ev fr k)=true,if ok then .gZ [z,.b false]else z)
  | some (some (_,x))=>some (ov kd (ev fr k)=true,if ok then .gZ [x,.b true]else x)
  | none=>none
 | .max2 x y=>match ev fr x,ev fr y with
  | .i k a,.i _ b=>some (True,.i k (if a<b then b else a))
  | _,_=>none
 | .min2 x y=>match ev fr x,ev fr y with
  | .i k a,.i _ b=>some (True,.i k (if b<a then b else a))
  | _,_=>none
 | .NQ f xs=>some (True,.fn f (xs.map (ev fr)))
 | _=>none
def tx(E sz by':Nat)(σ:ah)(x:V)(ys:List (List V)):Option (Prop×V×ah) :=
 match x with
 | .nil=>some (ys.length*by'≤2^47∧ys.length≤maxLen,.own σ.length 0,σ++[.row E sz by' 0 false ys])
 | .lit sz' xs=>if sz'=sz then some ((xs.length+ys.length)*by'≤2^47∧xs.length+ys.length≤maxLen,
   if ys.isEmpty then .lit sz xs else .own σ.length 0,if ys.isEmpty then σ else σ++[.row E sz by' 0 false (xs++ys)])else none
 | .own id g=>match σ[id]? with
  | some (.row E' sz' by2 g' sh xs)=>if g=g'∧E=E'∧sz=sz'∧by'=by2 then
    some ((xs.length+ys.length)*by'≤2^47∧xs.length+ys.length≤maxLen,.own id (g+1),σ.set id (.row E sz by' (g+1) sh (xs++ys)))
   else none
  | _=>none
 | .sub id g lo hi=>match σ[id]? with
  | some (.row E' sz' by2 g' sh xs)=>if g=g'∧E=E'∧sz=sz'∧by'=by2∧lo=0∧sh=false then
    some (hi≤xs.length∧(hi+ys.length)*by'≤2^47∧hi+ys.length≤maxLen,.own id (g+1),σ.set id (.row E sz by' (g+1) false (xs.take hi++ys)))
   else none
  | _=>none
 | _=>none
def aQ(l:List UInt8):List (List V):=l.map fun c=>[V.i .u8 c.toNat]
def cd(fr:List V)(σ:ah):I→Option (Prop×V×ah)
 | .box T x=>some (fJ σ (ev fr x)=true,.ptr σ.length 0,σ++[.box T (eI (ev fr x))])
 | .alloc T zs=>some (True,.ptr σ.length 0,σ++[.box T zs])
 | .store k szs a x=>match ev fr a with
  | .ptr id off=>match σ[id]? with
   | some (.box T cs)=>some (fJ σ (ev fr x)=true∧(eI (ev fr x)).length=k∧off+k≤cs.length,.u,σ.set id (.box T (cs.take off++eI (ev fr x)++cs.drop (off+k))))
   | _=>none
  | .rp id g i off=>match σ[id]? with
   | some (.row E sz by' g' sh xs)=>if g=g'∧sh=false then
     some (fJ σ (ev fr x)=true∧(∀ c∈cq szs (eI (ev fr x)),c.pure=true)∧(eI (ev fr x)).length=k∧off+k≤sz∧i<xs.length,.u,
      σ.set id (.row E sz by' g sh (xs.set i ((xs.getD i []).take off++cq szs (eI (ev fr x))++(xs.getD i []).drop (off+k)))))
    else none
   | _=>none
  | _=>none
 | .app E sz by' x y=>match rowsOf σ sz (ev fr y)with
  | some ys=>tx E sz by' σ (ev fr x) ys
  | none=>none
 | .apps E x y=>match ev fr y with
  | .s l=>tx E 1 1 σ (ev fr x) (aQ l)
  | _=>none
 | .mk E sz by' zs l c=>match ev fr l,ev fr c with
  | .i _ n,.i _ m=>some (0≤n∧(n=m∨n=0)∧0≤m∧m*by'≤2^48∧m≤maxLen∧(∀ z∈zs,z.pure=true),.own σ.length 0,σ++[.row E sz by' 0 false (List.replicate n.toNat zs)])
  | _,_=>none
 | .pk K E=>some (True,.mp σ.length,σ++[.map K E []])
 | .Dd sz zs x=>match ev fr x with
  | .sub id g lo hi=>match σ[id]? with
   | some (.row E sz' by' g' sh xs)=>if g=g'∧sz'=sz∧sh=false then
     some (∀ z∈zs,z.pure=true,.gZ [],σ.set id (.row E sz' by' g' sh (xs.take lo++List.replicate (hi - lo) zs++xs.drop hi)))
    else none
   | _=>none
  | _=>none
 | .E7 E sz by' szs xs=>some ((∀ x∈xs,fJ σ (ev fr x)=true)∧∀ r∈xs.map fun x=>cq szs (eI (ev fr x)),r.length=sz∧∀ c∈r,c.pure=true,.own σ.length 0,σ++[.row E sz by' 0 false (xs.map fun x=>cq szs (eI (ev fr x)))])
 | .vT kd szs m k x =>
  let xv:=kz szs (ev fr x)
  match ev fr m with
  | .mp id=>match σ[id]? with
   | some (.map K E es)=>match fx kd (ev fr k) es 0 with
    | some none=>some (ov kd (ev fr k)=true∧xv.vS=true,.u,σ.set id (.map K E (es++[(ev fr k,xv)])))
    | some (some (i,_))=>some (ov kd (ev fr k)=true∧xv.vS=true,.u,σ.set id (.map K E (es.set i (ev fr k,xv))))
    | none=>none
   | _=>none
  | _=>none
 | _=>none
end Go.Pm

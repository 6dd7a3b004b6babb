/- A part of the proof of the statement of the last text of this claim: for every two lists of integers ReplicaCommutes returns true and leaves the memory as it was. -/
import Derived.Calls
import Derived.Below
import Derived.Laws.AppendOwn
import Derived.Laws.OwnMore
import Derived.Lib.LaidTab
set_option linter.all false

namespace Go.Pm
open Go Go.RowKit
inductive V where
 | u
 | b (x:Bool)
 | i (k:IntKind) (n:Int)
 | s (l:List UInt8)
 | nil
 | lit (sz:Nat) (xs:List (List V))
 | sl (sz:Nat) (xs:List (List V))
 | own (id g:Nat)
 | sub (id g lo hi:Nat)
 | ptr (id off:Nat)
 | ep (sz:Nat) (xs:List (List V)) (i off:Nat)
 | rp (id g i off:Nat)
 | mp (id:Nat)
 | nilmap
 | nilptr
 | fn (f:Nat) (caps:List V)
 | agg (xs:List V)
 | tup (xs:List V)
def V.pure:V→Bool
 | .b _ | .i _ _ | .s _ | .sl _ _=>true
 | _=>false
def V.cell:V→Bool
 | .u | .agg _ | .tup _=>false
 | _=>true
inductive Ob where
 | dead
 | box (T:Nat) (cs:List V)
 | row (E sz by':Nat) (g:Nat) (sh:Bool) (xs:List (List V))
 | map (K E:Nat) (es:List (V×V))
abbrev Store:=List Ob
abbrev Mem:=Nat→Value
def blk:Value→Option Nat
 | .pointer (some a)=>some a.block
 | .slice (some a) _ _=>some a.block
 | .map (some r)=>some r
 | _=>none
def Ob.wat (off:Nat):Ob→Prop
 | .dead=>False
 | .box _ _=>True
 | .row _ sz _ _ sh xs=>sh=true→xs.length*sz≤off
 | .map _ _ _=>True
def wr (σ:Store) (μ:Mem) (b off:Nat):Prop:=∃ id o,σ[id]?=some o∧blk (μ id)=some b∧o.wat off
def at2 (xs:List (List V)) (i j:Nat):Option V:=(xs[i]?).bind (·[j]?)
def subv (v:Value) (lo hi sz:Nat):Value :=
 match v with
 | .slice a _ cap=>.slice (if cap=lo then a else a.map (·.add (lo*sz))) (hi - lo) (cap - lo)
 | v=>v
def rpv (v:Value) (i off sz:Nat):Value :=
 match v with
 | .slice (some a) _ _=>.pointer (some ⟨a.block,i*sz+off,none⟩)
 | v=>v
inductive VR (w:World) (σ:Store) (μ:Mem):V→Value→Prop
 | u (v:Value):VR w σ μ .u v
 | b (x:Bool):VR w σ μ (.b x) (.bool x)
 | i (k:IntKind) (n:Int):VR w σ μ (.i k n) (.int k n)
 | s (l:List UInt8) (x:ByteArray) (hl:x.data.toList=l) (hm:l.length≤maxLen):VR w σ μ (.s l) (.string x)
 | nil:VR w σ μ .nil (.slice none 0 0)
 | sl0 (sz:Nat):VR w σ μ (.sl sz []) (.slice none 0 0)
 | sle (sz:Nat) (a:Addr):VR w σ μ (.sl sz []) (.slice (some a) 0 0)
 | sl (sz:Nat) (xs:List (List V)) (b o cap:Nat) (f:Nat→Nat→Value) (hlen:xs.length≤cap) (hcap:cap≤maxLen) (hrow:∀ r∈xs,r.length=sz)
   (hc:∀ i j x,at2 xs i j=some x→w.cell? ⟨b,o+i*sz+j,none⟩=some (f i j)∧¬ wr σ μ b (o+i*sz+j)∧x.pure=true)
   (hv:∀ i j x,at2 xs i j=some x→VR w σ μ x (f i j)):VR w σ μ (.sl sz xs) (.slice (some ⟨b,o,none⟩) xs.length cap)
 | lit0 (sz:Nat):VR w σ μ (.lit sz []) (.slice none 0 0)
 | lit (sz:Nat) (xs:List (List V)) (b o:Nat) (f:Nat→Nat→Value) (hcap:xs.length≤maxLen) (hrow:∀ r∈xs,r.length=sz)
   (hc:∀ i j x,at2 xs i j=some x→w.cell? ⟨b,o+i*sz+j,none⟩=some (f i j)∧¬ wr σ μ b (o+i*sz+j)∧x.pure=true)
   (hv:∀ i j x,at2 xs i j=some x→VR w σ μ x (f i j)):VR w σ μ (.lit sz xs) (.slice (some ⟨b,o,none⟩) xs.length xs.length)
 | own (id g:Nat) (v:Value) (hid:id<σ.length) (h:∀ E sz by' g' sh xs,σ[id]?=some (.row E sz by' g' sh xs)→g≤g'∧(g=g'→v=μ id)):VR w σ μ (.own id g) v
 | sub (id g lo hi:Nat) (v:Value) (hid:id<σ.length)
   (h:∀ E sz by' g' sh xs,σ[id]?=some (.row E sz by' g' sh xs)→g≤g'∧(g=g'→lo≤hi∧hi≤xs.length∧v=subv (μ id) lo hi sz)):VR w σ μ (.sub id g lo hi) v
 | ptr (id off b:Nat) (h:∃ T cs,σ[id]?=some (.box T cs)) (hm:μ id=.pointer (some ⟨b,0,none⟩)):VR w σ μ (.ptr id off) (.pointer (some ⟨b,off,none⟩))
 | ep (sz:Nat) (xs:List (List V)) (i off b o:Nat) (f:Nat→Value) (hi:i<xs.length) (hrow:∀ r∈xs,r.length=sz)
   (hc:∀ j x,at2 xs i j=some x→w.cell? ⟨b,o+j,none⟩=some (f j)∧¬ wr σ μ b (o+j)∧x.pure=true)
   (hv:∀ j x,at2 xs i j=some x→VR w σ μ x (f j)):VR w σ μ (.ep sz xs i off) (.pointer (some ⟨b,o+off,none⟩))
 | rp (id g i off:Nat) (v:Value) (hid:id<σ.length)
   (h:∀ E sz by' g' sh xs,σ[id]?=some (.row E sz by' g' sh xs)→g≤g'∧(g=g'→i<xs.length∧v=rpv (μ id) i off sz)):VR w σ μ (.rp id g i off) v
 | mp (id r:Nat) (h:∃ K E es,σ[id]?=some (.map K E es)) (hm:μ id=.map (some r)):VR w σ μ (.mp id) (.map (some r))
 | nilmap:VR w σ μ .nilmap (.map none)
 | nilptr:VR w σ μ .nilptr (.pointer none)
 | fn (f:Nat) (caps:List V) (vs:Array Value) (hl:caps.length=vs.size) (hv:∀ i x,caps[i]?=some x→VR w σ μ x (vs.getD i undef)) :
   VR w σ μ (.fn f caps) (.func (.func f) #[] vs)
 | agg (xs:List V) (vs:Array Value) (hl:xs.length=vs.size) (hv:∀ i x,xs[i]?=some x→VR w σ μ x (vs.getD i undef)):VR w σ μ (.agg xs) (.agg vs)
 | tup (xs:List V) (vs:Array Value) (hl:xs.length=vs.size) (hv:∀ i x,xs[i]?=some x→VR w σ μ x (vs.getD i undef)):VR w σ μ (.tup xs) (.tuple vs)
inductive V.Lt (n:Nat):V→Prop
 | u:Lt n .u
 | b (x):Lt n (.b x)
 | i (k a):Lt n (.i k a)
 | s (l):Lt n (.s l)
 | nil:Lt n .nil
 | lit (sz xs):Lt n (.lit sz xs)
 | sl (sz xs):Lt n (.sl sz xs)
 | own (id g) (h:id<n):Lt n (.own id g)
 | sub (id g lo hi) (h:id<n):Lt n (.sub id g lo hi)
 | ptr (id off) (h:id<n):Lt n (.ptr id off)
 | ep (sz xs i off):Lt n (.ep sz xs i off)
 | rp (id g i off) (h:id<n):Lt n (.rp id g i off)
 | mp (id) (h:id<n):Lt n (.mp id)
 | nilmap:Lt n .nilmap
 | nilptr:Lt n .nilptr
 | fn (f caps) (h:∀ (i:Nat) (x:V),caps[i]?=some x→Lt n x):Lt n (.fn f caps)
 | agg (xs) (h:∀ (i:Nat) (x:V),xs[i]?=some x→Lt n x):Lt n (.agg xs)
 | tup (xs) (h:∀ (i:Nat) (x:V),xs[i]?=some x→Lt n x):Lt n (.tup xs)
theorem VR.lt {w:World} {σ:Store} {μ:Mem} {x:V} {v:Value} (h:VR w σ μ x v):x.Lt σ.length:=by
 induction h with
 | u v=>exact .u
 | b x=>exact .b x
 | i k n=>exact .i k n
 | s l x hl hm=>exact .s l
 | nil=>exact .nil
 | sl0 sz=>exact .sl sz _
 | sle sz a=>exact .sl sz _
 | sl sz xs b o cap f hlen hcap hrow hc hv ih=>exact .sl sz xs
 | lit0 sz=>exact .lit sz _
 | lit sz xs b o f hcap hrow hc hv ih=>exact .lit sz xs
 | own id g v hid h=>exact .own id g hid
 | sub id g lo hi v hid h=>exact .sub id g lo hi hid
 | ptr id off b h hm =>
  obtain ⟨T,cs,h1⟩:=h
  exact .ptr id off (List.getElem?_eq_some_iff.1 h1).1
 | ep sz xs i off b o f hi hrow hc hv ih=>exact .ep sz xs i off
 | rp id g i off v hid h=>exact .rp id g i off hid
 | mp id r h hm =>
  obtain ⟨K,E,es,h1⟩:=h
  exact .mp id (List.getElem?_eq_some_iff.1 h1).1
 | nilmap=>exact .nilmap
 | nilptr=>exact .nilptr
 | fn f caps vs hl hv ih=>exact .fn f caps ih
 | agg xs vs hl hv ih=>exact .agg xs ih
 | tup xs vs hl hv ih=>exact .tup xs ih
theorem V.Lt.mono {n m:Nat} {x:V} (h:x.Lt n) (hm:n≤m):x.Lt m:=by
 induction h with
 | u=>exact .u
 | b x=>exact .b x
 | i k a=>exact .i k a
 | s l=>exact .s l
 | nil=>exact .nil
 | lit sz xs=>exact .lit sz xs
 | sl sz xs=>exact .sl sz xs
 | own id g h=>exact .own id g (Nat.lt_of_lt_of_le h hm)
 | sub id g lo hi h=>exact .sub id g lo hi (Nat.lt_of_lt_of_le h hm)
 | ptr id off h=>exact .ptr id off (Nat.lt_of_lt_of_le h hm)
 | ep sz xs i off=>exact .ep sz xs i off
 | rp id g i off h=>exact .rp id g i off (Nat.lt_of_lt_of_le h hm)
 | mp id h=>exact .mp id (Nat.lt_of_lt_of_le h hm)
 | nilmap=>exact .nilmap
 | nilptr=>exact .nilptr
 | fn f caps h ih=>exact .fn f caps ih
 | agg xs h ih=>exact .agg xs ih
 | tup xs h ih=>exact .tup xs ih
structure Pres (w:World) (σ:Store) (μ:Mem) (w':World) (σ':Store) (μ':Mem):Prop where
 cell:∀ b o v,w.cell? ⟨b,o,none⟩=some v→¬ wr σ μ b o→w'.cell? ⟨b,o,none⟩=some v∧¬ wr σ' μ' b o
 len:σ.length≤σ'.length
 box:∀ id T cs,σ[id]?=some (.box T cs)→(∃ cs',σ'[id]?=some (.box T cs'))∧μ' id=μ id
 map:∀ id K E es,σ[id]?=some (.map K E es)→(∃ es',σ'[id]?=some (.map K E es'))∧μ' id=μ id
 row:∀ id E sz by' g' sh xs,id<σ.length→σ'[id]?=some (.row E sz by' g' sh xs)→∃ g sh0 xs0,σ[id]?=some (.row E sz by' g sh0 xs0)∧g≤g'∧(g=g'→xs0.length=xs.length∧μ' id=μ id)
theorem VR.mono {w:World} {σ:Store} {μ:Mem} {w':World} {σ':Store} {μ':Mem} (p:Pres w σ μ w' σ' μ') {x:V} {v:Value} (h:VR w σ μ x v):VR w' σ' μ' x v:=by
 induction h with
 | u v=>exact .u v
 | b x=>exact .b x
 | i k n=>exact .i k n
 | s l x hl hm=>exact .s l x hl hm
 | nil=>exact .nil
 | sl0 sz=>exact .sl0 sz
 | sle sz a=>exact .sle sz a
 | sl sz xs b o cap f hlen hcap hrow hc hv ih =>
  exact .sl sz xs b o cap f hlen hcap hrow (fun i j x hx=>⟨(p.cell _ _ _ (hc i j x hx).1 (hc i j x hx).2.1).1,(p.cell _ _ _ (hc i j x hx).1 (hc i j x hx).2.1).2,(hc i j x hx).2.2⟩) ih
 | lit0 sz=>exact .lit0 sz
 | lit sz xs b o f hcap hrow hc hv ih =>
  exact .lit sz xs b o f hcap hrow (fun i j x hx=>⟨(p.cell _ _ _ (hc i j x hx).1 (hc i j x hx).2.1).1,(p.cell _ _ _ (hc i j x hx).1 (hc i j x hx).2.1).2,(hc i j x hx).2.2⟩) ih
 | own id g v hid h =>
  refine .own id g v (Nat.lt_of_lt_of_le hid p.len) fun E sz by' g' sh xs hs=>?_
  obtain ⟨g1,sh',xs',h1,h2,h3⟩:=p.row id E sz by' g' sh xs hid hs
  have h4:=h _ _ _ _ _ _ h1
  refine ⟨Nat.le_trans h4.1 h2,fun hg=>?_⟩
  have e1:g1=g':=by omega
  rw [(h3 e1).2];exact h4.2 (by omega)
 | sub id g lo hi v hid h =>
  refine .sub id g lo hi v (Nat.lt_of_lt_of_le hid p.len) fun E sz by' g' sh xs hs=>?_
  obtain ⟨g1,sh',xs',h1,h2,h3⟩:=p.row id E sz by' g' sh xs hid hs
  have h4:=h _ _ _ _ _ _ h1
  refine ⟨Nat.le_trans h4.1 h2,fun hg=>?_⟩
  have e1:g1=g':=by omega
  rw [(h3 e1).2,← (h3 e1).1];exact h4.2 (by omega)
 | ptr id off b h hm =>
  obtain ⟨T,cs,h1⟩:=h
  obtain ⟨⟨cs',h2⟩,h3⟩:=p.box id T cs h1
  exact .ptr id off b ⟨T,cs',h2⟩ (h3.trans hm)
 | ep sz xs i off b o f hi hrow hc hv ih =>
  exact .ep sz xs i off b o f hi hrow (fun j x hx=>⟨(p.cell _ _ _ (hc j x hx).1 (hc j x hx).2.1).1,(p.cell _ _ _ (hc j x hx).1 (hc j x hx).2.1).2,(hc j x hx).2.2⟩) ih
 | rp id g i off v hid h =>
  refine .rp id g i off v (Nat.lt_of_lt_of_le hid p.len) fun E sz by' g' sh xs hs=>?_
  obtain ⟨g1,sh',xs',h1,h2,h3⟩:=p.row id E sz by' g' sh xs hid hs
  have h4:=h _ _ _ _ _ _ h1
  refine ⟨Nat.le_trans h4.1 h2,fun hg=>?_⟩
  have e1:g1=g':=by omega
  rw [(h3 e1).2,← (h3 e1).1];exact h4.2 (by omega)
 | mp id r h hm =>
  obtain ⟨K,E,es,h1⟩:=h
  obtain ⟨⟨es',h2⟩,h3⟩:=p.map id K E es h1
  exact .mp id r ⟨K,E,es',h2⟩ (h3.trans hm)
 | nilmap=>exact .nilmap
 | nilptr=>exact .nilptr
 | fn f caps vs hl hv ih=>exact .fn f caps vs hl ih
 | agg xs vs hl hv ih=>exact .agg xs vs hl ih
 | tup xs vs hl hv ih=>exact .tup xs vs hl ih
theorem Pres.refl (w:World) (σ:Store) (μ:Mem):Pres w σ μ w σ μ :=
 ⟨fun _ _ _ h h'=>⟨h,h'⟩,Nat.le_refl _,fun _ _ cs h=>⟨⟨cs,h⟩,rfl⟩,fun _ _ _ es h=>⟨⟨es,h⟩,rfl⟩,fun _ _ _ _ g sh xs _ h=>⟨g,sh,xs,h,Nat.le_refl _,fun _=>⟨rfl,rfl⟩⟩⟩
def Keep (w:World) (σ:Store) (μ:Mem) (w':World) (σ':Store) (μ':Mem):Prop:=∀ x v,VR w σ μ x v→VR w' σ' μ' x v
theorem Pres.keep {w:World} {σ:Store} {μ:Mem} {w':World} {σ':Store} {μ':Mem} (p:Pres w σ μ w' σ' μ'):Keep w σ μ w' σ' μ':=fun _ _ h=>h.mono p
def KeepN (n:Nat) (w:World) (σ:Store) (μ:Mem) (w':World) (σ':Store) (μ':Mem):Prop:=∀ x v,VR w σ μ x v→x.Lt n→VR w' σ' μ' x v
theorem Keep.toN {n:Nat} {w:World} {σ:Store} {μ:Mem} {w':World} {σ':Store} {μ':Mem} (k:Keep w σ μ w' σ' μ'):KeepN n w σ μ w' σ' μ':=fun x v h _=>k x v h
theorem KeepN.refl (n:Nat) (w:World) (σ:Store) (μ:Mem):KeepN n w σ μ w σ μ:=fun _ _ h _=>h
theorem KeepN.trans {n:Nat} {w:World} {σ:Store} {μ:Mem} {w':World} {σ':Store} {μ':Mem} {w'':World} {σ'':Store} {μ'':Mem}
  (h:KeepN n w σ μ w' σ' μ') (k:KeepN n w' σ' μ' w'' σ'' μ''):KeepN n w σ μ w'' σ'' μ'':=fun x v hx hl=>k x v (h x v hx hl) hl
theorem Keep.refl (w:World) (σ:Store) (μ:Mem):Keep w σ μ w σ μ:=fun _ _ h=>h
theorem Keep.trans {w:World} {σ:Store} {μ:Mem} {w':World} {σ':Store} {μ':Mem} {w'':World} {σ'':Store} {μ'':Mem}
  (h:Keep w σ μ w' σ' μ') (k:Keep w' σ' μ' w'' σ'' μ''):Keep w σ μ w'' σ'' μ'':=fun x v hx=>k x v (h x v hx)
def Ti (P:Program) (E sz by':Nat):Prop :=
 0<sz∧∃ (t:TypeInfo) (z:Value),P.info? E=some t∧t.zero=some z∧t.size=sz∧t.bytes=by'∧z.cells.size=sz
def RowR (w:World) (σ:Store) (μ:Mem) (xs:List (List V)) (sz:Nat) (vals:List Value):Prop :=
 (∀ r∈xs,r.length=sz)∧∀ i j x,at2 xs i j=some x→x.pure=true∧∃ v,vals[i*sz+j]?=some v∧VR w σ μ x v
def V.scal:V→Bool
 | .i _ _ | .s _ | .b _=>true
 | _=>false
def V.mkey:V→Bool
 | .i _ _ | .s _ | .b _=>true
 | .agg xs=>xs.all V.scal
 | _=>false
def V.mval:V→Bool
 | .agg xs=>xs.all V.pure
 | x=>x.pure
def MapR (w:World) (σ:Store) (μ:Mem) (es:List (V×V)) (ents:Array MapEntry) (clock:Nat):Prop :=
 ents.size=es.length∧(∀ (i:Nat) (k x:V),es[i]?=some (k,x)→k.mkey=true∧x.mval=true∧∃ e,ents[i]?=some e∧VR w σ μ k e.key∧VR w σ μ x e.val) ∧
 (∀ (i:Nat) (e:MapEntry),ents[i]?=some e→e.born<clock)∧(∀ (i j:Nat) (e e':MapEntry),ents[i]?=some e→ents[j]?=some e'→e.born=e'.born→i=j)
def ObOK (P:Program) (B:Nat) (w:World) (σ:Store) (μ:Mem) (v:Value):Ob→Prop
 | .dead=>True
 | .box T cs=>∃ (b:Nat) (vs:Array Value),v=.pointer (some ⟨b,0,none⟩)∧B≤b∧w.heap[b]?=some (.cells vs T (0,0))∧vs.size=cs.length ∧
   ∀ (j:Nat) (x:V),cs[j]?=some x→∃ u,vs[j]?=some u∧VR w σ μ x u
 | .row E sz by' _ _ xs=>Ti P E sz by'∧∃ vals:List Value,w.ownsRow B E sz v xs.length vals∧RowR w σ μ xs sz vals
 | .map _ _ es=>∃ (r:Nat) (ents:Array MapEntry) (clock:Nat),v=.map (some r)∧B≤r∧w.heap[r]?=some (.map ents clock)∧MapR w σ μ es ents clock
def pow10s:List Int:=[1,10,100,1000,10000,100000,1000000,10000000,100000000,1000000000,10000000000,100000000000,1000000000000,10000000000000,100000000000000,1000000000000000,10000000000000000,100000000000000000,1000000000000000000,10000000000000000000]
def tabs:List (String×IntKind×List Int):=[("internal/strconv.uint64pow10",.u64,pow10s)]
def Laid (P:Program) (B:Nat) (w:World):Prop:=∀ t∈tabs,∀ g,P.globalNamed t.1=some g→g<B∧Lib.TabIs P w t.1 t.2.1 t.2.2
structure BelowL (P:Program) (B:Nat) (w0 w:World):Prop extends Below B w0 w where
 laid:Laid P B w0
theorem BelowL.grown {P:Program} {B:Nat} {a w w':World} {row:Option Nat} (h:BelowL P B a w) (hg:w.grownBy w' row) (hB:B≤w.heap.size) (hr:∀ k,row=some k→B≤k):BelowL P B a w' :=
 ⟨h.toBelow.grown hg hB hr,h.laid⟩
theorem BelowL.tab {P:Program} {B:Nat} {w0 w:World} (h:BelowL P B w0 w) {t:String×IntKind×List Int} (ht:t∈tabs) {g:Nat} (hg:P.globalNamed t.1=some g):Lib.TabIs P w t.1 t.2.1 t.2.2:=by
 obtain ⟨h1,h2⟩:=h.laid t ht g hg
 unfold Lib.TabIs World.var? at h2 ⊢
 simp only [hg,Option.bind_some] at h2 ⊢
 rw [h.block g h1]
 exact h2
structure Sim (P:Program) (B:Nat) (w0 w:World) (σ:Store) (μ:Mem):Prop where
 below:BelowL P B w0 w
 base:B≤w.heap.size
 obj:∀ id o,σ[id]?=some o→ObOK P B w σ μ (μ id) o
 sep:∀ i j oi oj b,σ[i]?=some oi→σ[j]?=some oj→oi≠.dead→oj≠.dead→blk (μ i)=some b→blk (μ j)=some b→i=j
def FR (w:World) (σ:Store) (μ:Mem) (fr:List V) (a:Act):Prop :=
 a.defers=[]∧a.tmps.size=fr.length∧∀ i x,fr[i]?=some x→VR w σ μ x (a.tmps.getD i undef)
theorem FR.keep {w:World} {σ:Store} {μ:Mem} {w':World} {σ':Store} {μ':Mem} (k:Keep w σ μ w' σ' μ') {fr:List V} {a:Act} (h:FR w σ μ fr a):FR w' σ' μ' fr a :=
 ⟨h.1,h.2.1,fun i x hx=>k _ _ (h.2.2 i x hx)⟩
structure St where
 fr:List V
 σ:Store
def VRs (w:World) (σ:Store) (μ:Mem) (xs:List V) (vs:Array Value):Prop:=vs.size=xs.length∧∀ i x,xs[i]?=some x→VR w σ μ x (vs.getD i undef)
def PC (P:Program) (f:Nat) (args:List V) (σ:Store) (Q:V→Store→Prop):Prop :=
 ∀ (B:Nat) (w0 w:World) (μ:Mem) (vs:Array Value),Sim P B w0 w σ μ→VRs w σ μ args vs →
  Calls P f vs w fun e w'=>∃ r v σ' μ',e=.returned v∧Q r σ'∧Sim P B w0 w' σ' μ'∧VR w' σ' μ' r v∧Keep w σ μ w' σ' μ'
def PW (n:Nat) (P:Program) (c:Code) (K:Exit→St→Prop) (st:St):Prop :=
 ∀ (B:Nat) (w0 w:World) (μ:Mem) (a:Act),Sim P B w0 w st.σ μ→FR w st.σ μ st.fr a →
  c.wp P (fun e a' w'=>∃ st' μ',K e st'∧Sim P B w0 w' st'.σ μ'∧FR w' st'.σ μ' st'.fr a'∧KeepN n w st.σ μ w' st'.σ μ') a w
theorem PC.mono {P:Program} {f:Nat} {args:List V} {σ:Store} {Q Q':V→Store→Prop} (h:PC P f args σ Q) (hq:∀ r σ',Q r σ'→Q' r σ'):PC P f args σ Q' :=
 fun B w0 w μ vs hs hv=>(h B w0 w μ vs hs hv).mono fun _ _ ⟨r,v,σ',μ',he,hQ,rest⟩=>⟨r,v,σ',μ',he,hq _ _ hQ,rest⟩
theorem PW.mono {n:Nat} {P:Program} {c:Code} {K K':Exit→St→Prop} {st:St} (h:PW n P c K st) (hk:∀ e st',K e st'→K' e st'):PW n P c K' st :=
 fun B w0 w μ a hs hf=>wp_mono (h B w0 w μ a hs hf) fun _ _ _ ⟨st',μ',hK,rest⟩=>⟨st',μ',hk _ _ hK,rest⟩
theorem PW.skip {n:Nat} {P:Program} {K:Exit→St→Prop} {st:St} (h:K .normal st):PW n P .skip K st :=
 fun _ _ _ μ _ hs hf=>wp_skip ⟨st,μ,h,hs,hf,KeepN.refl _ _ _ _⟩
theorem PW.ret {n:Nat} {P:Program} {K:Exit→St→Prop} {st:St} (h:K .ret st):PW n P .ret K st :=
 fun _ _ _ μ _ hs hf=>wp_ret ⟨st,μ,h,hs,hf,KeepN.refl _ _ _ _⟩
theorem PW.exit {n:Nat} {P:Program} {id:Nat} {K:Exit→St→Prop} {st:St} (h:K (.exit id) st):PW n P (.exit id) K st :=
 fun _ _ _ μ _ hs hf=>wp_exit ⟨st,μ,h,hs,hf,KeepN.refl _ _ _ _⟩
def thenK (n:Nat) (P:Program) (y:Code) (K:Exit→St→Prop):Exit→St→Prop
 | .normal,st=>PW n P y K st
 | e,st=>K e st
theorem PW.seq {n:Nat} {P:Program} {x y:Code} {K:Exit→St→Prop} {st:St} (h:PW n P x (thenK n P y K) st):PW n P (.seq x y) K st:=by
 intro B w0 w μ a hs hf
 refine wp_seq (wp_mono (h B w0 w μ a hs hf) ?_)
 rintro e a' w' ⟨st',μ',hK,hs',hf',hk⟩
 cases e with
 | normal=>exact wp_mono (hK B w0 w' μ' a' hs' hf') fun _ _ _ ⟨st2,μ2,h1,h2,h3,h4⟩=>⟨st2,μ2,h1,h2,h3,hk.trans h4⟩
 | exit id=>exact ⟨st',μ',hK,hs',hf',hk⟩
 | goto l=>exact ⟨st',μ',hK,hs',hf',hk⟩
 | ret=>exact ⟨st',μ',hK,hs',hf',hk⟩
 | panic c=>exact ⟨st',μ',hK,hs',hf',hk⟩
 | outgrown=>exact ⟨st',μ',hK,hs',hf',hk⟩
def blockK (id:Nat) (K:Exit→St→Prop):Exit→St→Prop
 | .exit id',st=>if id'=id then K .normal st else K (.exit id') st
 | e,st=>K e st
theorem PW.block {n:Nat} {P:Program} {id:Nat} {c:Code} {K:Exit→St→Prop} {st:St} (h:PW n P c (blockK id K) st):PW n P (.block id c) K st:=by
 intro B w0 w μ a hs hf
 refine wp_block (wp_mono (h B w0 w μ a hs hf) ?_)
 rintro e a' w' ⟨st',μ',hK,hs',hf',hk⟩
 cases e with
 | normal=>exact ⟨st',μ',hK,hs',hf',hk⟩
 | exit id' =>
  by_cases hid:id'=id
  ·subst hid
   simp only [blockK,if_true] at hK
   simp only [Exit.inBlock,if_true]
   exact ⟨st',μ',hK,hs',hf',hk⟩
  ·simp only [blockK,hid,if_false] at hK
   simp only [Exit.inBlock,hid,if_false]
   exact ⟨st',μ',hK,hs',hf',hk⟩
 | goto l=>exact ⟨st',μ',hK,hs',hf',hk⟩
 | ret=>exact ⟨st',μ',hK,hs',hf',hk⟩
 | panic c=>exact ⟨st',μ',hK,hs',hf',hk⟩
 | outgrown=>exact ⟨st',μ',hK,hs',hf',hk⟩
theorem wp_loop_bounded {P:Program} {Q:Exit→Act→World→Prop} {a:Act} {w:World} {c:Code} (n:Nat) (J:Nat→Act→World→Prop) (h0:J n a w)
  (round:∀ k a w,J k a w→c.wp P (Exit.then (fun a' w'=>∃ k',k'<k∧J k' a' w') Q) a w):(Code.loop c).wp P Q a w:=by
 intro b k cs
 have key:∀ n a w,J n a w→∃ e a' w',Q e a' w'∧Arrives P (lone (b.at a (.code c::.inLoop c::k)) cs w) b k cs e a' w':=by
  intro n
  induction n using Nat.strongRecOn with
  | _ n ih =>
   intro a w hJ
   obtain ⟨e,a₁,w₁,hq,harr⟩:=round n a w hJ b (.inLoop c::k) cs
   cases e with
   | normal =>
    obtain ⟨k',hlt,hJ₁⟩:=hq
    obtain ⟨e₂,a₂,w₂,hq₂,harr₂⟩:=ih k' hlt a₁ w₁ hJ₁
    exact ⟨e₂,a₂,w₂,hq₂,.of_steps (Steps.trans harr (.one step_inLoop)) harr₂⟩
   | exit id=>exact ⟨_,a₁,w₁,hq,.pass (x:=.inLoop c) rfl (fun _ _=>.inl (by simp)) harr⟩
   | goto l=>exact ⟨_,a₁,w₁,hq,.pass (x:=.inLoop c) rfl (fun _ _=>.inl (by simp)) harr⟩
   | ret=>exact ⟨_,a₁,w₁,hq,.pass (x:=.inLoop c) rfl (fun _ _=>.inl (by simp)) harr⟩
   | panic ch=>exact ⟨_,a₁,w₁,hq,.pass (x:=.inLoop c) rfl (fun _ _=>.inl (by simp)) harr⟩
   | outgrown=>exact ⟨_,a₁,w₁,hq,.pass (x:=.inLoop c) rfl (fun _ _=>.inl (by simp)) harr⟩
 obtain ⟨e,a',w',hq,harr⟩:=key _ a w h0
 exact ⟨e,a',w',hq,.of_steps (.one step_loop) harr⟩
def loopK (I:St→Prop) (m:St→Nat) (k:Nat) (K:Exit→St→Prop):Exit→St→Prop
 | .normal,st=>I st∧m st<k
 | e,st=>K e st
theorem PW.loop {n:Nat} {P:Program} {c:Code} {K:Exit→St→Prop} {st:St} (I:St→Prop) (m:St→Nat) (h0:I st) (h:∀ st,I st→PW n P c (loopK I m (m st) K) st):PW n P (.loop c) K st:=by
 intro B w0 w μ a hs hf
 have key:∀ (N:Nat) (st1:St) (w1:World) (μ1:Mem) (a1:Act),m st1=N→I st1→Sim P B w0 w1 st1.σ μ1→FR w1 st1.σ μ1 st1.fr a1→KeepN n w st.σ μ w1 st1.σ μ1 →
   (Code.loop c).wp P (fun e a' w'=>∃ st' μ',K e st'∧Sim P B w0 w' st'.σ μ'∧FR w' st'.σ μ' st'.fr a'∧KeepN n w st.σ μ w' st'.σ μ') a1 w1:=by
  intro N st1 w1 μ1 a1 hn hI hs1 hf1 hk1
  refine wp_loop_bounded N (fun k a2 w2=>∃ st2 μ2,m st2=k∧I st2∧Sim P B w0 w2 st2.σ μ2∧FR w2 st2.σ μ2 st2.fr a2∧KeepN n w st.σ μ w2 st2.σ μ2) ⟨st1,μ1,hn,hI,hs1,hf1,hk1⟩ ?_
  rintro k a2 w2 ⟨st2,μ2,hm2,hI2,hs2,hf2,hk2⟩
  refine wp_mono (h st2 hI2 B w0 w2 μ2 a2 hs2 hf2) ?_
  rintro e a' w' ⟨st',μ',hK,hs',hf',hk⟩
  cases e with
  | normal=>exact ⟨m st',hm2▸hK.2,st',μ',rfl,hK.1,hs',hf',hk2.trans hk⟩
  | exit id=>exact ⟨st',μ',hK,hs',hf',hk2.trans hk⟩
  | goto l=>exact ⟨st',μ',hK,hs',hf',hk2.trans hk⟩
  | ret=>exact ⟨st',μ',hK,hs',hf',hk2.trans hk⟩
  | panic c=>exact ⟨st',μ',hK,hs',hf',hk2.trans hk⟩
  | outgrown=>exact ⟨st',μ',hK,hs',hf',hk2.trans hk⟩
 exact key _ st w μ a rfl h0 hs hf (KeepN.refl _ _ _ _)
theorem ownsRow_same {w w':World} {base:Nat} {e:TypeId} {size:Nat} {v:Value} {n:Nat} {xs:List Value} (h:w.ownsRow base e size v n xs)
  (hb:∀ g,blk v=some g→w'.heap[g]?=w.heap[g]?):w'.ownsRow base e size v n xs:=by
 obtain ⟨h1,h2⟩:=h
 refine ⟨h1,?_⟩
 rcases h2 with h2 | ⟨g,cap,cur,hv,hg,hh,r⟩
 ·exact .inl h2
 ·exact .inr ⟨g,cap,cur,hv,hg,by rw [hb g (by simp [hv,blk])];exact hh,r⟩
theorem ObOK.blk_ge {P:Program} {B:Nat} {w:World} {σ:Store} {μ:Mem} {v:Value} {o:Ob} (h:ObOK P B w σ μ v o) (ho:o≠.dead) {b:Nat} (hb:blk v=some b):B≤b∧b<w.heap.size:=by
 cases o with
 | dead=>exact absurd rfl ho
 | box T cs =>
  obtain ⟨b',vs,rfl,h1,h2,_⟩:=h
  simp only [blk,Option.some.injEq] at hb
  subst hb
  exact ⟨h1,(Array.getElem?_eq_some_iff.1 h2).1⟩
 | row E sz by' g sh xs =>
  obtain ⟨_,vals,⟨_,h2⟩,_⟩:=h
  rcases h2 with ⟨rfl,_⟩ | ⟨g,cap,cur,rfl,hg,hh,_⟩
  ·simp [blk] at hb
  ·simp only [blk,Option.some.injEq] at hb
   subst hb
   exact ⟨hg,(Array.getElem?_eq_some_iff.1 hh).1⟩
 | map K E es =>
  obtain ⟨r,ents,clock,rfl,h1,h2,_⟩:=h
  simp only [blk,Option.some.injEq] at hb
  subst hb
  exact ⟨h1,(Array.getElem?_eq_some_iff.1 h2).1⟩
theorem RowR.keep {w:World} {σ:Store} {μ:Mem} {w':World} {σ':Store} {μ':Mem} {xs:List (List V)} {sz:Nat} {vals:List Value} (h:RowR w σ μ xs sz vals) (k:Keep w σ μ w' σ' μ'):RowR w' σ' μ' xs sz vals :=
 ⟨h.1,fun i j x hx=>⟨(h.2 i j x hx).1,let ⟨v,h1,h2⟩:=(h.2 i j x hx).2;⟨v,h1,k _ _ h2⟩⟩⟩
theorem MapR.keep {w:World} {σ:Store} {μ:Mem} {w':World} {σ':Store} {μ':Mem} {es:List (V×V)} {ents:Array MapEntry} {clock:Nat} (h:MapR w σ μ es ents clock) (k:Keep w σ μ w' σ' μ'):MapR w' σ' μ' es ents clock :=
 ⟨h.1,fun i a x hx=>let ⟨h1,h2,e,h3,h4,h5⟩:=h.2.1 i a x hx;⟨h1,h2,e,h3,k _ _ h4,k _ _ h5⟩,h.2.2⟩
theorem ObOK.keep {P:Program} {B:Nat} {w:World} {σ:Store} {μ:Mem} {w':World} {σ':Store} {μ':Mem} {v:Value} {o:Ob} (h:ObOK P B w σ μ v o) (k:Keep w σ μ w' σ' μ')
  (hb:∀ b,blk v=some b→w'.heap[b]?=w.heap[b]?):ObOK P B w' σ' μ' v o:=by
 cases o with
 | dead=>trivial
 | box T cs =>
  obtain ⟨b',vs,rfl,h1,h2,h3,h4⟩:=h
  exact ⟨b',vs,rfl,h1,by rw [hb b' rfl];exact h2,h3,fun j x hx=>let ⟨u,h5,h6⟩:=h4 j x hx;⟨u,h5,k _ _ h6⟩⟩
 | row E sz by' g sh xs =>
  obtain ⟨ht,vals,h1,h2⟩:=h
  exact ⟨ht,vals,ownsRow_same h1 hb,h2.keep k⟩
 | map K E es =>
  obtain ⟨r,ents,clock,rfl,h1,h2,h3⟩:=h
  exact ⟨r,ents,clock,rfl,h1,by rw [hb r rfl];exact h2,h3.keep k⟩
theorem Sim.blk_ge {P:Program} {B:Nat} {w0 w:World} {σ:Store} {μ:Mem} (h:Sim P B w0 w σ μ) {id:Nat} {o:Ob} (ho:σ[id]?=some o) (hd:o≠.dead) {b:Nat} (hb:blk (μ id)=some b):B≤b∧b<w.heap.size :=
 (h.obj id o ho).blk_ge hd hb
theorem Sim.update {P:Program} {B:Nat} {w0 w:World} {σ:Store} {μ:Mem} {w':World} {σ':Store} {μ':Mem} (hS:Sim P B w0 w σ μ) (id:Nat) (row:Option Nat)
  (hg:w.grownBy w' row)
  (hrow:∀ b,row=some b→∃ o,σ[id]?=some o∧o≠.dead∧blk (μ id)=some b)
  (hlen:σ.length≤σ'.length)
  (hσ:∀ j,j≠id→σ'[j]?=σ[j]?)
  (hμ:∀ j,j≠id→μ' j=μ j)
  (hnew:∀ b,blk (μ' id)=some b→(∃ o,σ[id]?=some o∧o≠.dead∧blk (μ id)=some b)∨w.heap.size≤b)
  (hcell:∀ b off v o,σ[id]?=some o→o≠.dead→blk (μ id)=some b→w.cell? ⟨b,off,none⟩=some v→¬ wr σ μ b off →
   w'.cell? ⟨b,off,none⟩=some v∧∀ o',σ'[id]?=some o'→blk (μ' id)=some b→¬ o'.wat off)
  (hbox:∀ T cs,σ[id]?=some (.box T cs)→(∃ cs',σ'[id]?=some (.box T cs'))∧μ' id=μ id)
  (hmap:∀ K E es,σ[id]?=some (.map K E es)→(∃ es',σ'[id]?=some (.map K E es'))∧μ' id=μ id)
  (hrg:∀ E sz by' g' sh xs,id<σ.length→σ'[id]?=some (.row E sz by' g' sh xs)→∃ g sh0 xs0,σ[id]?=some (.row E sz by' g sh0 xs0)∧g≤g'∧(g=g'→xs0.length=xs.length∧μ' id=μ id))
  (hob:Pres w σ μ w' σ' μ'→∀ o,σ'[id]?=some o→ObOK P B w' σ' μ' (μ' id) o) :
  Sim P B w0 w' σ' μ'∧Pres w σ μ w' σ' μ':=by
 have hp:Pres w σ μ w' σ' μ':=by
  refine ⟨fun b off v hc hw=>?_,hlen,fun j T cs hj=>?_,fun j K E es hj=>?_,fun j E sz by' g' sh xs hjl hj=>?_⟩
  ·have hlt:=World.block_lt_of_cell? w _ hc
   refine ⟨?_,?_⟩
   ·by_cases hb:some b=row
    ·obtain ⟨o,h1,h2,h3⟩:=hrow b hb.symm
     exact (hcell b off v o h1 h2 h3 hc hw).1
    ·exact hg.cell hc hb
   ·rintro ⟨j,oj,hj,hbj,hwj⟩
    by_cases hji:j=id
    ·subst hji
     rcases hnew b hbj with ⟨o,h1,h2,h3⟩ | h
     ·exact (hcell b off v o h1 h2 h3 hc hw).2 oj hj hbj hwj
     ·exact absurd hlt (Nat.not_lt.2 h)
    ·rw [hσ j hji] at hj
     rw [hμ j hji] at hbj
     exact hw ⟨j,oj,hj,hbj,hwj⟩
  ·by_cases hji:j=id
   ·subst hji;exact hbox T cs hj
   ·exact ⟨⟨cs,by rw [hσ j hji];exact hj⟩,hμ j hji⟩
  ·by_cases hji:j=id
   ·subst hji;exact hmap K E es hj
   ·exact ⟨⟨es,by rw [hσ j hji];exact hj⟩,hμ j hji⟩
  ·by_cases hji:j=id
   ·subst hji;exact hrg E sz by' g' sh xs hjl hj
   ·rw [hσ j hji] at hj
    exact ⟨g',sh,xs,hj,Nat.le_refl _,fun _=>⟨rfl,hμ j hji⟩⟩
 refine ⟨⟨hS.below.grown hg hS.base (fun k hk=>?_),Nat.le_trans hS.base hg.size,fun j o hj=>?_,fun i j oi oj b hi hj hdi hdj hbi hbj=>?_⟩,hp⟩
 ·obtain ⟨o,h1,h2,h3⟩:=hrow k hk
  exact (hS.blk_ge h1 h2 h3).1
 ·by_cases hji:j=id
  ·subst hji;exact hob hp o hj
  ·rw [hσ j hji] at hj
   rw [hμ j hji]
   by_cases hd:o=.dead
   ·subst hd;trivial
   ·refine (hS.obj j o hj).keep hp.keep fun b hb=>?_
    refine hg.block b (hS.blk_ge hj hd hb).2 fun hbr=>?_
    obtain ⟨o2,h1,h2,h3⟩:=hrow b hbr.symm
    exact hji (hS.sep j id o o2 b hj h1 hd h2 hb h3)
 ·by_cases hii:i=id
  ·subst hii
   by_cases hji:j=i
   ·exact hji.symm
   ·rw [hσ j hji] at hj
    rw [hμ j hji] at hbj
    rcases hnew b hbi with ⟨o,h1,h2,h3⟩ | h
    ·exact hS.sep i j o oj b h1 hj h2 hdj h3 hbj
    ·exact absurd (hS.blk_ge hj hdj hbj).2 (Nat.not_lt.2 h)
  ·rw [hσ i hii] at hi
   rw [hμ i hii] at hbi
   by_cases hji:j=id
   ·subst hji
    rcases hnew b hbj with ⟨o,h1,h2,h3⟩ | h
    ·exact hS.sep i j oi o b hi h1 hdi h2 hbi h3
    ·exact absurd (hS.blk_ge hi hdi hbi).2 (Nat.not_lt.2 h)
   ·rw [hσ j hji] at hj
    rw [hμ j hji] at hbj
    exact hS.sep i j oi oj b hi hj hdi hdj hbi hbj
theorem Sim.grown {P:Program} {B:Nat} {w0 w:World} {σ:Store} {μ:Mem} {w':World} (hS:Sim P B w0 w σ μ) (hg:w.grownBy w' none):Sim P B w0 w' σ μ∧Pres w σ μ w' σ μ:=by
 have hp:Pres w σ μ w' σ μ:=⟨fun b off v hc hw=>⟨hg.cell hc (by simp),hw⟩,Nat.le_refl _,fun _ _ cs h=>⟨⟨cs,h⟩,rfl⟩,fun _ _ _ es h=>⟨⟨es,h⟩,rfl⟩,fun _ _ _ _ g sh xs _ h=>⟨g,sh,xs,h,Nat.le_refl _,fun _=>⟨rfl,rfl⟩⟩⟩
 refine ⟨⟨hS.below.grown hg hS.base (by simp),Nat.le_trans hS.base hg.size,fun j o hj=>?_,hS.sep⟩,hp⟩
 by_cases hd:o=.dead
 ·subst hd;trivial
 ·exact (hS.obj j o hj).keep hp.keep fun b hb=>hg.block b (hS.blk_ge hj hd hb).2 (by simp)
def upd (μ:Mem) (id:Nat) (v:Value):Mem:=fun j=>if j=id then v else μ j
theorem upd_same (μ:Mem) (id:Nat) (v:Value):upd μ id v id=v:=by simp [upd]
theorem upd_other (μ:Mem) (id:Nat) (v:Value) (j:Nat) (h:j≠id):upd μ id v j=μ j:=by simp [upd,h]
theorem getElem?_snoc_ne (σ:Store) (o:Ob) (j:Nat) (h:j≠σ.length):(σ++[o])[j]?=σ[j]?:=by
 rcases Nat.lt_or_ge j σ.length with h1 | h1
 ·rw [List.getElem?_append_left h1]
 ·have h2:σ.length<j:=by omega
  rw [List.getElem?_eq_none (by simp;omega),List.getElem?_eq_none h1]
theorem getElem?_none_self (σ:Store) (o:Ob):¬ (σ[σ.length]?=some o):=by simp
theorem Sim.newOb {P:Program} {B:Nat} {w0 w:World} {σ:Store} {μ:Mem} {w':World} (hS:Sim P B w0 w σ μ) (o:Ob) (v:Value) (hg:w.grownBy w' none)
  (hv:∀ b,blk v=some b→w.heap.size≤b)
  (hob:Pres w σ μ w' (σ++[o]) (upd μ σ.length v)→ObOK P B w' (σ++[o]) (upd μ σ.length v) v o) :
  Sim P B w0 w' (σ++[o]) (upd μ σ.length v)∧Pres w σ μ w' (σ++[o]) (upd μ σ.length v):=by
 refine hS.update σ.length none hg (by simp) (by simp) (fun j hj=>getElem?_snoc_ne σ o j hj) (fun j hj=>upd_other μ _ v j hj) ?_ ?_ ?_ ?_ ?_ ?_
 ·intro b hb;rw [upd_same] at hb;exact .inr (hv b hb)
 ·intro b off u o' h;exact absurd h (getElem?_none_self σ o')
 ·intro T cs h;exact absurd h (getElem?_none_self σ _)
 ·intro K E es h;exact absurd h (getElem?_none_self σ _)
 ·intro _ _ _ _ _ _ h;omega
 ·intro hp o' ho'
  have:o'=o:=by simpa using ho'.symm
  subst this
  rw [upd_same];exact hob hp
inductive O where
 | t (n:Nat)
 | c (v:V)
inductive I where
 | mov (x:O)
 | pick (c a b:O)
 | box (T:Nat) (x:O)
 | alloc (T:Nat) (zs:List V)
 | build (zs:List V) (parts:List (Nat×Nat×O))
 | bslice (sz:Nat) (szs:List (Option Nat)) (xs:List O)
 | bown (E sz by':Nat) (szs:List (Option Nat)) (xs:List O)
 | load (k:Option Nat) (a:O)
 | store (k:Nat) (szs:List (Option Nat)) (a x:O)
 | nilck (x:O)
 | bin (op:BinOp) (x y:O)
 | beq (neg:Bool) (ks:List Nat) (x y:O)
 | bbq (neg:Bool) (x y:O)
 | un (op:UnOp) (x:O)
 | cvi (k:IntKind) (x:O)
 | b2s (x:O)
 | slice (sz:Nat) (x:O) (lo hi:Option O)
 | sslice (x:O) (lo hi:Option O)
 | fld (off:Nat) (x:O)
 | idx (sz:Nat) (x i:O)
 | sidx (x i:O)
 | aidx (n sz:Nat) (x i:O)
 | asl (n:Nat) (x:O)
 | ext (k:Nat) (x:O)
 | len (str:Bool) (x:O)
 | max2 (x y:O)
 | min2 (x y:O)
 | app (E sz by':Nat) (x y:O)
 | apps (E:Nat) (x y:O)
 | mk (E sz by':Nat) (zs:List V) (l c:O)
 | mkmap (K E:Nat)
 | look (kd:Nat) (z:V) (ok:Bool) (m k:O)
 | mupd (kd:Nat) (szs:List (Option Nat)) (m k x:O)
 | mlen (x:O)
 | call (f:Nat) (args:List O)
 | callv (x:O) (args:List O)
 | clo (f:Nat) (xs:List O)
 | stop
def constV:Value→Option V
 | .bool x=>some (.b x)
 | .int k n=>some (.i k n)
 | .string x=>if x.data.toList.length≤maxLen then some (.s x.data.toList) else none
 | .slice none 0 0=>some .nil
 | .pointer none=>some .nilptr
 | .map none=>some .nilmap
 | _=>none
def cO:Operand→Option O
 | .tmp t=>some (.t t)
 | .const v=>(constV v).map .c
 | .func f=>some (.c (.fn f []))
 | .global _=>none
def cOs:List Operand→Option (List O)
 | []=>some []
 | x::xs=>match cO x,cOs xs with
  | some y,some ys=>some (y::ys)
  | _,_=>none
def constVs:List Value→Option (List V)
 | []=>some []
 | x::xs=>match constV x,constVs xs with
  | some y,some ys=>some (y::ys)
  | _,_=>none
def flatFrom (P:Program) (n:Nat):List Field→Option (List Nat)
 | []=>some []
 | f::fs=>if f.offset=n∧f.name ≠ "_" then match P.underlying f.type,flatFrom P (n+1) fs with
   | some (.int _),some ks=>some (0::ks)
   | some .string,some ks=>some (1::ks)
   | some .bool,some ks=>some (2::ks)
   | _,_=>none
  else none
def flatEq (P:Program) (T:Nat):Option (List Nat) :=
 match P.underlying T with
 | some (.struct fs)=>if P.stoodInHeld T=false∧P.eqGuardType P.depth T=false then flatFrom P 0 fs.toList else none
 | _=>none
def plainEq (P:Program) (T:Nat):Bool :=
 match P.underlying T with
 | some (.int _) | some .string=>true
 | _=>false
def boolEq (P:Program) (T:Nat):Bool :=
 match P.underlying T with
 | some .bool=>true
 | _=>false
def isAggT (P:Program) (T:Nat):Option Bool :=
 match P.underlying T with
 | some (.struct _) | some (.array _ _)=>some true
 | some _=>some false
 | none=>none
def cParts:Nat→List (Nat×Operand)→Option (List O)
 | _,[]=>some []
 | n,(i,x)::r=>if i=n then (match cO x,cParts (n+1) r with | some y,some ys=>some (y::ys) | _,_=>none) else none
def cBuild (places:List (Nat×Nat)):List (Nat×Operand)→Option (List (Nat×Nat×O))
 | []=>some []
 | (i,x)::r=>match places[i]?,cO x,cBuild places r with
  | some (off,sz),some y,some ys=>some ((off,sz,y)::ys)
  | _,_,_=>none
def placesOf (P:Program) (fs:List Field):Option (List (Nat×Nat)):=fs.mapM fun f=>(P.info? f.type).map fun i=>(f.offset,i.size)
def keyKind (P:Program) (K:Nat):Option Nat :=
 match P.underlying K with
 | some (.int _)=>some 0
 | some .string=>some 1
 | some (.array 2 e)=>match P.underlying e with
  | some (.int _)=>if P.cellsOf e=1 then some 3 else none
  | _=>none
 | _=>none
def keyOb (kd:Nat) (k:V):Bool:=if kd=3 then (match k with
 | .agg [.i _ _,.i _ _]=>true
 | _=>false) else k.mkey
theorem keyOb_mkey {kd:Nat} {k:V} (h:keyOb kd k=true):k.mkey=true:=by
 unfold keyOb at h
 split at h
 ·split at h
  ·rfl
  ·simp at h
 ·exact h
theorem keyOb_0 (k:V):keyOb 0 k=k.mkey:=rfl
theorem keyOb_1 (k:V):keyOb 1 k=k.mkey:=rfl
theorem keyOb_3 (k l:IntKind) (a b:Int):keyOb 3 (.agg [.i k a,.i l b])=true:=rfl
def cOpt:Option Operand→Option (Option O)
 | none=>some none
 | some x=>(cO x).map some
def isEqOp:BinOp→Bool
 | .eql | .neq=>true
 | _=>false
def cellSzs (P:Program):Nat→Nat→List (Option Nat)
 | 0,_=>[]
 | d+1,T=>match P.underlying T with
  | some (.slice e)=>[some (P.cellsOf e)]
  | some (.struct fs)=>fs.toList.flatMap fun f=>cellSzs P d f.type
  | _=>[none]
def purifyAt:Option Nat→V→V
 | some sz,.nil=>.sl sz []
 | _,.lit sz xs=>.sl sz xs
 | _,x=>x
def purifyL:List (Option Nat)→List V→List V
 | s::ss,x::xs=>purifyAt s x::purifyL ss xs
 | _,xs=>xs
def purifyV (szs:List (Option Nat)):V→V
 | .agg xs=>.agg (purifyL szs xs)
 | y=>y
def zeroV (P:Program) (E:Nat):Option V :=
 match P.info? E with
 | some t=>match t.zero with
  | some (.agg cs)=>(constVs cs.toList).map fun zs=>.agg (purifyL (cellSzs P 6 E) zs)
  | some z=>constV z
  | none=>none
 | none=>none
def isU8Zero:Value→Bool
 | .int .u8 0=>true
 | _=>false
def compileCall (P:Program) (c:Call):Option I :=
 match c.callee,c.args.toList,c.argTypes.toList with
 | .builtin .len,[x],[T]=>match P.underlying T,cO x with
  | some .string,some x=>some (.len true x)
  | some (.slice _),some x=>some (.len false x)
  | some (.map _ _),some x=>some (.mlen x)
  | _,_=>none
 | .builtin .max,[x,y],_=>match cO x,cO y with
  | some x,some y=>some (.max2 x y)
  | _,_=>none
 | .builtin .min,[x,y],_=>match cO x,cO y with
  | some x,some y=>some (.min2 x y)
  | _,_=>none
 | .builtin .append,[x,y],[T,U]=>match P.underlying T,cO x,cO y with
  | some (.slice E),some x,some y=>match P.info? E with
   | some t=>match t.zero with
    | some z=>if T=U then (if 0<t.size∧z.cells.size=t.size then some (.app E t.size t.bytes x y) else none)
     else match P.underlying U with
      | some .string=>if t.size=1∧t.bytes=1∧isU8Zero z=true then some (.apps E x y) else none
      | _=>none
    | none=>none
   | none=>none
  | _,_,_=>none
 | .value (.func f),args,_=>match P.funcs[f]? with
  | some fn=>if fn.body.isSome∧fn.name ≠ "runtime.NumGoroutine" then (cOs args).map (.call f) else none
  | none=>none
 | .value (.tmp t),args,_=>(cOs args).map (.callv (.t t))
 | _,_,_=>none
def ownAt:Option Nat→List O→Bool
 | some 23,[.t 18,.t 20,.t 22]=>true
 | some 46,[.t 45]=>true
 | _,_=>false
def isNeq:BinOp→Bool
 | .neq=>true
 | _=>false
def compile (P:Program) (o:Oper):Option I :=
 match o.op with
 | .move x | .assign x=>(cO x).map .mov
 | .pick c a b=>match cO c,cO a,cO b with
  | some c,some a,some b=>some (.pick c a b)
  | _,_,_=>none
 | .box T x=>(cO x).map (.box T)
 | .alloc T=>match P.info? T with
  | some t=>match t.zero with
   | some z=>(constVs z.cells.toList).map (.alloc T)
   | none=>none
  | none=>none
 | .build T parts=>match P.info? T,P.underlying T with
  | some t,some (.struct fs)=>match t.zero with
   | some z=>match constVs z.cells.toList,placesOf P fs.toList with
    | some zs,some places=>(cBuild places parts.toList).map (.build zs)
    | _,_=>none
   | none=>none
  | some t,some (.array n E)=>match t.zero,P.info? E with
   | some z,some te=>match constVs z.cells.toList with
    | some zs=>(cBuild ((List.range n).map fun i=>(i*te.size,te.size)) parts.toList).map (.build zs)
    | none=>none
   | _,_=>none
  | _,_=>none
 | .buildSlice T len parts=>match P.underlying T with
  | some (.slice E)=>match P.info? E with
   | some t=>match t.zero with
    | some z=>if parts.size=len∧0<t.size∧z.cells.size=t.size∧len*t.size≤2^24 then (cParts 0 parts.toList).map fun xs=>if ownAt o.dst xs=true then .bown E t.size t.bytes (cellSzs P 6 E) xs else .bslice t.size (cellSzs P 6 E) xs else none
    | none=>none
   | none=>none
  | _=>none
 | .load T a=>match cO a,isAggT P T,P.info? T with
  | some a,some true,some t=>some (.load (some t.size) a)
  | some a,some false,some _=>some (.load none a)
  | _,_,_=>none
 | .store T a x=>match cO a,cO x,P.info? T with
  | some a,some x,some t=>some (.store t.size (cellSzs P 6 T) a x)
  | _,_,_=>none
 | .nilCheck x=>(cO x).map .nilck
 | .binOp op T x y _=>match cO x,cO y with
  | some x,some y=>if isEqOp op then (if plainEq P T then some (.bin op x y) else if boolEq P T then some (.bbq (isNeq op) x y) else (flatEq P T).map fun ks=>.beq (isNeq op) ks x y) else some (.bin op x y)
  | _,_=>none
 | .unOp op _ x=>(cO x).map (.un op)
 | .convert s d x=>match P.underlying s,P.underlying d,cO x with
  | some (.int _),some (.int k),some x=>some (.cvi k x)
  | some (.slice e),some .string,some x=>match P.underlying e with
   | some (.int .u8)=>some (.b2s x)
   | _=>none
  | _,_,_=>none
 | .slice T x lo hi none=>match P.underlying T,cO x,cOpt lo,cOpt hi with
  | some .string,some x,some lo,some hi=>some (.sslice x lo hi)
  | some (.slice E),some x,some lo,some hi=>match P.info? E with
   | some t=>some (.slice t.size x lo hi)
   | none=>none
  | some (.array n E),some x,some none,some none=>match P.info? E with
   | some t=>if t.size=1∧n≤1024 then some (.asl n x) else none
   | none=>none
  | _,_,_,_=>none
 | .fieldAddr T x f=>match P.underlying T,cO x with
  | some (.struct fs),some x=>match fs[f]? with
   | some fd=>match P.info? fd.type with
    | some t=>if t.size=0 then none else some (.fld fd.offset x)
    | none=>none
   | none=>none
  | _,_=>none
 | .indexAddr T x i=>match P.underlying T,cO x,cO i with
  | some (.slice E),some x,some i=>match P.info? E with
   | some t=>some (.idx t.size x i)
   | none=>none
  | some (.array n E),some x,some i=>match P.info? E with
   | some t=>some (.aidx n t.size x i)
   | none=>none
  | _,_,_=>none
 | .index T x i=>match P.underlying T,cO x,cO i with
  | some .string,some x,some i=>some (.sidx x i)
  | _,_,_=>none
 | .extract t k=>(cO t).map (.ext k)
 | .makeSlice T l c=>match P.underlying T with
  | some (.slice E)=>match P.info? E with
   | some t=>match t.zero,cO l,cO c with
    | some z,some l,some c=>if 0<t.size∧z.cells.size=t.size then (constVs z.cells.toList).map fun zs=>.mk E t.size t.bytes (purifyL (cellSzs P 6 E) zs) l c else none
    | _,_,_=>none
   | none=>none
  | _=>none
 | .lookup T m k ok=>match P.underlying T,cO m,cO k with
  | some (.map K E),some m,some k=>match keyKind P K,zeroV P E with
   | some kd,some z=>some (.look kd z ok m k)
   | _,_=>none
  | _,_,_=>none
 | .mapUpdate T m k x=>match P.underlying T,cO m,cO k,cO x with
  | some (.map K E),some m,some k,some x=>(keyKind P K).map fun kd=>.mupd kd (cellSzs P 6 E) m k x
  | _,_,_,_=>none
 | .makeMap T none=>match P.underlying T with
  | some (.map K E)=>some (.mkmap K E)
  | _=>none
 | .call c=>compileCall P c
 | .makeFunc (.func f) first caps=>if first.size=0 then (cOs caps.toList).map (.clo f) else none
 | _=>none
def ev (fr:List V):O→V
 | .t n=>fr.getD n .u
 | .c v=>v
def cellsV:V→List V
 | .agg xs=>xs
 | x=>[x]
def cellOK (σ:Store):V→Bool
 | .u | .agg _ | .tup _=>false
 | .own id g=>match σ[id]? with
  | some (.row _ _ _ g' _ _)=>g==g'
  | _=>false
 | .sub id g _ _=>match σ[id]? with
  | some (.row _ _ _ g' _ _)=>g==g'
  | _=>false
 | .rp id g _ _=>match σ[id]? with
  | some (.row _ _ _ g' _ _)=>g==g'
  | _=>false
 | _=>true
def okCells (σ:Store) (x:V):Bool:=match x with
 | .agg xs=>xs.all (cellOK σ)
 | x=>cellOK σ x
def fillV (cells:List V):List (Nat×Nat×List V)→Option (List V)
 | []=>some cells
 | (off,sz,x)::r=>if x.length=sz∧off+sz≤cells.length then fillV (cells.take off++x++cells.drop (off+sz)) r else none
def pairEq:List V→List V→Option Bool
 | [.i k a,.i l b],[.i k' a',.i l' b']=>if k=k'∧l=l' then some (a==a'&&b==b') else none
 | _,_=>none
def scalEq:Nat→V→V→Option Bool
 | 0,.i k a,.i k' b=>if k=k' then some (a==b) else none
 | 1,.s a,.s b=>some (a==b)
 | 2,.b a,.b b=>some (a==b)
 | 3,.agg xs,.agg ys=>pairEq xs ys
 | _,_,_=>none
def cellsEq:List Nat→List V→List V→Option Bool
 | [],[],[]=>some true
 | k::ks,x::xs,y::ys=>match scalEq k x y,cellsEq ks xs ys with
  | some p,some q=>some (p&&q)
  | _,_=>none
 | _,_,_=>none
def binV (op:BinOp):V→V→Option (Prop×V)
 | .i k a,.i k' b=>match op with
  | .shl=>some (0≤b,.i k (k.wrap (a*2^(min b.toNat k.bits))))
  | .shr=>some (0≤b,.i k (a.fdiv (2^(min b.toNat k.bits))))
  | _=>if k=k' then match op with
   | .add=>some (True,.i k (k.wrap (a+b)))
   | .sub=>some (True,.i k (k.wrap (a - b)))
   | .mul=>some (True,.i k (k.wrap (a*b)))
   | .quo=>some (b≠0,.i k (k.wrap (a.tdiv b)))
   | .rem=>some (b≠0,.i k (a.tmod b))
   | .and=>some (True,.i k (k.wrap ((BitVec.ofInt k.bits a &&& BitVec.ofInt k.bits b).toNat:Int)))
   | .or=>some (True,.i k (k.wrap ((BitVec.ofInt k.bits a ||| BitVec.ofInt k.bits b).toNat:Int)))
   | .xor=>some (True,.i k (k.wrap ((BitVec.ofInt k.bits a ^^^ BitVec.ofInt k.bits b).toNat:Int)))
   | .eql=>some (True,.b (a==b))
   | .neq=>some (True,.b (a != b))
   | .lss=>some (True,.b (a<b))
   | .leq=>some (True,.b (a≤b))
   | .gtr=>some (True,.b (b<a))
   | .geq=>some (True,.b (b≤a))
   | _=>none
   else none
 | .s a,.s b=>match op with
  | .add=>some (a.length+b.length≤maxLen,.s (a++b))
  | .eql=>some (True,.b (a==b))
  | .neq=>some (True,.b (!(a==b)))
  | .lss=>some (True,.b (Op.bytesLess a b))
  | .leq=>some (True,.b (Op.bytesLess a b||a==b))
  | .gtr=>some (True,.b (!(Op.bytesLess a b||a==b)))
  | .geq=>some (True,.b (!Op.bytesLess a b))
  | _=>none
 | _,_=>none
def rowsOf (σ:Store) (sz:Nat):V→Option (List (List V))
 | .nil=>some []
 | .lit sz' xs=>if sz'=sz then some xs else none
 | .sl sz' xs=>if sz'=sz then some xs else none
 | .own id g=>match σ[id]? with
  | some (.row _ sz' _ g' _ xs)=>if g=g'∧sz'=sz then some xs else none
  | _=>none
 | .sub id g lo hi=>match σ[id]? with
  | some (.row _ sz' _ g' _ xs)=>if g=g'∧sz'=sz then some ((xs.drop lo).take (hi - lo)) else none
  | _=>none
 | _=>none
def byteOfRow:List V→Option UInt8
 | [.i .u8 n]=>some (UInt8.ofNat n.toNat)
 | _=>none
def bytesOf:List (List V)→Option (List UInt8)
 | []=>some []
 | r::rs=>match byteOfRow r,bytesOf rs with
  | some x,some xs=>some (x::xs)
  | _,_=>none
def findV (kd:Nat) (k:V):List (V×V)→Nat→Option (Option (Nat×V))
 | [],_=>some none
 | (a,x)::es,i=>match scalEq kd k a with
  | some true=>some (some (i,x))
  | some false=>findV kd k es (i+1)
  | none=>none
def mapFind (σ:Store) (kd:Nat) (m k:V):Option (Option (Nat×V)) :=
 match m with
 | .nilmap=>some none
 | .mp id=>match σ[id]? with
  | some (.map _ _ es)=>findV kd k es 0
  | _=>none
 | _=>none
def pexec (fr:List V) (σ:Store):I→Option (Prop×V)
 | .mov x=>some (True,ev fr x)
 | .pick c a b=>match ev fr c with
  | .b x=>some (True,match ev fr a,ev fr b with
   | .b p,.b q=>.b (bif x then p else q)
   | p,q=>bif x then p else q)
  | _=>none
 | .build zs parts=>match fillV zs (parts.map fun (off,sz,x)=>(off,sz,cellsV (ev fr x))) with
  | some cs=>some (∀ p∈parts,okCells σ (ev fr p.2.2)=true,.agg cs)
  | none=>none
 | .bslice sz szs xs=>some ((∀ x∈xs,okCells σ (ev fr x)=true)∧∀ r∈xs.map fun x=>purifyL szs (cellsV (ev fr x)),r.length=sz∧∀ c∈r,c.pure=true,.lit sz (xs.map fun x=>purifyL szs (cellsV (ev fr x))))
 | .load k a=>match ev fr a with
  | .ptr id off=>match σ[id]? with
   | some (.box _ cs)=>match k with
    | none=>match cs[off]? with
     | some x=>some (True,x)
     | none=>none
    | some n=>some (off+n≤cs.length,.agg ((cs.drop off).take n))
   | _=>none
  | .ep _ xs i off=>match k with
   | none=>match at2 xs i off with
    | some x=>some (True,x)
    | none=>none
   | some n=>some (off+n≤(xs.getD i []).length,.agg (((xs.getD i []).drop off).take n))
  | .rp id g i off=>match σ[id]? with
   | some (.row _ _ _ g' _ xs)=>if g=g' then match k with
    | none=>match at2 xs i off with
     | some x=>some (True,x)
     | none=>none
    | some n=>some (off+n≤(xs.getD i []).length,.agg (((xs.getD i []).drop off).take n))
    else none
   | _=>none
  | _=>none
 | .nilck x=>match ev fr x with
  | .ptr id off=>some (True,.ptr id off)
  | .ep sz xs i off=>some (True,.ep sz xs i off)
  | .rp id g i off=>match σ[id]? with
   | some (.row _ _ _ g' _ _)=>if g=g' then some (True,.rp id g i off) else none
   | _=>none
  | _=>none
 | .bin op x y=>binV op (ev fr x) (ev fr y)
 | .beq neg ks x y=>match ev fr x,ev fr y with
  | .agg xs,.agg ys=>match cellsEq ks xs ys with
   | some r=>some (True,.b (bif neg then !r else r))
   | none=>none
  | _,_=>none
 | .bbq neg x y=>match ev fr x,ev fr y with
  | .b p,.b q=>some (True,.b (bif neg then !(p==q) else (p==q)))
  | _,_=>none
 | .un op x=>match op,ev fr x with
  | .not,.b p=>some (True,.b (!p))
  | .neg,.i k n=>some (True,.i k (k.wrap (0 - n)))
  | _,_=>none
 | .cvi k x=>match ev fr x with
  | .i _ n=>some (True,.i k (k.wrap n))
  | _=>none
 | .b2s x=>match rowsOf σ 1 (ev fr x) with
  | some xs=>match bytesOf xs with
   | some l=>some (True,.s l)
   | none=>none
  | none=>none
 | .slice sz x lo hi =>
  let n:Option Nat:=match ev fr x with
   | .nil=>some 0
   | .lit sz' xs=>if sz'=sz then some xs.length else none
   | .sl sz' xs=>if sz'=sz then some xs.length else none
   | .own id g=>match σ[id]? with
    | some (.row _ sz' _ g' _ xs)=>if g=g'∧sz'=sz then some xs.length else none
    | _=>none
   | _=>none
  match n with
  | none=>none
  | some n =>
   let l:Option Int:=match lo with
    | none=>some 0
    | some x=>match ev fr x with
     | .i _ a=>some a
     | _=>none
   let h:Option Int:=match hi with
    | none=>some n
    | some x=>match ev fr x with
     | .i _ a=>some a
     | _=>none
   match l,h with
   | some l,some h=>match ev fr x with
    | .nil=>some (l=0∧h=0,.nil)
    | .lit _ xs=>some (0≤l∧l≤h∧h≤n,.sl sz ((xs.drop l.toNat).take (h.toNat - l.toNat)))
    | .sl _ xs=>some (0≤l∧l≤h∧h≤n,.sl sz ((xs.drop l.toNat).take (h.toNat - l.toNat)))
    | .own id g=>some (0≤l∧l≤h∧h≤n,.sub id g l.toNat h.toNat)
    | _=>none
   | _,_=>none
 | .sslice x lo hi=>match ev fr x with
  | .s a =>
   let l:Option Int:=match lo with
    | none=>some 0
    | some x=>match ev fr x with
     | .i _ a=>some a
     | _=>none
   let h:Option Int:=match hi with
    | none=>some a.length
    | some x=>match ev fr x with
     | .i _ a=>some a
     | _=>none
   match l,h with
   | some l,some h=>some (0≤l∧l≤h∧h≤a.length,.s ((a.drop l.toNat).take (h.toNat - l.toNat)))
   | _,_=>none
  | _=>none
 | .fld off x=>match ev fr x with
  | .ptr id o=>some (True,.ptr id (o+off))
  | .ep sz xs i o=>some (True,.ep sz xs i (o+off))
  | .rp id g i o=>match σ[id]? with
   | some (.row _ _ _ g' _ _)=>if g=g' then some (True,.rp id g i (o+off)) else none
   | _=>none
  | _=>none
 | .idx sz x i=>match ev fr i with
  | .i _ n=>match ev fr x with
   | .sl sz' xs=>if sz'=sz then some (0≤n∧n<xs.length,.ep sz xs n.toNat 0) else none
   | .lit sz' xs=>if sz'=sz then some (0≤n∧n<xs.length,.ep sz xs n.toNat 0) else none
   | .own id g=>match σ[id]? with
    | some (.row _ sz' _ g' _ xs)=>if g=g'∧sz'=sz then some (0≤n∧n<xs.length,.rp id g n.toNat 0) else none
    | _=>none
   | _=>none
  | _=>none
 | .aidx n sz x i=>match ev fr x,ev fr i with
  | .ptr id o,.i _ k=>some (0≤k∧k<n,.ptr id (o+k.toNat*sz))
  | _,_=>none
 | .asl n x=>match ev fr x with
  | .ep _ xs i 0=>if (xs.getD i []).length=n then some (n≤1024,.sl 1 ((xs.getD i []).map fun c=>[c])) else none
  | _=>none
 | .sidx x i=>match ev fr x,ev fr i with
  | .s l,.i _ n=>some (0≤n∧n<l.length,.i .u8 (l.getD n.toNat 0).toNat)
  | _,_=>none
 | .ext k x=>match ev fr x with
  | .tup xs=>match xs[k]? with
   | some y=>some (True,y)
   | none=>none
  | _=>none
 | .len true x=>match ev fr x with
  | .s l=>some (True,.i .i64 l.length)
  | _=>none
 | .len false x=>match ev fr x with
  | .nil=>some (True,.i .i64 0)
  | .lit _ xs=>some (True,.i .i64 xs.length)
  | .sl _ xs=>some (True,.i .i64 xs.length)
  | .own id g=>match σ[id]? with
   | some (.row _ _ _ g' _ xs)=>if g=g' then some (True,.i .i64 xs.length) else none
   | _=>none
  | .sub id g lo hi=>match σ[id]? with
   | some (.row _ _ _ g' _ _)=>if g=g' then some (True,.i .i64 (hi - lo:Nat)) else none
   | _=>none
  | _=>none
 | .mlen x=>match ev fr x with
  | .nilmap=>some (True,.i .i64 0)
  | .mp id=>match σ[id]? with
   | some (.map _ _ es)=>some (True,.i .i64 es.length)
   | _=>none
  | _=>none
 | .look kd z ok m k=>match mapFind σ kd (ev fr m) (ev fr k) with
  | some none=>some (keyOb kd (ev fr k)=true,if ok then .tup [z,.b false] else z)
  | some (some (_,x))=>some (keyOb kd (ev fr k)=true,if ok then .tup [x,.b true] else x)
  | none=>none
 | .max2 x y=>match ev fr x,ev fr y with
  | .i k a,.i _ b=>some (True,.i k (if a<b then b else a))
  | _,_=>none
 | .min2 x y=>match ev fr x,ev fr y with
  | .i k a,.i _ b=>some (True,.i k (if b<a then b else a))
  | _,_=>none
 | .clo f xs=>some (True,.fn f (xs.map (ev fr)))
 | _=>none
def appOb (E sz by':Nat) (σ:Store) (x:V) (ys:List (List V)):Option (Prop×V×Store) :=
 match x with
 | .nil=>some (ys.length*by'≤2^47∧ys.length≤maxLen,.own σ.length 0,σ++[.row E sz by' 0 false ys])
 | .lit sz' xs=>if sz'=sz then some ((xs.length+ys.length)*by'≤2^47∧xs.length+ys.length≤maxLen,
   if ys.isEmpty then .lit sz xs else .own σ.length 0,if ys.isEmpty then σ else σ++[.row E sz by' 0 false (xs++ys)]) else none
 | .own id g=>match σ[id]? with
  | some (.row E' sz' by2 g' sh xs)=>if g=g'∧E=E'∧sz=sz'∧by'=by2 then
    some ((xs.length+ys.length)*by'≤2^47∧xs.length+ys.length≤maxLen,.own id (g+1),σ.set id (.row E sz by' (g+1) sh (xs++ys)))
   else none
  | _=>none
 | .sub id g lo hi=>match σ[id]? with
  | some (.row E' sz' by2 g' sh xs)=>if g=g'∧E=E'∧sz=sz'∧by'=by2∧lo=0∧sh=false then
    some (hi≤xs.length∧(hi+ys.length)*by'≤2^47∧hi+ys.length≤maxLen,.own id (g+1),σ.set id (.row E sz by' (g+1) false (xs.take hi++ys)))
   else none
  | _=>none
 | _=>none
def bytesV (l:List UInt8):List (List V):=l.map fun c=>[V.i .u8 c.toNat]
def xexec (fr:List V) (σ:Store):I→Option (Prop×V×Store)
 | .box T x=>some (okCells σ (ev fr x)=true,.ptr σ.length 0,σ++[.box T (cellsV (ev fr x))])
 | .alloc T zs=>some (True,.ptr σ.length 0,σ++[.box T zs])
 | .store k szs a x=>match ev fr a with
  | .ptr id off=>match σ[id]? with
   | some (.box T cs)=>some (okCells σ (ev fr x)=true∧(cellsV (ev fr x)).length=k∧off+k≤cs.length,.u,σ.set id (.box T (cs.take off++cellsV (ev fr x)++cs.drop (off+k))))
   | _=>none
  | .rp id g i off=>match σ[id]? with
   | some (.row E sz by' g' sh xs)=>if g=g'∧sh=false then
     some (okCells σ (ev fr x)=true∧(∀ c∈purifyL szs (cellsV (ev fr x)),c.pure=true)∧(cellsV (ev fr x)).length=k∧off+k≤sz∧i<xs.length,.u,
      σ.set id (.row E sz by' g sh (xs.set i ((xs.getD i []).take off++purifyL szs (cellsV (ev fr x))++(xs.getD i []).drop (off+k)))))
    else none
   | _=>none
  | _=>none
 | .app E sz by' x y=>match rowsOf σ sz (ev fr y) with
  | some ys=>appOb E sz by' σ (ev fr x) ys
  | none=>none
 | .apps E x y=>match ev fr y with
  | .s l=>appOb E 1 1 σ (ev fr x) (bytesV l)
  | _=>none
 | .mk E sz by' zs l c=>match ev fr l,ev fr c with
  | .i _ n,.i _ m=>some (0≤n∧(n=m∨n=0)∧0≤m∧m*by'≤2^48∧m≤maxLen∧(∀ z∈zs,z.pure=true),.own σ.length 0,σ++[.row E sz by' 0 false (List.replicate n.toNat zs)])
  | _,_=>none
 | .mkmap K E=>some (True,.mp σ.length,σ++[.map K E []])
 | .bown E sz by' szs xs=>some ((∀ x∈xs,okCells σ (ev fr x)=true)∧∀ r∈xs.map fun x=>purifyL szs (cellsV (ev fr x)),r.length=sz∧∀ c∈r,c.pure=true,.own σ.length 0,σ++[.row E sz by' 0 false (xs.map fun x=>purifyL szs (cellsV (ev fr x)))])
 | .mupd kd szs m k x =>
  let xv:=purifyV szs (ev fr x)
  match ev fr m with
  | .mp id=>match σ[id]? with
   | some (.map K E es)=>match findV kd (ev fr k) es 0 with
    | some none=>some (keyOb kd (ev fr k)=true∧xv.mval=true,.u,σ.set id (.map K E (es++[(ev fr k,xv)])))
    | some (some (i,_))=>some (keyOb kd (ev fr k)=true∧xv.mval=true,.u,σ.set id (.map K E (es.set i (ev fr k,xv))))
    | none=>none
   | _=>none
  | _=>none
 | _=>none
end Go.Pm

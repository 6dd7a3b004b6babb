/- A part of the proof of the statement of the last text of this claim: for every two lists of integers ReplicaCommutes returns true and leaves the memory as it was. -/
import Derived.Test.YtbfoheefppnnpaaGreatDoorV13
import Derived.Test.YtbfoheefppnnpaaGreatDoorV16
set_option linter.all false

namespace Go.Bt
open Go Go.Pm
theorem hexhi (c:UInt8):0≤(c.toNat:Int).fdiv (2^min 4 IntKind.u8.bits)∧(c.toNat:Int).fdiv (2^min 4 IntKind.u8.bits)<16 ∧
  ([48,49,50,51,52,53,54,55,56,57,97,98,99,100,101,102]:List UInt8).getD ((c.toNat:Int).fdiv (2^min 4 IntKind.u8.bits)).toNat 0=hexDig (c.toNat / 16):=by
 revert c;exact u8_all (by decide +kernel)
theorem hexlo (c:UInt8):0≤IntKind.u8.wrap (((BitVec.ofInt IntKind.u8.bits (c.toNat:Int) &&& BitVec.ofInt IntKind.u8.bits 15).toNat:Nat):Int)∧IntKind.u8.wrap (((BitVec.ofInt IntKind.u8.bits (c.toNat:Int) &&& BitVec.ofInt IntKind.u8.bits 15).toNat:Nat):Int)<16 ∧
  ([48,49,50,51,52,53,54,55,56,57,97,98,99,100,101,102]:List UInt8).getD (IntKind.u8.wrap (((BitVec.ofInt IntKind.u8.bits (c.toNat:Int) &&& BitVec.ofInt IntKind.u8.bits 15).toNat:Nat):Int)).toNat 0=hexDig (c.toNat % 16):=by
 revert c;exact u8_all (by decide +kernel)
def itemText (x:It):List UInt8 :=
 if x.kind=1 then x.text.flatMap writB else if x.kind=2 then 60::(Lib.itoa x.id++58::(x.text++[62])) else if x.kind=3 then 60::47::(Lib.itoa x.id++58::(x.text++[62]))
 else if x.kind=4 then 60::(Lib.itoa x.id++58::(x.text++[47,62])) else if x.kind=5 then 123::(x.text++[125]) else []
def format (f:List It):List UInt8×Int:=if validItems f≠0 then ([],validItems f) else (f.flatMap itemText,0)
theorem writB_len (c:UInt8):(writB c).length≤4:=by
 simp only [writB]
 (repeat' split)<;>simp
theorem flatW_len (s:List UInt8):(s.flatMap writB).length≤4*s.length:=by
 induction s with
 | nil=>simp
 | cons c s ih =>
  have:=writB_len c
  simp only [List.flatMap_cons,List.length_append,List.length_cons];omega
theorem itemsErr_kind:∀ (rest pre:List It),itemsErr pre rest=0→∀ x∈rest,1≤x.kind∧x.kind≤5:=by
 intro rest
 induction rest with
 | nil=>intro pre h x hx;simp at hx
 | cons y rest ih =>
  intro pre h x hx
  simp only [itemsErr] at h
  split at h
  ·simp at h
  ·rename_i h1
   split at h
   ·simp at h
   ·rcases List.mem_cons.1 hx with rfl | hx
    ·simp only [itemFine] at h1
     by_cases k1:x.kind=1
     ·omega
     ·by_cases k5:x.kind=5
      ·omega
      ·by_cases k2:x.kind=2∨x.kind=4
       ·omega
       ·by_cases k3:x.kind=3
        ·omega
        ·simp [k1,k5,k2,k3] at h1
    ·exact ih _ h x hx
theorem validItems_kind {f:List It} (h:validItems f=0):∀ x∈f,1≤x.kind∧x.kind≤5:=by
 simp only [validItems] at h
 split at h
 ·simp at h
 ·exact itemsErr_kind f [] h
theorem itemText_len (x:It) (h : -9223372036854775808≤x.id∧x.id≤9223372036854775807):(itemText x).length≤4*x.text.length+30:=by
 have h1:=Lib.itoa_length_le x.id h.1 h.2
 have h2:=flatW_len x.text
 simp only [itemText]
 split
 ·omega
 ·split
  ·simp;omega
  ·split
   ·simp;omega
   ·split
    ·simp;omega
    ·split
     ·simp;omega
     ·simp
theorem format_len (f:List It) (hl:f.length<2^30) (ht:textLen f<2^30) (hid:∀ x∈f,-9223372036854775808≤x.id∧x.id≤9223372036854775807):(format f).1.length<2^36:=by
 have key:∀ f:List It,(∀ x∈f,-9223372036854775808≤x.id∧x.id≤9223372036854775807)→(f.flatMap itemText).length≤4*textLen f+30*f.length:=by
  intro f
  induction f with
  | nil=>intro _;simp
  | cons x f ih =>
   intro h
   have h1:=ih fun y hy=>h y (by simp [hy])
   have h2:=itemText_len x (h x (by simp))
   simp only [List.flatMap_cons,List.length_append,textLen,List.length_cons]
   omega
 have:=key f hid
 simp only [format]
 split
 ·simp
 ·simp only;omega
theorem indexByte_low (c:UInt8):∀ l:List UInt8,-1≤Lib.indexByte l c:=by
 intro l
 induction l with
 | nil=>simp [Lib.indexByte]
 | cons a l ih =>
  simp only [Lib.indexByte]
  split
  ·omega
  ·split<;>omega
theorem indexByte_none {c:UInt8}:∀ {l:List UInt8},c ∉ l→Lib.indexByte l c = -1:=by
 intro l
 induction l with
 | nil=>intro _;simp [Lib.indexByte]
 | cons a l ih =>
  intro h
  have h1:(a==c)=false:=by
   simp only [List.mem_cons,not_or] at h
   simpa using fun e=>h.1 e.symm
  have h2:=ih (fun hm=>h (List.mem_cons_of_mem _ hm))
  simp [Lib.indexByte,h1,h2]
theorem indexByte_at {c:UInt8} {rest:List UInt8}:∀ {pre:List UInt8},c ∉ pre→Lib.indexByte (pre++c::rest) c=pre.length:=by
 intro pre
 induction pre with
 | nil=>intro _;simp [Lib.indexByte]
 | cons a l ih =>
  intro h
  have h1:(a==c)=false:=by
   simp only [List.mem_cons,not_or] at h
   simpa using fun e=>h.1 e.symm
  have h2:=ih (fun hm=>h (List.mem_cons_of_mem _ hm))
  simp only [List.cons_append,Lib.indexByte,h1,h2,Bool.false_eq_true,if_false,List.length_cons]
  have:((l.length:Int) == -1)=false:=by rw [beq_eq_false_iff_ne];omega
  rw [this]
  simp
theorem indexByte_some {c:UInt8} {l:List UInt8} (h:c∈l):0≤Lib.indexByte l c:=by
 induction l with
 | nil=>simp at h
 | cons a l ih =>
  have hl:=indexByte_low c l
  simp only [Lib.indexByte]
  by_cases h1:a=c
  ·simp [h1]
  ·have h2:(a==c)=false:=by simpa using h1
   have h3:c∈l:=by
    rcases List.mem_cons.1 h with h | h
    ·exact absurd h.symm h1
    ·exact h
   have h4:=ih h3
   have h5:(Lib.indexByte l c == -1)=false:=by simp;omega
   simp [h2,h5];omega
structure En where
 source:List It
 target:List It
 previous:List UInt8
 next:List UInt8
 author:List UInt8
 project:List UInt8
 created:Int
 origin:Int
def En.cells (e:En):List V:=[.sl 3 (e.source.map It.cells),.sl 3 (e.target.map It.cells),.s e.previous,.s e.next,.s e.author,.s e.project,.i .i64 e.created,.i .i64 e.origin]
def named (s:List UInt8):Bool:=s==[]||isName s
def canonOk (e:En):Bool:=!(e.source.length==0)&&itsEq (canonS e.source e.target) e.source&&itsEq (canonT e.source e.target) e.target
def entryErr (e:En):Int :=
 if validItems e.source≠0 then validItems e.source else if validItems e.target≠0 then validItems e.target else
 if canonOk e=false then 1 else
 if (parse e.previous).2.2≠0 then (parse e.previous).2.2 else if (parse e.next).2.2≠0 then (parse e.next).2.2 else
 if (named e.author&&named e.project)=false then 4 else
 if e.created<0∨1073741824<e.created∨e.origin<1∨3<e.origin then 1 else 0
structure En.small (e:En):Prop where
 source:e.source.length<2^30
 sourceT:textLen e.source<2^30
 target:e.target.length<2^30
 targetT:textLen e.target<2^30
 previous:e.previous.length<2^30
 next:e.next.length<2^30
 ids:∀ x∈e.source++e.target,-9223372036854775808≤x.id∧x.id≤9223372036854775807
def joinKey (e:En):List UInt8:=(format e.source).1++10::(e.previous++10::e.next)
def entryKey (e:En):List UInt8:=if entryErr e≠0 then [] else joinKey e
structure Opr where
 stamp:Stamp
 kind:Int
 entry:En
 seen:List Int
def Opr.cells (o:Opr):List V:=o.stamp.cells++[.i .i64 o.kind]++o.entry.cells++[.sl 1 (o.seen.map iRow)]
structure Opr.small (o:Opr):Prop where
 entry:o.entry.small
 author:o.entry.author.length<2^30
 project:o.entry.project.length<2^30
 seen:o.seen.length<2^30
def asked (e:En):En:=⟨e.source,e.source,e.previous,e.next,[],[],0,1⟩
def looked (o:Opr):En:=if o.kind≠2 then o.entry else asked o.entry
def bareEn (e:En):Bool:=e.target.length==0&&(e.author==[]&&(e.project==[]&&(e.created==0&&e.origin==0)))
theorem looked_small {o:Opr} (h:o.small):(looked o).small:=by
 simp only [looked]
 split
 ·exact h.entry
 ·exact ⟨h.entry.source,h.entry.sourceT,h.entry.source,h.entry.sourceT,h.entry.previous,h.entry.next,fun x hx=>h.entry.ids x (by
   simp only [asked,List.mem_append] at hx ⊢
   rcases hx with hx | hx<;>exact .inl hx)⟩
def vTrim (v:List Int):List Int:=vJoin v []
def opErr (o:Opr):Int :=
 if stampOk o.stamp=false then 1 else
 if (o.kind≠1∧o.kind≠2)∨vTrim o.seen≠o.seen then 1 else
 if o.seen.any (fun n=>decide (128<n)) then 1 else
 if vAt o.seen o.stamp.office≠o.stamp.number - 1 then 11 else
 if o.kind=2∧bareEn o.entry=false then 1 else entryErr (looked o)
def opKey (o:Opr):List UInt8:=if opErr o≠0 then [] else entryKey (looked o)
def lowB (n:Int):UInt8:=UInt8.ofNat (n % 256).toNat
def be2 (n:Int):List UInt8:=[lowB (n / 256),lowB n]
def be4 (n:Int):List UInt8:=be2 (n / 65536)++be2 n
theorem be4_length (n:Int):(be4 n).length=4:=rfl
theorem be2_length (n:Int):(be2 n).length=2:=rfl
def encText (s:List UInt8):List UInt8:=be4 s.length++s
def encBody (o:Opr):List UInt8 :=
 [1,lowB o.kind]++be4 o.stamp.time++[lowB o.stamp.office]++be2 o.stamp.number++[lowB o.seen.length]++o.seen.flatMap be2 ++
 encText (format o.entry.source).1++encText o.entry.previous++encText o.entry.next ++
 (if o.kind=1 then encText (format o.entry.target).1++encText o.entry.author++encText o.entry.project++be4 o.entry.created++[lowB o.entry.origin] else [])
def encode (o:Opr):List UInt8×Int:=if opErr o≠0 then ([],opErr o) else (encBody o,0)
def cmpB:List UInt8→List UInt8→Int
 | [],[]=>0
 | [],_::_ => -1
 | _::_,[]=>1
 | a::x,b::y=>if a<b then -1 else if b<a then 1 else cmpB x y
def opOrd (a b:Opr):Int :=
 let n:=orI [cmpI a.stamp.office b.stamp.office,cmpI a.stamp.number b.stamp.number,cmpI a.stamp.time b.stamp.time,cmpI a.kind b.kind]
 if n≠0 then n else cmpB (encode a).1 (encode b).1
def wins (a b:Opr):Bool:=decide (0<cmpStamp a.stamp b.stamp)||(decide (cmpStamp a.stamp b.stamp=0)&&decide (0<opOrd a b))
structure Rb where
 b:List UInt8
 bad:Bool
def Rb.take (r:Rb) (n:Nat):List UInt8×Rb :=
 if r.b.length<n then (List.replicate (min n 4) 0,⟨[],true⟩) else (r.b.take n,⟨r.b.drop n,r.bad⟩)
def beNat (l:List UInt8):Int:=l.foldl (fun a x=>a*256+x.toNat) 0
def Rb.number (r:Rb) (n:Nat):Int×Rb:=(beNat (r.take n).1,(r.take n).2)
def Rb.text (r:Rb):List UInt8×Rb :=
 let p:=r.number 4
 if (p.2.b.length:Int)<p.1 then ([],⟨p.2.b,true⟩) else p.2.take p.1.toNat
def Rb.numbers:Nat→Rb→List Int×Rb
 | 0,r=>([],r)
 | n+1,r=>let p:=r.number 2;let q:=Rb.numbers n p.2;(p.1::q.1,q.2)
def winStep (m:List (List UInt8×Opr)) (o:Opr):List (List UInt8×Opr) :=
 if opKey o=[] then m else match getA (opKey o) m with
  | none=>updA m (opKey o) o
  | some was=>if wins o was then updA m (opKey o) o else m
def winners (l:List Opr):List (List UInt8×Opr):=if 1024<l.length then [] else l.foldl winStep []
def leB (x y:List UInt8):Bool:=decide (x≤y)
def current (l:List Opr):List Opr:=(((winners l).map (·.1)).mergeSort leB).filterMap fun k=>getA k (winners l)
def memoryOf (l:List Opr):List En:=((current l).filter fun o=>o.kind==1).map (·.entry)
section
variable {α β:Type} [DecidableEq α]
theorem updA_keys (l:List (α×β)) (a:α) (b:β):(updA l a b).map (·.1)=if (getA a l).isSome=true then l.map (·.1) else l.map (·.1)++[a]:=by
 induction l with
 | nil=>simp [updA,getA_nil]
 | cons p l ih =>
  simp only [updA,getA_cons]
  by_cases h:a=p.1
  ·simp [h]
  ·rw [if_neg h,List.map_cons,ih,if_neg h]
   split<;>rename_i h2
   ·simp
   ·simp
theorem getA_none {a:α}:∀ {l:List (α×β)},getA a l=none↔a ∉ l.map (·.1):=by
 intro l
 induction l with
 | nil=>simp [getA_nil]
 | cons p l ih =>
  rw [getA_cons]
  by_cases h:a=p.1
  ·simp [h]
  ·simp only [if_neg h,ih,List.map_cons,List.mem_cons,not_or]
   exact ⟨fun h2=>⟨h,h2⟩,fun h2=>h2.2⟩
theorem getA_some {a:α} {l:List (α×β)} (h:a∈l.map (·.1)):∃ b,getA a l=some b:=by
 cases hg:getA a l with
 | none=>exact absurd h (getA_none.1 hg)
 | some b=>exact ⟨b,rfl⟩
theorem updA_nodup {l:List (α×β)} {a:α} {b:β} (h:(l.map (·.1)).Nodup):((updA l a b).map (·.1)).Nodup:=by
 rw [updA_keys]
 split
 ·exact h
 ·rename_i h2
  have h3:a ∉ l.map (·.1):=fun hm=>h2 (by obtain ⟨b,hb⟩:=getA_some hm;simp [hb])
  rw [List.nodup_append]
  refine ⟨h,by simp,?_⟩
  intro x hx y hy
  simp only [List.mem_cons,List.not_mem_nil,or_false] at hy
  subst hy
  exact fun e=>h3 (e▸hx)
end
theorem winStep_nodup {m:List (List UInt8×Opr)} {o:Opr} (h:(m.map (·.1)).Nodup):((winStep m o).map (·.1)).Nodup:=by
 simp only [winStep]
 split
 ·exact h
 ·split
  ·exact updA_nodup h
  ·split
   ·exact updA_nodup h
   ·exact h
theorem winStep_len (m:List (List UInt8×Opr)) (o:Opr):(winStep m o).length≤m.length+1:=by
 simp only [winStep]
 split
 ·omega
 ·split
  ·exact updA_len _ _ _
  ·split
   ·exact updA_len _ _ _
   ·omega
theorem fold_nodup (l:List Opr):∀ (m:List (List UInt8×Opr)),(m.map (·.1)).Nodup→((l.foldl winStep m).map (·.1)).Nodup:=by
 induction l with
 | nil=>intro m h;exact h
 | cons o l ih=>intro m h;exact ih _ (winStep_nodup h)
theorem fold_len (l:List Opr):∀ (m:List (List UInt8×Opr)),(l.foldl winStep m).length≤m.length+l.length:=by
 induction l with
 | nil=>intro m;simp
 | cons o l ih =>
  intro m
  have h1:=ih (winStep m o)
  have h2:=winStep_len m o
  simp only [List.foldl_cons,List.length_cons]
  omega
theorem winners_nodup (l:List Opr):((winners l).map (·.1)).Nodup:=by
 simp only [winners]
 split
 ·simp
 ·exact fold_nodup l [] (by simp)
theorem winners_len (l:List Opr):(winners l).length≤1024:=by
 simp only [winners]
 split
 ·simp
 ·have:=fold_len l []
  simp at this
  omega
theorem winStep_memN {m:List (List UInt8×Opr)} {o:Opr} {p:List UInt8×Opr} (h:p∈winStep m o):p=(opKey o,o)∨p∈m:=by
 have upd:∀ {m:List (List UInt8×Opr)},p∈updA m (opKey o) o→p=(opKey o,o)∨p∈m:=by
  intro m
  induction m with
  | nil=>intro h;simp [updA] at h;exact .inl h
  | cons q l ih =>
   intro h
   simp only [updA] at h
   split at h
   ·rcases List.mem_cons.1 h with h | h
    ·exact .inl h
    ·exact .inr (List.mem_cons_of_mem _ h)
   ·rcases List.mem_cons.1 h with h | h
    ·exact .inr (h▸List.mem_cons_self ..)
    ·rcases ih h with h | h
     ·exact .inl h
     ·exact .inr (List.mem_cons_of_mem _ h)
 simp only [winStep] at h
 split at h
 ·exact .inr h
 ·split at h
  ·exact upd h
  ·split at h
   ·exact upd h
   ·exact .inr h
theorem fold_mem (l:List Opr):∀ (m:List (List UInt8×Opr)) (p:List UInt8×Opr),p∈l.foldl winStep m→(p.1=opKey p.2∧p.2∈l)∨p∈m:=by
 induction l with
 | nil=>intro m p h;exact .inr h
 | cons o l ih =>
  intro m p h
  rcases ih _ p h with h | h
  ·exact .inl ⟨h.1,List.mem_cons_of_mem _ h.2⟩
  ·rcases winStep_memN h with rfl | h
   ·exact .inl ⟨rfl,List.mem_cons_self ..⟩
   ·exact .inr h
theorem winners_mem {l:List Opr} {p:List UInt8×Opr} (h:p∈winners l):p.1=opKey p.2∧p.2∈l:=by
 simp only [winners] at h
 split at h
 ·simp at h
 ·rcases fold_mem l [] p h with h | h
  ·exact h
  ·simp at h
def sortedKeys (l:List Opr):List (List UInt8):=((winners l).map (·.1)).mergeSort leB
theorem sortedKeys_perm (l:List Opr):(sortedKeys l).Perm ((winners l).map (·.1)):=List.mergeSort_perm _ _
theorem sortedKeys_some {l:List Opr} {k:List UInt8} (h:k∈sortedKeys l):∃ o,getA k (winners l)=some o:=getA_some ((sortedKeys_perm l).mem_iff.1 h)
theorem sortedKeys_len (l:List Opr):(sortedKeys l).length≤1024:=by
 have:=winners_len l
 rw [(sortedKeys_perm l).length_eq];simpa using this
theorem current_len (l:List Opr):(current l).length≤1024:=Nat.le_trans (List.length_filterMap_le _ _) (sortedKeys_len l)
end Go.Bt
namespace Go.Bt
open Go.Pm
structure Off where
 number:Int
 clock:Int
 ops:List Opr
 log:List UInt8
 synced:Int
 down:Bool
def Off.cells (o:Off):List V:=[.i .i64 o.number,.i .i64 o.clock,.sl 13 (o.ops.map Opr.cells),.sl 1 (bytesV o.log),.i .i64 o.synced,.b o.down]
def Off.zero:Off:=⟨0,0,[],[],0,false⟩
structure Off.small (o:Off):Prop where
 ops:∀ x∈o.ops,x.small
 len:o.ops.length<2^30
 log:o.log.length<2^30
def newOff (n:Int):Off×Int:=if n<0∨8≤n then (.zero,1) else (⟨n,0,[],[],0,false⟩,0)
def ordNo (a b:Opr):Int:=orI [cmpI a.stamp.office b.stamp.office,cmpI a.stamp.number b.stamp.number]
end Go.Bt
namespace Go.Bt
open Go Go.Pm
def byteI (n:Int):UInt8:=UInt8.ofNat (IntKind.u8.wrap n).toNat
theorem byteI_toNat (n:Int):((byteI n).toNat:Int)=IntKind.u8.wrap n:=by
 have h:IntKind.u8.wrap n=n % 256:=by
  simp only [IntKind.wrap,IntKind.bits,IntKind.signed];rfl
 rw [byteI,h]
 have h1:(n % 256).toNat<256:=by omega
 simp only [UInt8.toNat_ofNat']
 omega
def numB (n:Int):List UInt8:=[byteI (n.fdiv (2^24)),byteI (n.fdiv (2^16)),byteI (n.fdiv (2^8)),byteI n]
def sumStep (h:Int) (x:UInt8):Int :=
 IntKind.u32.wrap (IntKind.u32.wrap ((BitVec.ofInt IntKind.u32.bits h ^^^ BitVec.ofInt IntKind.u32.bits (IntKind.u32.wrap (x.toNat:Int))).toNat:Int)*16777619)
def sumF (h:Int) (b:List UInt8):Int:=b.foldl sumStep h
def checkB (p:List UInt8):List UInt8:=numB (sumF (sumF 2166136261 (numB (IntKind.u32.wrap (p.length:Int)))) p)
def appendF (log p:List UInt8):List UInt8×Int :=
 if 65536<p.length∨4194304<log.length+8+p.length then ([],3) else (log++numB (IntKind.u32.wrap (p.length:Int))++checkB p++p,0)
theorem numB_length (n:Int):(numB n).length=4:=rfl
def keyNo (o:Opr):Int×Int:=(o.stamp.office,o.stamp.number)
def addK (ks:List (Int×Int)) (k:Int×Int):List (Int×Int):=if k∈ks then ks else ks++[k]
def kV (k:Int×Int):V:=.agg [.i .i64 k.1,.i .i64 k.2]
def entK (ks:List (Int×Int)):List (V×V):=ks.map fun k=>(kV k,.agg [])
theorem addK_mem {ks:List (Int×Int)} {k q:Int×Int}:q∈addK ks k↔q=k∨q∈ks:=by
 unfold addK
 split
 ·rename_i h
  exact ⟨.inr,fun h2=>h2.elim (fun e=>e▸h) id⟩
 ·simp [or_comm]
theorem keys_mem (l:List Opr):∀ (ks:List (Int×Int)) (q:Int×Int),q∈l.foldl (fun ks o=>addK ks (keyNo o)) ks↔q∈ks∨∃ o∈l,keyNo o=q:=by
 induction l with
 | nil=>simp
 | cons o l ih =>
  intro ks q
  rw [List.foldl_cons,ih,addK_mem]
  constructor
  ·rintro ((rfl | h) | ⟨p,h1,h2⟩)
   ·exact .inr ⟨o,by simp,rfl⟩
   ·exact .inl h
   ·exact .inr ⟨p,by simp [h1],h2⟩
  ·rintro (h | ⟨p,h1,h2⟩)
   ·exact .inl (.inr h)
   ·rcases List.mem_cons.1 h1 with rfl | h1
    ·exact .inl (.inl h2.symm)
    ·exact .inr ⟨p,h1,h2⟩
theorem eqK (k q:Int×Int):scalEq 3 (kV k) (kV q)=some (k.1==q.1&&k.2==q.2):=by
 simp [scalEq,kV,pairEq]
theorem findK_none {k:Int×Int}:∀ {ks:List (Int×Int)} {n:Nat},k ∉ ks→findV 3 (kV k) (entK ks) n=some none:=by
 intro ks
 induction ks with
 | nil=>intro n _;rfl
 | cons q ks ih =>
  intro n h
  simp only [List.mem_cons,not_or] at h
  have e:(k.1==q.1&&k.2==q.2)=false:=by
   rcases k with ⟨a,b⟩;rcases q with ⟨c,d⟩
   simp only [Prod.mk.injEq] at h
   cases h1:(a==c)<;>cases h2:(b==d)<;>simp_all
  simp only [entK,List.map_cons,findV,eqK,e]
  exact ih h.2
theorem findK_some {k:Int×Int}:∀ {ks:List (Int×Int)} {n:Nat},k∈ks→∃ i,findV 3 (kV k) (entK ks) n=some (some (n+i,.agg []))∧(entK ks)[i]?=some (kV k,.agg []):=by
 intro ks
 induction ks with
 | nil=>intro n h;simp at h
 | cons q ks ih =>
  intro n h
  by_cases e:k=q
  ·subst e
   exact ⟨0,by simp [entK,findV,eqK],by simp [entK]⟩
  ·have e2:(k.1==q.1&&k.2==q.2)=false:=by
    rcases k with ⟨a,b⟩;rcases q with ⟨c,d⟩
    simp only [Prod.mk.injEq] at e
    cases h1:(a==c)<;>cases h2:(b==d)<;>simp_all
   have h:k∈ks:=by
    rcases List.mem_cons.1 h with h | h
    ·exact absurd h e
    ·exact h
   obtain ⟨i,h1,h2⟩:=ih (n:=n+1) h
   refine ⟨i+1,?_,by simpa [entK] using h2⟩
   simp only [entK,List.map_cons,findV,eqK,e2]
   rw [show n+(i+1)=n+1+i by omega]
   exact h1
theorem entK_put (ks:List (Int×Int)) (k:Int×Int) :
  (k ∉ ks∧findV 3 (kV k) (entK ks) 0=some none∧entK ks++[(kV k,.agg [])]=entK (addK ks k)) ∨
  (k∈ks∧∃ i,findV 3 (kV k) (entK ks) 0=some (some (i,.agg []))∧(entK ks).set i (kV k,.agg [])=entK (addK ks k)):=by
 by_cases h:k∈ks
 ·obtain ⟨i,h1,h2⟩:=findK_some (n:=0) h
  rw [Nat.zero_add] at h1
  refine .inr ⟨h,i,h1,?_⟩
  rw [addK,if_pos h]
  obtain ⟨hi,h3⟩:=List.getElem?_eq_some_iff.1 h2
  rw [← h3,List.set_getElem_self]
 ·exact .inl ⟨h,findK_none h,by simp [addK,if_neg h,entK]⟩
def enEq (a b:En):Bool:=itsEq a.source b.source&&(itsEq a.target b.target&&(a.previous==b.previous&&(a.next==b.next&&(a.author==b.author&&(a.project==b.project&&(a.created==b.created&&a.origin==b.origin))))))
theorem enEq_iff {a b:En}:enEq a b=true↔a=b:=by
 obtain ⟨a1,a2,a3,a4,a5,a6,a7,a8⟩:=a
 obtain ⟨b1,b2,b3,b4,b5,b6,b7,b8⟩:=b
 simp [enEq,itsEq_iff]
def ensEq:List En→List En→Bool
 | [],[]=>true
 | a::x,b::y=>enEq a b&&ensEq x y
 | _,_=>false
theorem ensEq_iff:∀ {a b:List En},ensEq a b=true↔a=b
 | [],[]=>by simp [ensEq]
 | a::x,b::y=>by simp [ensEq,enEq_iff,ensEq_iff (a:=x) (b:=y)]
 | [],b::y=>by simp [ensEq]
 | a::x,[]=>by simp [ensEq]
theorem ensEq_len:∀ {a b:List En},ensEq a b=true→a.length=b.length:=fun h=>by rw [ensEq_iff.1 h]
def place (x n:Int):Int:=if x.tmod n<0 then x.tmod n+n else x.tmod n
theorem place_range {x n:Int} (h:0<n):0≤place x n∧place x n<n:=by
 have h1:=Int.tmod_lt_of_pos x h
 have h2 : - n<x.tmod n:=Int.neg_lt_of_neg_lt (by
  have:=Int.tmod_lt_of_pos (-x) h
  rw [Int.neg_tmod] at this
  omega)
 simp only [place]
 split<;>omega
def srcL:List (List UInt8):=[[83,97,118,101],[120],[114,101,100]]
def tgtL:List (List UInt8):=[[97],[98],[99],[100]]
def enAB (a b:List UInt8):En:=⟨[⟨1,a,0⟩],[⟨1,b,0⟩],[],[],[],[],0,1⟩
def entryE (s t:Int):En:=enAB (srcL.getD (place s 3).toNat []) (tgtL.getD (place t 4).toNat [])
theorem enAB_ok:∀ a∈srcL,∀ b∈tgtL,entryErr (enAB a b)=0∧(format [⟨1,a,0⟩]).1.length≤8∧(format [⟨1,b,0⟩]).1.length≤8∧a.length≤8∧b.length≤8:=by decide +kernel
theorem entryE_at (s t:Int):srcL.getD (place s 3).toNat []∈srcL∧tgtL.getD (place t 4).toNat []∈tgtL:=by
 have h1:=place_range (x:=s) (n:=3) (by decide)
 have h2:=place_range (x:=t) (n:=4) (by decide)
 constructor
 ·rw [List.getD_eq_getElem?_getD,List.getElem?_eq_getElem (show (place s 3).toNat<srcL.length by simp only [srcL,List.length_cons,List.length_nil];omega)]
  exact List.getElem_mem _
 ·rw [List.getD_eq_getElem?_getD,List.getElem?_eq_getElem (show (place t 4).toNat<tgtL.length by simp only [tgtL,List.length_cons,List.length_nil];omega)]
  exact List.getElem_mem _
theorem entryE_ok (s t:Int):entryErr (entryE s t)=0:=(enAB_ok _ (entryE_at s t).1 _ (entryE_at s t).2).1
theorem entryE_small (s t:Int):(entryE s t).small:=by
 obtain ⟨_,_,_,h3,h4⟩:=enAB_ok _ (entryE_at s t).1 _ (entryE_at s t).2
 refine ⟨by simp [entryE,enAB],?_,by simp [entryE,enAB],?_,by simp [entryE,enAB],by simp [entryE,enAB],fun x hx=>?_⟩
 ·simp only [entryE,enAB,textLen];omega
 ·simp only [entryE,enAB,textLen];omega
 ·simp only [entryE,enAB,List.cons_append,List.nil_append,List.mem_cons,List.not_mem_nil,or_false] at hx
  rcases hx with rfl | rfl<;>exact ⟨by simp,by simp⟩
def opOf (tm ofc no:Int) (e:En) (sn:List Int):Opr:=⟨⟨tm,ofc,no⟩,1,e,sn⟩
theorem opOf_ok {tm ofc no:Int} {s t:Int} {sn:List Int} (h1:stampOk ⟨tm,ofc,no⟩=true) (h2:vTrim sn=sn) (h3:∀ n∈sn,n≤128) (h4:vAt sn ofc=no - 1):opErr (opOf tm ofc no (entryE s t) sn)=0:=by
 have e3:sn.any (fun n=>decide (128<n))=false:=by
  rw [List.any_eq_false]
  intro n hn
  have:=h3 n hn
  simp;omega
 simp only [opErr,opOf,h1,h2,e3,h4,looked]
 simp [entryE_ok]
theorem opOf_small {tm ofc no:Int} {s t:Int} {sn:List Int} (h:sn.length≤8):(opOf tm ofc no (entryE s t) sn).small :=
 ⟨entryE_small s t,by simp [opOf,entryE,enAB],by simp [opOf,entryE,enAB],by simp only [opOf];omega⟩
theorem opOf_len {tm ofc no:Int} {s t:Int} {sn:List Int} (h:sn.length≤8):(encBody (opOf tm ofc no (entryE s t) sn)).length≤92:=by
 obtain ⟨_,h1,h2,_,_⟩:=enAB_ok _ (entryE_at s t).1 _ (entryE_at s t).2
 have h3:(sn.flatMap be2).length=2*sn.length:=by
  clear h
  induction sn with
  | nil=>rfl
  | cons a r ih=>simp only [List.flatMap_cons,List.length_append,be2_length,ih,List.length_cons];omega
 simp only [encBody,opOf,entryE,enAB,encText,if_true,List.length_append,be4_length,be2_length,List.length_cons,List.length_nil,h3]
 omega
theorem opOf_le {tm ofc no:Int} {s t:Int} {sn:List Int} (h:sn.length≤8):(encBody (opOf tm ofc no (entryE s t) sn)).length≤60000:=Nat.le_trans (opOf_len h) (by decide)
def recF (p:List UInt8):List UInt8:=numB (IntKind.u32.wrap (p.length:Int))++checkB p++p
theorem recF_len (p:List UInt8):(recF p).length=8+p.length:=by simp only [recF,checkB,List.length_append,numB_length]
theorem appendF_ok {log p:List UInt8} (h1:p.length≤60000) (h2:log.length≤1000000):appendF log p=(log++recF p,0):=by
 rw [appendF,if_neg (by omega),recF]
 simp
theorem enc_ok {x:Opr} (h:opErr x=0):encode x=(encBody x,0):=by simp [encode,h]
def putOff (o:Off) (x:Opr) (m:Nat):Off :=
 ⟨o.number,if o.clock<x.stamp.time then x.stamp.time else o.clock,o.ops.take m++x::o.ops.drop m,o.log++recF (encBody x),o.synced,o.down⟩
def zeroOp:Opr:=⟨⟨0,0,0⟩,0,⟨[],[],[],[],[],[],0,0⟩,[]⟩
theorem plainB_ne:∀ c:UInt8,plainB c=true→c≠92∧c≠60∧c≠123:=u8_all (by decide +kernel)
theorem esc_hex:∀ c:UInt8,hexByte (hexDig (c.toNat / 16)) (hexDig (c.toNat % 16))=c∧(hexOf (hexDig (c.toNat / 16))).2=true∧(hexOf (hexDig (c.toNat % 16))).2=true:=u8_all (by decide +kernel)
theorem esc_ctl:∀ c:UInt8,plainB c=false→c≠10→c≠9→¬ (c=92∨c=60∨c=123)→(c==13||classOf c==1)=true:=u8_all (by decide +kernel)
theorem esc_two (a d:UInt8) (r:List UInt8):escapeOf (a::d::r)=if d=92∨d=60∨d=123 then (d,2,true) else if d=110 then (10,2,true) else if d=116 then (9,2,true) else if d=120 then
  (if r.length<2 then (0,0,false) else (hexByte (r.getD 0 0) (r.getD 1 0),4,(hexOf (r.getD 0 0)).2&&(hexOf (r.getD 1 0)).2&&(hexByte (r.getD 0 0) (r.getD 1 0)==13||classOf (hexByte (r.getD 0 0) (r.getD 1 0))==1))) else (0,0,false):=by
 simp only [escapeOf,List.length_cons,List.getD_cons_zero,List.getD_cons_succ]
 rw [if_neg (by omega)]
 have e:(r.length+1+1<4)=(r.length<2):=by rw [eq_iff_iff];omega
 simp only [e]
theorem elem_esc (d:UInt8) (r:List UInt8):elementOf (92::d::r)=(⟨1,[(escapeOf (92::d::r)).1],0⟩,(escapeOf (92::d::r)).2.1,(escapeOf (92::d::r)).2.2):=by
 simp only [elementOf,List.getD_cons_zero,if_true]
theorem elem_char (c:UInt8) (rest:List UInt8):elementOf (writB c++rest)=(⟨1,[c],0⟩,((writB c).length:Int),true):=by
 unfold writB
 split
 ·rename_i h
  have hn:=plainB_ne c h
  simp [elementOf,hn,h]
 ·rename_i h
  have h:plainB c=false:=by simpa using h
  split
  ·rename_i h1;subst h1
   simp only [List.cons_append,List.nil_append,elem_esc,esc_two];rfl
  ·split
   ·rename_i h1 h2;subst h2
    simp only [List.cons_append,List.nil_append,elem_esc,esc_two];rfl
   ·split
    ·rename_i h1 h2 h3
     simp only [List.cons_append,List.nil_append,elem_esc,esc_two,if_pos h3];rfl
    ·rename_i h1 h2 h3
     have he:=esc_hex c
     have hc:=esc_ctl c h h1 h2 h3
     simp only [List.cons_append,List.nil_append,elem_esc,esc_two]
     rw [if_neg (by decide),if_neg (by decide),if_neg (by decide),if_pos (by decide),if_neg (by simp)]
     simp only [List.getD_cons_zero,List.getD_cons_succ,he.1,he.2.1,he.2.2,hc,Bool.and_true]
     rfl
theorem nameByte_ne:∀ c:UInt8,nameByte c=true→c≠62∧c≠125∧c≠58∧c≠47∧c≠32∧contentBad c=false:=u8_all (by decide +kernel)
theorem nameFirst:∀ c:UInt8,(97≤c.toNat∧c.toNat≤122)→nameByte c=true:=u8_all (by decide +kernel)
theorem isName_all {s:List UInt8} (h:isName s=true):∀ c∈s,nameByte c=true:=by
 cases s with
 | nil=>simp [isName] at h
 | cons c r =>
  simp only [isName,Bool.and_eq_true,decide_eq_true_eq,List.all_eq_true] at h
  intro x hx
  rcases List.mem_cons.1 hx with rfl | hx
  ·exact nameFirst _ h.1.2
  ·exact h.2 x hx
theorem elem_slot (t rest:List UInt8) (h:isName t=true):elementOf (123::(t++125::rest))=(⟨5,t,0⟩,(t.length:Int)+2,true):=by
 have hi:Lib.indexByte (123::(t++125::rest)) 125=((123::t:List UInt8).length:Int):=by
  have:=indexByte_at (c:=125) (rest:=rest) (pre:=123::t) (by
   intro hm
   rcases List.mem_cons.1 hm with hm | hm
   ·exact absurd hm (by decide)
   ·exact (nameByte_ne _ (isName_all h _ hm)).2.1 rfl)
  simpa using this
 have e:((123::(t++125::rest)).take (Lib.indexByte (123::(t++125::rest)) 125).toNat).drop 1=t:=by
  rw [hi];simp
 simp only [elementOf,List.getD_cons_zero,e,h]
 rw [if_neg (by decide),if_neg (by decide),if_pos (by decide),if_neg (by rw [hi];simp;omega),hi]
 simp;omega
theorem cutAt_at {c:UInt8} {a b:List UInt8} (h:c ∉ a):cutAt (a++c::b) c=(a,b,true):=by
 simp only [cutAt,indexByte_at h]
 rw [if_pos (by omega)]
 simp
def d3 (n:Nat):List UInt8:=if n<10 then [UInt8.ofNat (48+n)] else if n<100 then [UInt8.ofNat (48+n / 10),UInt8.ofNat (48+n % 10)] else [UInt8.ofNat (48+n / 100),UInt8.ofNat (48+n / 10 % 10),UInt8.ofNat (48+n % 10)]
theorem itoa_d3 (n:Nat) (h:n<1000):Lib.itoa (n:Int)=d3 n:=by
 unfold Lib.itoa
 rw [if_neg (by omega)]
 simp only [Int.toNat_natCast,d3]
 by_cases h1:n<10
 ·rw [if_pos h1,Lib.decDigits_one h1]
 ·rw [if_neg h1]
  by_cases h2:n<100
  ·rw [if_pos h2,Lib.decDigits_two h1 h2]
  ·rw [if_neg h2,Lib.decDigits,dif_neg h1,Lib.decDigits_two (by omega) (by omega)]
   simp only [List.cons_append,List.nil_append]
   have e:n / 10 / 10=n / 100:=by omega
   rw [e]
theorem d3_num:∀ n:Fin 1000,1≤n.val→numberOf (d3 n.val)=((n.val:Int),true)∧(d3 n.val).all digitB=true∧(d3 n.val)≠[]:=by decide +kernel
theorem itoa_num (n:Int) (h:1≤n∧n≤999):numberOf (Lib.itoa n)=(n,true)∧(∀ c∈Lib.itoa n,digitB c=true)∧Lib.itoa n≠[]:=by
 obtain ⟨m,rfl⟩:∃ m:Nat,n=m:=⟨n.toNat,by omega⟩
 have:=d3_num ⟨m,by omega⟩ (by show 1≤m;omega)
 rw [itoa_d3 m (by omega)]
 exact ⟨this.1,fun c hc=>List.all_eq_true.1 this.2.1 c hc,this.2.2⟩
def wid (x:It):Nat:=if x.kind=1 then x.text.length else 1
def total (f:List It):Nat:=(f.map wid).sum
def tagPut (m:List (Int×It)) (x:It):List (Int×It):=if tagged x then updA m x.id x else m
def tagMap (f:List It):List (Int×It):=f.foldl tagPut []
def rdOf (f:List It) (t:List UInt8):Rd:=⟨f,t,total f+t.length,tagMap f⟩
def closed (f:List It) (t:List UInt8):List It:=if t=[] then f else f++[⟨1,t,0⟩]
theorem total_append (a b:List It):total (a++b)=total a+total b:=by simp [total]
theorem total_one (x:It):total [x]=wid x:=by simp [total]
theorem tagMap_snoc (f:List It) (x:It):tagMap (f++[x])=tagPut (tagMap f) x:=by simp [tagMap]
theorem tagPut_text {m:List (Int×It)} {t:List UInt8} {i:Int}:tagPut m ⟨1,t,i⟩=m:=by simp [tagPut,tagged]
theorem tagMap_closed (f:List It) (t:List UInt8):tagMap (closed f t)=tagMap f:=by
 simp only [closed]
 split
 ·rfl
 ·rw [tagMap_snoc,tagPut_text]
theorem total_closed (f:List It) (t:List UInt8):total (closed f t)=total f+t.length:=by
 simp only [closed]
 split
 ·rename_i h;simp [h]
 ·rw [total_append,total_one];simp [wid]
theorem closed_len (f:List It) (t:List UInt8):(closed f t).length=f.length+(if 0<t.length then 1 else 0):=by
 simp only [closed]
 split
 ·rename_i h;simp [h]
 ·rename_i h
  have:0<t.length:=List.length_pos_iff.2 h
  simp [this]
theorem rdFlush_of (f:List It) (t:List UInt8):(rdFlush (rdOf f t)).f=closed f t:=by
 by_cases h:t=[]
 ·subst h;rfl
 ·have h1:0<t.length:=List.length_pos_iff.2 h
  have e:rdFlush (rdOf f t)=⟨f++[⟨1,t,0⟩],[],total f+t.length,tagMap f⟩:=if_pos h1
  rw [e,closed,if_neg h]
theorem rev_ind {α:Type} {p:List α→Prop} (h0:p []) (h1:∀ l x,p l→p (l++[x])) (l:List α):p l:=by
 have:∀ l:List α,p l.reverse:=by
  intro l
  induction l with
  | nil=>exact h0
  | cons x l ih=>rw [List.reverse_cons];exact h1 _ _ ih
 have:=this l.reverse
 rwa [List.reverse_reverse] at this
def tooMany (f:List It) (t:List UInt8) (x:It):Prop:=512<f.length+(if 0<t.length then 1 else 0)+(if x.kind≠1∨t.length=0 then 1 else 0)∨1024<total f+t.length+1
instance (f:List It) (t:List UInt8) (x:It):Decidable (tooMany f t x):=by unfold tooMany;infer_instance
theorem rdAdd_char (f:List It) (t:List UInt8) (c:UInt8):rdAdd (rdOf f t) ⟨1,[c],0⟩=if tooMany f t ⟨1,[c],0⟩ then (3,rdOf f t) else (0,rdOf f (t++[c])):=by
 simp only [rdAdd,tagged,addItems,tooMany,rdOf]
 simp only [bne_self_eq_false,Bool.false_and,Bool.false_eq_true,if_false,List.length_append,List.length_cons,List.length_nil,if_true]
 rfl
theorem rdAdd_item (f:List It) (t:List UInt8) (x:It) (hx:x.kind≠1):rdAdd (rdOf f t) x =
  if tagged x&&clash (rdOf f t) x then (7,rdOf f t) else if tooMany f t x then (3,rdOf f t) else (0,rdOf (closed f t++[x]) []):=by
 simp only [rdAdd,addItems,tooMany,hx,if_false]
 have e:rdPut (rdFlush (rdTag (rdOf f t) x)) x=rdOf (closed f t++[x]) []:=by
  have hw:wid x=1:=by simp [wid,hx]
  simp only [rdOf,total_append,total_one,total_closed,tagMap_snoc,tagMap_closed,hw,List.length_nil,Nat.add_zero]
  by_cases h:t=[]
  ·subst h;rfl
  ·have h1:0<t.length:=List.length_pos_iff.2 h
   have e:rdFlush (rdTag ⟨f,t,total f+t.length,tagMap f⟩ x)=⟨f++[⟨1,t,0⟩],[],total f+t.length+1,tagPut (tagMap f) x⟩:=if_pos h1
   rw [e,closed,if_neg h]
   rfl
 rw [e]
 rfl
theorem itemFine_any {x:It} {p:Option It} (h:x.kind≠1):itemFine p x=itemFine none x:=by simp only [itemFine,h,if_false]
theorem isTag_tagged {x:It} (h:itemFine none x=true):isTag x=tagged x:=by
 simp only [itemFine] at h
 by_cases k1:x.kind=1
 ·simp [isTag,tagged,k1]
 ·by_cases k5:x.kind=5
  ·simp [isTag,tagged,k5]
  ·by_cases k2:x.kind=2∨x.kind=4
   ·rcases k2 with k2 | k2<;>simp [isTag,tagged,k2]
   ·by_cases k3:x.kind=3
    ·simp [isTag,tagged,k3]
    ·simp [k1,k5,k2,k3] at h
theorem itemsErr_snoc:∀ (f pre:List It) (x:It),itemsErr pre (f++[x])=0↔itemsErr pre f=0∧itemFine (pre++f).getLast? x=true∧(isTag x&&!fits (pre++f) x)=false:=by
 intro f
 induction f with
 | nil =>
  intro pre x
  simp only [List.nil_append,List.append_nil,itemsErr]
  by_cases h1:itemFine pre.getLast? x=false
  ·simp [h1]
  ·rw [if_neg h1]
   have h1:itemFine pre.getLast? x=true:=by simpa using h1
   by_cases h2:(isTag x&&!fits pre x)=true
   ·simp [h2]
   ·rw [if_neg h2]
    have h2:(isTag x&&!fits pre x)=false:=by simpa using h2
    simp [h1,h2]
 | cons y f ih =>
  intro pre x
  simp only [List.cons_append,itemsErr]
  by_cases h1:itemFine pre.getLast? y=false
  ·simp [h1]
  ·rw [if_neg h1,if_neg h1]
   by_cases h2:(isTag y&&!fits pre y)=true
   ·simp [h2]
   ·rw [if_neg h2,if_neg h2,ih]
    simp
theorem itemsErr_fine:∀ (f pre:List It),itemsErr pre f=0→∀ y∈f,itemFine none y=true:=by
 intro f
 induction f with
 | nil=>simp
 | cons x f ih =>
  intro pre h y hy
  simp only [itemsErr] at h
  split at h
  ·simp at h
  ·rename_i h1
   split at h
   ·simp at h
   ·rcases List.mem_cons.1 hy with rfl | hy
    ·have h1:itemFine pre.getLast? y=true:=by simpa using h1
     by_cases k1:y.kind=1
     ·simp only [itemFine,k1,if_true,Bool.and_eq_true] at h1 ⊢
      exact ⟨h1.1,trivial⟩
     ·rw [← itemFine_any (p:=pre.getLast?) k1];exact h1
    ·exact ih _ h y hy
theorem clash_fits {f:List It} {t:List UInt8} {x:It} (hf:itemsErr [] f=0) (hx:itemFine none x=true):(tagged x&&clash (rdOf f t) x)=(isTag x&&!fits (closed f t) x):=by
 rw [isTag_tagged hx]
 by_cases hxt:tagged x=true
 ·rw [hxt,Bool.true_and,Bool.true_and]
  have hxi:isTag x=true:=by rw [isTag_tagged hx];exact hxt
  have hfc:fits (closed f t) x=fits f x:=by
   simp only [closed]
   split
   ·rfl
   ·simp [fits,fitsBad,isTag]
  rw [hfc]
  simp only [clash,rdOf]
  have key:∀ f:List It,itemsErr [] f=0→(match getA x.id (tagMap f) with | some b=>x.kind != 3||b.kind != 2||tagName b.text != x.text | none=>false)=!fits f x:=by
   intro f
   induction f using rev_ind with
   | h0=>intro _;simp [tagMap,getA_nil,fits]
   | h1 f y ih =>
    intro h
    rw [itemsErr_snoc] at h
    obtain ⟨h1,h2,h3⟩:=h
    have ih:=ih h1
    simp only [List.nil_append] at h2 h3
    have hy:itemFine none y=true:=by
     by_cases k1:y.kind=1
     ·simp only [itemFine,k1,if_true,Bool.and_eq_true] at h2 ⊢
      exact ⟨h2.1,trivial⟩
     ·rw [← itemFine_any (p:=f.getLast?) k1];exact h2
    have e:fits (f++[y]) x=(fits f x&&!fitsBad x y):=by simp [fits]
    rw [tagMap_snoc,e]
    simp only [tagPut]
    by_cases hyt:tagged y=true
    ·rw [if_pos hyt,getA_upd]
     have hyi:isTag y=true:=by rw [isTag_tagged hy];exact hyt
     by_cases hi:x.id=y.id
     ·rw [if_pos hi]
      rw [hyi,Bool.true_and,Bool.not_eq_false'] at h3
      have eb:fitsBad x y=(x.kind != 3||y.kind != 2||!(tagName y.text==x.text)):=by simp [fitsBad,hyi,hi]
      rw [eb]
      by_cases hb:(x.kind != 3||y.kind != 2||!(tagName y.text==x.text))=true
      ·simp only [bne] at hb ⊢
       rw [hb];simp
      ·have hb:(x.kind != 3||y.kind != 2||!(tagName y.text==x.text))=false:=by simpa using hb
       have hall:fits f x=true:=by
        simp only [fits,List.all_eq_true,Bool.not_eq_true'] at h3 ⊢
        intro z hz
        have hz3:=h3 z hz
        simp only [Bool.or_eq_false_iff,bne_eq_false_iff_eq] at hb
        simp only [fitsBad] at hz3 ⊢
        have:(y.kind != 3)=true:=by rw [hb.1.2];decide
        rw [this,Bool.true_or,Bool.true_or,Bool.and_true] at hz3
        rw [hi,hz3,Bool.false_and]
       rw [hall]
       simp only [bne] at hb ⊢
       rw [hb];simp
     ·rw [if_neg hi,ih]
      have eb:fitsBad x y=false:=by
       have:(y.id != x.id)=true:=by simpa using fun e=>hi e.symm
       simp [fitsBad,this]
      rw [eb];simp
    ·rw [if_neg hyt,ih]
     have hyi:isTag y=false:=by rw [isTag_tagged hy];simpa using hyt
     have eb:fitsBad x y=false:=by simp [fitsBad,hyi]
     rw [eb];simp
  exact key f hf
 ·have h0:tagged x=false:=by simpa using hxt
  simp [h0]
theorem lengthFrom_total:∀ (l:List It) (a:Nat),a+total l<2^63→lengthFrom (a:Int) l=((a+total l:Nat):Int):=by
 intro l
 induction l with
 | nil=>intro a _;simp [lengthFrom,total]
 | cons x l ih =>
  intro a h
  have ht:total (x::l)=wid x+total l:=by simp [total]
  rw [ht] at h ⊢
  have hw:width x=(wid x:Int):=by simp only [width,wid];split<;>rfl
  have:lengthFrom (a:Int) (x::l)=lengthFrom ((a+wid x:Nat):Int) l:=by
   simp only [lengthFrom,List.foldl_cons,hw]
   rw [IntWalk.i64_in _ (by omega)]
   rfl
  rw [this,ih (a+wid x) (by omega)]
  congr 1;omega
theorem wid_le (x:It):wid x≤x.text.length+1:=by simp only [wid];split<;>omega
theorem total_le (f:List It):total f≤textLen f+f.length:=by
 induction f with
 | nil=>simp [total,textLen]
 | cons x f ih =>
  have ht:total (x::f)=wid x+total f:=by simp [total]
  have:=wid_le x
  simp only [textLen,List.length_cons,ht];omega
theorem validItems_iff {f:List It} (h:total f<2^63):validItems f=0↔f.length≤512∧total f≤1024∧itemsErr [] f=0:=by
 have e:=lengthFrom_total f 0 (by omega)
 simp only [Nat.zero_add,Int.natCast_zero] at e
 simp only [validItems]
 rw [show lengthFrom 0 f=(total f:Int) from e]
 split
 ·constructor
  ·intro h;simp at h
  ·rintro ⟨h1,h2,_⟩;omega
 ·constructor
  ·intro h;exact ⟨by omega,by omega,h⟩
  ·intro h;exact h.2.2
theorem itemsErr_append:∀ (a pre b:List It),itemsErr pre (a++b)=0↔itemsErr pre a=0∧itemsErr (pre++a) b=0:=by
 intro a
 induction a with
 | nil=>intro pre b;simp [itemsErr]
 | cons x a ih =>
  intro pre b
  simp only [List.cons_append,itemsErr]
  by_cases h1:itemFine pre.getLast? x=false
  ·simp [h1]
  ·rw [if_neg h1,if_neg h1]
   by_cases h2:(isTag x&&!fits pre x)=true
   ·simp [h2]
   ·rw [if_neg h2,if_neg h2,ih];simp
theorem itemsErr_cons {pre:List It} {x:It} {b:List It}:itemsErr pre (x::b)=0↔itemFine pre.getLast? x=true∧(isTag x&&!fits pre x)=false∧itemsErr (pre++[x]) b=0:=by
 simp only [itemsErr]
 by_cases h1:itemFine pre.getLast? x=false
 ·simp [h1]
 ·rw [if_neg h1]
  have h1:itemFine pre.getLast? x=true:=by simpa using h1
  by_cases h2:(isTag x&&!fits pre x)=true
  ·simp [h2]
  ·rw [if_neg h2]
   have h2:(isTag x&&!fits pre x)=false:=by simpa using h2
   simp [h1,h2]
theorem closed_nil (f:List It):closed f []=f:=by simp [closed]
theorem hexDig_of:∀ p:UInt8,(hexOf p).2=true→hexDig (hexOf p).1.toNat=p:=u8_all (by decide +kernel)
theorem ctl_writ:∀ b:UInt8,(b==13||classOf b==1)=true→writB b=[92,120,hexDig (b.toNat / 16),hexDig (b.toNat % 16)]:=u8_all (by decide +kernel)
theorem hexByte_parts (p q:UInt8):(hexByte p q).toNat / 16=(hexOf p).1.toNat∧(hexByte p q).toNat % 16=(hexOf q).1.toNat:=by
 have h1:=hexOf_lt p
 have h2:=hexOf_lt q
 have:(hexByte p q).toNat=16*(hexOf p).1.toNat+(hexOf q).1.toNat:=by
  simp only [hexByte,UInt8.toNat_ofNat']
  omega
 omega
theorem digit_fin:∀ c:UInt8,digitB c=true→∃ i:Fin 10,c=UInt8.ofNat (48+i.val)∧((c.toNat:Int) - 48)=i.val:=by
 intro c h
 refine ⟨⟨c.toNat - 48,by simp [digitB] at h;omega⟩,?_,?_⟩
 ·simp only [digitB,Bool.and_eq_true,decide_eq_true_eq] at h
  have:48+(c.toNat - 48)=c.toNat:=by omega
  simp [this]
 ·simp only [digitB,Bool.and_eq_true,decide_eq_true_eq] at h
  simp only;omega
theorem d3_inv1:∀ i:Fin 10,i.val≠0→d3 i.val=[UInt8.ofNat (48+i.val)]:=by decide +kernel
theorem d3_inv2:∀ i j:Fin 10,i.val≠0→d3 (10*i.val+j.val)=[UInt8.ofNat (48+i.val),UInt8.ofNat (48+j.val)]:=by decide +kernel
theorem d3_inv3:∀ i j k:Fin 10,i.val≠0→d3 (100*i.val+10*j.val+k.val)=[UInt8.ofNat (48+i.val),UInt8.ofNat (48+j.val),UInt8.ofNat (48+k.val)]:=by decide +kernel
theorem numberOf_inv {a:List UInt8} (h:(numberOf a).2=true):a=Lib.itoa (numberOf a).1∧1≤(numberOf a).1∧(numberOf a).1≤999:=by
 simp only [numberOf] at h ⊢
 by_cases h1:a.length<1∨3<a.length∨a.getD 0 0=48
 ·rw [if_pos h1] at h;simp at h
 ·rw [if_neg h1] at h ⊢
  by_cases h2:a.all digitB=true
  ·rw [if_pos h2]
   match a,h1,h2 with
   | [x],h1,h2 =>
    simp only [List.all_cons,List.all_nil,Bool.and_true] at h2
    obtain ⟨i,hi,hv⟩:=digit_fin x h2
    have hz:i.val≠0:=by
     intro e
     apply h1;right;right
     rw [List.getD_cons_zero,hi,e];rfl
    have e:decFrom 0 [x]=(i.val:Int):=by simp [decFrom];omega
    simp only [e]
    rw [itoa_d3 _ (by omega),d3_inv1 i hz,← hi]
    exact ⟨rfl,by omega,by omega⟩
   | [x,y],h1,h2 =>
    simp only [List.all_cons,List.all_nil,Bool.and_true,Bool.and_eq_true] at h2
    obtain ⟨i,hi,hv⟩:=digit_fin x h2.1
    obtain ⟨j,hj,hw⟩:=digit_fin y h2.2
    have hz:i.val≠0:=by
     intro e
     apply h1;right;right
     rw [List.getD_cons_zero,hi,e];rfl
    have e:decFrom 0 [x,y]=((10*i.val+j.val:Nat):Int):=by simp [decFrom];omega
    simp only [e]
    rw [itoa_d3 _ (by omega),d3_inv2 i j hz,← hi,← hj]
    exact ⟨rfl,by omega,by omega⟩
   | [x,y,z],h1,h2 =>
    simp only [List.all_cons,List.all_nil,Bool.and_true,Bool.and_eq_true] at h2
    obtain ⟨i,hi,hv⟩:=digit_fin x h2.1
    obtain ⟨j,hj,hw⟩:=digit_fin y h2.2.1
    obtain ⟨k,hk,hu⟩:=digit_fin z h2.2.2
    have hz:i.val≠0:=by
     intro e
     apply h1;right;right
     rw [List.getD_cons_zero,hi,e];rfl
    have e:decFrom 0 [x,y,z]=((100*i.val+10*j.val+k.val:Nat):Int):=by simp [decFrom];omega
    simp only [e]
    rw [itoa_d3 _ (by omega),d3_inv3 i j k hz,← hi,← hj,← hk]
    exact ⟨rfl,by omega,by omega⟩
   | [],h1,_=>simp at h1
   | _::_::_::_::_,h1,_=>simp at h1
  ·rw [if_neg h2] at h;simp at h
theorem cutAt_inv {s:List UInt8} {c:UInt8} (h:(cutAt s c).2.2=true):s=(cutAt s c).1++c::(cutAt s c).2.1:=by
 simp only [cutAt] at h ⊢
 by_cases h0:0≤Lib.indexByte s c
 ·rw [if_pos h0]
  have key:∀ s:List UInt8,0≤Lib.indexByte s c→s=s.take (Lib.indexByte s c).toNat++c::s.drop ((Lib.indexByte s c).toNat+1):=by
   intro s
   induction s with
   | nil=>intro h;simp [Lib.indexByte] at h
   | cons a s ih =>
    intro h
    have hl:=indexByte_low c s
    by_cases ha:a=c
    ·subst ha;simp [Lib.indexByte]
    ·have ha2:(a==c)=false:=by simpa using ha
     simp only [Lib.indexByte,ha2,Bool.false_eq_true,if_false] at h ⊢
     by_cases h1:(Lib.indexByte s c == -1)=true
     ·rw [if_pos h1] at h;omega
     ·rw [if_neg h1] at h ⊢
      have h2:Lib.indexByte s c ≠ -1:=by simpa using h1
      have h3:(Lib.indexByte s c+1).toNat=(Lib.indexByte s c).toNat+1:=by omega
      rw [h3]
      simp only [List.take_succ_cons,List.drop_succ_cons,List.cons_append]
      rw [← ih (by omega)]
  exact key s h0
 ·rw [if_neg h0] at h;simp at h
theorem hasSuffix_inv {s:List UInt8} {c:UInt8} (h:hasSuffix s [c]=true):s=s.take (s.length - 1)++[c]:=by
 simp only [hasSuffix,Bool.and_eq_true,decide_eq_true_eq,beq_iff_eq,List.length_cons,List.length_nil,Nat.zero_add] at h
 rw [← h.2,List.take_append_drop]
theorem hasPrefix_inv {s:List UInt8} {c:UInt8} (h:hasPrefix s [c]=true):s=c::s.drop 1:=by
 simp only [hasPrefix,Bool.and_eq_true,decide_eq_true_eq,beq_iff_eq,List.length_cons,List.length_nil,Nat.zero_add] at h
 cases s with
 | nil=>simp at h
 | cons a s=>simp at h;simp [h]
theorem tagOf_inv {t:List UInt8} (h:(tagOf t).2=true):(tagOf t).1.kind≠1∧itemFine none (tagOf t).1=true∧itemText (tagOf t).1=60::(t++[62]):=by
 unfold tagOf at h ⊢
 dsimp only at h ⊢
 cases hp:hasPrefix t [47] with
 | true =>
  simp only [hp,if_true,Bool.not_true,Bool.false_and,Bool.false_eq_true,if_false] at h ⊢
  by_cases hc:((cutAt (t.drop 1) 58).2.2&&(numberOf (cutAt (t.drop 1) 58).1).2)=true
  ·rw [if_pos hc] at h ⊢
   dsimp only at h ⊢
   simp only [Bool.and_eq_true] at hc
   obtain ⟨n1,n2,n3⟩:=numberOf_inv hc.2
   have e1:=cutAt_inv hc.1
   have e2:=hasPrefix_inv hp
   refine ⟨by decide,?_,?_⟩
   ·simp only [itemFine]
    rw [if_neg (by decide),if_neg (by decide),if_neg (by decide),if_pos (by decide)]
    simp only [h,n2,n3,decide_true,Bool.and_true]
   ·simp only [itemText]
    rw [if_neg (by decide),if_neg (by decide),if_pos (by decide),← n1]
    conv=>rhs;rw [e2,e1]
    simp
  ·rw [if_neg hc] at h;simp at h
 | false =>
  simp only [hp,Bool.false_eq_true,if_false,Bool.not_false,Bool.true_and] at h ⊢
  cases hs:hasSuffix (cutAt t 58).2.1 [47] with
  | true =>
   simp only [hs,if_true] at h ⊢
   by_cases hc:((cutAt t 58).2.2&&(numberOf (cutAt t 58).1).2)=true
   ·rw [if_pos hc] at h ⊢
    dsimp only at h ⊢
    simp only [Bool.and_eq_true] at hc
    obtain ⟨n1,n2,n3⟩:=numberOf_inv hc.2
    have e1:=cutAt_inv hc.1
    have e2:=hasSuffix_inv hs
    have h:isContent ((cutAt t 58).2.1.take ((cutAt t 58).2.1.length - 1))=true:=by simpa using h
    refine ⟨by decide,?_,?_⟩
    ·simp only [itemFine]
     rw [if_neg (by decide),if_neg (by decide),if_pos (.inr (by decide))]
     simp only [h,n2,n3,decide_true,Bool.and_true]
    ·simp only [itemText]
     rw [if_neg (by decide),if_neg (by decide),if_neg (by decide),if_pos (by decide),← n1]
     conv=>rhs;rw [e1]
     conv=>rhs;rw [e2]
     simp
   ·rw [if_neg hc] at h;simp at h
  | false =>
   simp only [hs,Bool.false_eq_true,if_false] at h ⊢
   by_cases hc:((cutAt t 58).2.2&&(numberOf (cutAt t 58).1).2)=true
   ·rw [if_pos hc] at h ⊢
    dsimp only at h ⊢
    simp only [Bool.and_eq_true] at hc
    obtain ⟨n1,n2,n3⟩:=numberOf_inv hc.2
    have e1:=cutAt_inv hc.1
    have h:isContent (cutAt t 58).2.1=true:=by simpa using h
    refine ⟨by decide,?_,?_⟩
    ·simp only [itemFine]
     rw [if_neg (by decide),if_neg (by decide),if_pos (.inl (by decide))]
     simp only [h,n2,n3,decide_true,Bool.and_true]
    ·simp only [itemText]
     rw [if_neg (by decide),if_pos (by decide),← n1]
     conv=>rhs;rw [e1]
     simp
   ·rw [if_neg hc] at h;simp at h
theorem elem_inv {s:List UInt8} (hs:s≠[]) (h:(elementOf s).2.2=true) :
  ((∃ c,(elementOf s).1=⟨1,[c],0⟩∧s=writB c++s.drop (elementOf s).2.1.toNat) ∨
   ((elementOf s).1.kind≠1∧itemFine none (elementOf s).1=true∧s=itemText (elementOf s).1++s.drop (elementOf s).2.1.toNat)):=by
 simp only [elementOf] at h ⊢
 by_cases c92:s.getD 0 0=92
 ·left
  rw [if_pos c92] at h ⊢
  simp only at h ⊢
  refine ⟨_,rfl,?_⟩
  match s,hs,c92,h with
  | [a],_,c92,h=>simp [escapeOf] at h
  | a::d::r,_,c92,h =>
   simp only [List.getD_cons_zero] at c92
   subst c92
   by_cases d1:d=92∨d=60∨d=123
   ·have e:escapeOf (92::d::r)=(d,2,true):=by simp only [esc_two,if_pos d1]
    rw [e]
    rcases d1 with rfl | rfl | rfl<;>simp [show writB 92=[92,92] by decide,show writB 60=[92,60] by decide,show writB 123=[92,123] by decide]
   ·by_cases d2:d=110
    ·subst d2
     have e:escapeOf (92::110::r)=(10,2,true):=by simp only [esc_two];rfl
     rw [e];simp [show writB 10=[92,110] by decide]
    ·by_cases d3:d=116
     ·subst d3
      have e:escapeOf (92::116::r)=(9,2,true):=by simp only [esc_two];rfl
      rw [e];simp [show writB 9=[92,116] by decide]
     ·by_cases d4:d=120
      ·subst d4
       match r,h with
       | [],h=>simp [escapeOf] at h
       | [_],h=>simp [escapeOf] at h
       | p::q::r,h =>
        have e:escapeOf (92::120::p::q::r)=(hexByte p q,4,(hexOf p).2&&(hexOf q).2&&(hexByte p q==13||classOf (hexByte p q)==1)):=by
         simp only [esc_two]
         rw [if_neg (by decide),if_neg (by decide),if_neg (by decide),if_pos (by decide),if_neg (by simp)]
         simp only [List.getD_cons_zero,List.getD_cons_succ]
        rw [e] at h ⊢
        simp only [Bool.and_eq_true] at h
        have hp:=hexByte_parts p q
        rw [ctl_writ _ h.2,hp.1,hp.2,hexDig_of p h.1.1,hexDig_of q h.1.2]
        simp
      ·have e:escapeOf (92::d::r)=(0,0,false):=by simp only [esc_two,d1,d2,d3,d4,if_false]
       rw [e] at h;simp at h
  | [],hs,_,_=>exact absurd rfl hs
 ·rw [if_neg c92] at h ⊢
  by_cases c60:s.getD 0 0=60
  ·right
   rw [if_pos c60] at h ⊢
   by_cases hi:Lib.indexByte s 62<0
   ·rw [if_pos hi] at h;simp at h
   ·rw [if_neg hi] at h ⊢
    simp only at h ⊢
    have hc:(cutAt s 62).2.2=true:=by simp only [cutAt];rw [if_pos (by omega)]
    have e1:=cutAt_inv hc
    have ec1:(cutAt s 62).1=s.take (Lib.indexByte s 62).toNat:=by simp only [cutAt];rw [if_pos (by omega)]
    have ec2:(cutAt s 62).2.1=s.drop ((Lib.indexByte s 62).toNat+1):=by simp only [cutAt];rw [if_pos (by omega)]
    obtain ⟨t1,t2,t3⟩:=tagOf_inv h
    refine ⟨t1,t2,?_⟩
    have hp:=indexByte_pos s 62 (by rw [c60];decide) hi
    have e2:s.take (Lib.indexByte s 62).toNat=60::(s.take (Lib.indexByte s 62).toNat).drop 1:=by
     cases s with
     | nil=>exact absurd rfl hs
     | cons a s =>
      simp only [List.getD_cons_zero] at c60
      subst c60
      obtain ⟨m,hm⟩:∃ m,(Lib.indexByte (60::s) 62).toNat=m+1:=⟨(Lib.indexByte (60::s) 62).toNat - 1,by omega⟩
      rw [hm];simp
    rw [t3]
    have e3:(Lib.indexByte s 62+1).toNat=(Lib.indexByte s 62).toNat+1:=by omega
    rw [e3]
    conv=>lhs;rw [e1,ec1,ec2,e2]
    simp
  ·rw [if_neg c60] at h ⊢
   by_cases c123:s.getD 0 0=123
   ·right
    rw [if_pos c123] at h ⊢
    by_cases hi:Lib.indexByte s 125<0∨isName ((s.take (Lib.indexByte s 125).toNat).drop 1)=false
    ·rw [if_pos hi] at h;simp at h
    ·rw [if_neg hi] at h ⊢
     simp only [not_or] at hi
     simp only
     have hn:isName ((s.take (Lib.indexByte s 125).toNat).drop 1)=true:=by simpa using hi.2
     have hc:(cutAt s 125).2.2=true:=by simp only [cutAt];rw [if_pos (by omega)]
     have e1:=cutAt_inv hc
     have ec1:(cutAt s 125).1=s.take (Lib.indexByte s 125).toNat:=by simp only [cutAt];rw [if_pos (by omega)]
     have ec2:(cutAt s 125).2.1=s.drop ((Lib.indexByte s 125).toNat+1):=by simp only [cutAt];rw [if_pos (by omega)]
     have hp:=indexByte_pos s 125 (by rw [c123];decide) hi.1
     refine ⟨by decide,?_,?_⟩
     ·simp only [itemFine]
      rw [if_neg (by decide),if_pos (by decide),hn];rfl
     ·have e2:s.take (Lib.indexByte s 125).toNat=123::(s.take (Lib.indexByte s 125).toNat).drop 1:=by
       cases s with
       | nil=>exact absurd rfl hs
       | cons a s =>
        simp only [List.getD_cons_zero] at c123
        subst c123
        obtain ⟨m,hm⟩:∃ m,(Lib.indexByte (123::s) 125).toNat=m+1:=⟨(Lib.indexByte (123::s) 125).toNat - 1,by omega⟩
        rw [hm];simp
      simp only [itemText]
      rw [if_neg (by decide),if_neg (by decide),if_neg (by decide),if_neg (by decide),if_pos (by decide)]
      have e3:(Lib.indexByte s 125+1).toNat=(Lib.indexByte s 125).toNat+1:=by omega
      rw [e3]
      conv=>lhs;rw [e1,ec1,ec2,e2]
      simp
   ·left
    rw [if_neg c123] at h ⊢
    simp only at h ⊢
    cases s with
    | nil=>exact absurd rfl hs
    | cons a s =>
     simp only [List.getD_cons_zero] at h
     refine ⟨a,by simp,?_⟩
     simp [writB,h]
theorem vAt_range (v:List Int) (o:Int):0≤vAt v o:=by
 simp only [vAt]
 (repeat' split)<;>omega
theorem vTrim_fixed {v:List Int} (h:vTrim v=v):v.length≤8∧∀ n∈v,0≤n:=by
 have h0:vTrim v=(joinList v [] 8).take (joinLast v [] 8):=rfl
 constructor
 ·rw [← h,h0];simp [joinList_length];omega
 ·intro n hn
  rw [← h,h0] at hn
  have hn:=List.mem_of_mem_take hn
  simp only [joinList,List.mem_map] at hn
  obtain ⟨i,_,rfl⟩:=hn
  have h1:=vAt_range v i
  have h2:=vAt_range [] i
  split<;>omega
structure opFacts (o:Opr):Prop where
 time:1≤o.stamp.time∧o.stamp.time≤1073741824
 office:0≤o.stamp.office∧o.stamp.office<8
 number:1≤o.stamp.number∧o.stamp.number≤128
 kind:o.kind=1∨o.kind=2
 seenLen:o.seen.length≤8
 seen:∀ n∈o.seen,0≤n∧n≤128
 bare:o.kind=2→o.entry=⟨o.entry.source,[],o.entry.previous,o.entry.next,[],[],0,0⟩
 looked:entryErr (looked o)=0
theorem op_facts {o:Opr} (h:opErr o=0):opFacts o:=by
 simp only [opErr] at h
 split at h
 ·simp at h
 ·rename_i h1
  split at h
  ·simp at h
  ·rename_i h2
   split at h
   ·simp at h
   ·rename_i h3
    split at h
    ·simp at h
    ·split at h
     ·simp at h
     ·rename_i h5
      simp only [Bool.not_eq_false,stampOk,decide_eq_true_eq] at h1
      have hs:vTrim o.seen=o.seen:=by
       by_cases hs:vTrim o.seen=o.seen
       ·exact hs
       ·exact absurd (.inr hs) h2
      obtain ⟨s1,s2⟩:=vTrim_fixed hs
      simp only [Bool.not_eq_true,List.any_eq_false,decide_eq_true_eq] at h3
      refine ⟨⟨by omega,by omega⟩,⟨by omega,by omega⟩,⟨by omega,by omega⟩,by omega,s1,fun n hn=>⟨s2 n hn,by have:=h3 n hn;omega⟩,fun hk=>?_,h⟩
      have hb:bareEn o.entry=true:=by
       cases hb:bareEn o.entry with
       | true=>rfl
       | false=>exact absurd ⟨hk,hb⟩ h5
      simp only [bareEn,Bool.and_eq_true,beq_iff_eq,List.length_eq_zero_iff] at hb
      obtain ⟨b1,b2,b3,b4,b5⟩:=hb
      clear h
      generalize o.entry=e at b1 b2 b3 b4 b5 ⊢
      obtain ⟨a1,a2,a3,a4,a5,a6,a7,a8⟩:=e
      simp only at b1 b2 b3 b4 b5
      subst b1;subst b2;subst b3;subst b4;subst b5
      rfl
structure enFacts (e:En):Prop where
 source:validItems e.source=0
 target:validItems e.target=0
 nonempty:e.source≠[]
 author:isName e.author=true∨e.author=[]
 project:isName e.project=true∨e.project=[]
 created:0≤e.created∧e.created≤1073741824
 origin:1≤e.origin∧e.origin≤3
theorem en_facts {e:En} (h:entryErr e=0):enFacts e:=by
 simp only [entryErr] at h
 split at h
 ·rename_i h1;exact absurd h h1
 ·rename_i h1
  split at h
  ·rename_i h2;exact absurd h h2
  ·rename_i h2
   split at h
   ·simp at h
   ·rename_i h3
    split at h
    ·rename_i h4;exact absurd h h4
    ·split at h
     ·rename_i h5;exact absurd h h5
     ·split at h
      ·simp at h
      ·rename_i h6
       split at h
       ·simp at h
       ·rename_i h7
        simp only [canonOk,Bool.not_eq_false,Bool.and_eq_true,Bool.not_eq_true',beq_eq_false_iff_ne,ne_eq,List.length_eq_zero_iff] at h3
        simp only [named,Bool.not_eq_false,Bool.and_eq_true,Bool.or_eq_true,beq_iff_eq] at h6
        exact ⟨by simpa using h1,by simpa using h2,h3.1.1,h6.1.symm,h6.2.symm,⟨by omega,by omega⟩,⟨by omega,by omega⟩⟩
def checkErr (before:List It) (x:It):Int:=if itemFine before.getLast? x=false then 1 else if (isTag x&&!fits before x)=true then 7 else 0
theorem itemsErr_check:∀ (rest pre:List It) (x:It),itemsErr pre (x::rest)=if checkErr pre x≠0 then checkErr pre x else itemsErr (pre++[x]) rest:=by
 intro rest pre x
 simp only [itemsErr,checkErr]
 split
 ·simp
 ·split<;>simp
def normStep (out:List It) (x:It):List It :=
 if x.kind≠1 then out++[x] else if x.text=[] then out else
 match out.getLast? with
 | some y=>if y.kind=1 then out.dropLast++[⟨1,y.text++x.text,0⟩] else out++[⟨1,x.text,0⟩]
 | none=>out++[⟨1,x.text,0⟩]
def normFold (f:List It):List It:=f.foldl normStep []
def endsText (out:List It):Bool:=match out.getLast? with
 | some y=>y.kind==1
 | none=>false
theorem normN_fuel:∀ (n m:Nat) (f:List It),f.length≤n→f.length≤m→normN n f=normN m f:=by
 intro n
 induction n with
 | zero =>
  intro m f h _
  have:f=[]:=List.eq_nil_of_length_eq_zero (by omega)
  subst this
  cases m<;>rfl
 | succ n ih =>
  intro m f h1 h2
  cases f with
  | nil=>cases m<;>rfl
  | cons x r =>
   cases m with
   | zero=>simp at h2
   | succ m =>
    simp only [List.length_cons] at h1 h2
    by_cases hk:x.kind=1
    ·have hs:=runText_short (x:=x) (r:=r) hk
     have hi:=ih m (runText (x::r)).2 (by omega) (by omega)
     simp only [normN,hk,ne_eq,not_true,if_false]
     split
     ·exact hi
     ·rw [hi]
    ·simp only [normN,if_pos hk]
     rw [ih m r (by omega) (by omega)]
theorem normalize_cons {x:It} {r:List It} (hk:x.kind≠1):normalize (x::r)=x::normalize r:=by
 simp only [normalize,List.length_cons,normN,if_pos hk]
theorem normalize_text {x:It} {r:List It} (hk:x.kind=1):normalize (x::r)=if (runText (x::r)).1.length=0 then normalize (runText (x::r)).2 else ⟨1,(runText (x::r)).1,0⟩::normalize (runText (x::r)).2:=by
 have hs:=runText_short (x:=x) (r:=r) hk
 have e:normN r.length (runText (x::r)).2=normN (runText (x::r)).2.length (runText (x::r)).2:=normN_fuel _ _ _ hs (Nat.le_refl _)
 simp only [normalize,List.length_cons,normN,hk,ne_eq,not_true,if_false,e]
def withText (t:List UInt8) (f:List It):List It:=if t=[] then normalize f else
 ⟨1,t++(runText f).1,0⟩::normalize (runText f).2
theorem fold_from:∀ (f out:List It) (t:List UInt8),(endsText out=false)→f.foldl normStep (closed out t)=out++withText t f:=by
 intro f
 induction f with
 | nil =>
  intro out t ho
  simp only [List.foldl_nil,withText,closed]
  split
  ·simp [normalize,normN]
  ·simp [runText,normalize,normN]
 | cons x f ih =>
  intro out t ho
  simp only [List.foldl_cons]
  by_cases hk:x.kind=1
  ·by_cases hx:x.text=[]
   ·have e1:normStep (closed out t) x=closed out t:=by simp [normStep,hk,hx]
    rw [e1,ih out t ho]
    congr 1
    simp only [withText]
    have hr:runText (x::f)=((runText f).1,(runText f).2):=by simp [runText,hk,hx]
    by_cases ht:t=[]
    ·rw [if_pos ht,if_pos ht,normalize_text hk,hr]
     cases f with
     | nil=>simp [runText,normalize,normN]
     | cons y f =>
      by_cases hy:y.kind=1
      ·rw [normalize_text hy]
      ·simp [runText,hy]
    ·rw [if_neg ht,if_neg ht,hr]
   ·have e1:normStep (closed out t) x=closed out (t++x.text):=by
     simp only [normStep,hk,ne_eq,not_true,if_false,if_neg hx]
     have hne:t++x.text≠[]:=by simp [hx]
     by_cases ht:t=[]
     ·subst ht
      rw [closed_nil]
      simp only [closed,List.nil_append,if_neg hx]
      simp only [endsText] at ho
      cases hg:out.getLast? with
      | none=>rfl
      | some y =>
       rw [hg] at ho
       have hy:¬ y.kind=1:=by simpa using ho
       simp only [if_neg hy]
     ·simp [closed,ht]
    rw [e1,ih out _ ho]
    congr 1
    have hne:t++x.text≠[]:=by simp [hx]
    simp only [withText,if_neg hne]
    have hr:runText (x::f)=(x.text++(runText f).1,(runText f).2):=by simp [runText,hk]
    by_cases ht:t=[]
    ·subst ht
     rw [if_pos rfl,normalize_text hk,hr]
     have:(x.text++(runText f).1).length≠0:=by
      have:=List.length_pos_iff.2 hx
      rw [List.length_append];omega
     rw [if_neg this]
     simp
    ·rw [if_neg ht,hr];simp
  ·have e1:normStep (closed out t) x=closed (closed out t++[x]) []:=by
    rw [closed_nil];simp [normStep,hk]
   have he:endsText (closed out t++[x])=false:=by simp [endsText,hk]
   rw [e1,ih _ [] he]
   have hr:runText (x::f)=([],x::f):=by simp [runText,hk]
   simp only [withText,if_true,hr,List.append_nil,normalize_cons hk]
   by_cases ht:t=[]
   ·simp [closed,ht]
   ·simp [closed,ht]
theorem normFold_eq (f:List It):normFold f=normalize f:=by
 have:=fold_from f [] [] rfl
 rw [closed_nil] at this
 simpa [withText,normFold] using this
theorem textLen_append (a b:List It):textLen (a++b)=textLen a+textLen b:=by
 induction a with
 | nil=>simp [textLen]
 | cons x a ih=>simp only [List.cons_append,textLen,ih];omega
theorem normStep_bound (out:List It) (x:It):textLen (normStep out x)≤textLen out+x.text.length∧(normStep out x).length≤out.length+1:=by
 simp only [normStep]
 split
 ·simp [textLen_append,textLen]
 ·split
  ·omega
  ·split
   ·rename_i y hy
    have hne:out≠[]:=by rintro rfl;simp at hy
    have e:out=out.dropLast++[y]:=by
     have:=List.dropLast_concat_getLast hne
     rw [List.getLast?_eq_some_getLast hne] at hy
     simp only [Option.some.injEq] at hy
     rw [hy] at this
     exact this.symm
    split
    ·have h1:textLen out=textLen out.dropLast+y.text.length:=by
      conv=>lhs;rw [e]
      simp [textLen_append,textLen]
     simp [textLen_append,textLen]
     omega
    ·simp [textLen_append,textLen]
   ·simp [textLen_append,textLen]
def rread (s:List UInt8):It×Int:=if (elementOf s).2.2=true then ((elementOf s).1,(elementOf s).2.1) else (noIt,0)
theorem rread_bad {s:List UInt8} (h:(elementOf s).2.2=false):rread s=(noIt,0):=by simp [rread,h]
def rbody (kind:Int) (t:List UInt8):It×Bool :=
 let k:=min 4 (t.takeWhile digitB).length
 if k=0∨t.length≤k∨t.getD 0 0=48∨999<decFrom 0 (t.take k)∨t.getD k 0≠58 then (noIt,false) else
 if (kind=3∧isName (t.drop (k+1))=false)∨(kind≠3∧isContent (t.drop (k+1))=false) then (noIt,false) else (⟨kind,t.drop (k+1),decFrom 0 (t.take k)⟩,true)
def rtag (t:List UInt8):It×Bool :=
 if hasPrefix t [47]=true then rbody 3 (t.drop 1) else if hasSuffix t [47]=true then rbody 4 (t.take (t.length - 1)) else rbody 2 t
def pbody (kind:Int) (a b:List UInt8) (cut:Bool):It×Bool :=
 if (cut&&(numberOf a).2)=true then (if (if kind=3 then isName b else isContent b)=true then (⟨kind,b,(numberOf a).1⟩,true) else (noIt,false)) else (noIt,false)
theorem takeWhile_pre {a b:List UInt8} (h:∀ c∈a,digitB c=true):(a++58::b).takeWhile digitB=a:=by
 induction a with
 | nil=>simp [show digitB 58=false by decide]
 | cons x a ih =>
  have hx:digitB x=true:=h x (by simp)
  simp [hx,ih fun c hc=>h c (by simp [hc])]
theorem takeWhile_take {n:Nat} {t:List UInt8} (h:n≤(t.takeWhile digitB).length):∀ c∈t.take n,digitB c=true:=by
 intro c hc
 have e:t.take n=(t.takeWhile digitB).take n:=by
  have:=List.takeWhile_append_dropWhile (p:=digitB) (l:=t)
  conv=>lhs;rw [← this]
  rw [List.take_append_of_le_length h]
 rw [e] at hc
 have h2:=List.mem_of_mem_take hc
 exact List.all_eq_true.1 (List.all_takeWhile (p:=digitB) (l:=t)) c h2
theorem dec_four {a b c d:UInt8} {r:List UInt8} (ha:digitB a=true) (h48:a≠48) (hb:digitB b=true) (hc:digitB c=true) (hd:digitB d=true):999<decFrom 0 [a,b,c,d]:=by
 simp only [digitB,Bool.and_eq_true,decide_eq_true_eq] at ha hb hc hd
 have:a.toNat≠48:=fun e=>h48 (UInt8.toNat_inj.1 e)
 simp only [decFrom,List.foldl_cons,List.foldl_nil]
 omega
theorem rbody_eq (kind:Int) (t:List UInt8):rbody kind t=pbody kind (cutAt t 58).1 (cutAt t 58).2.1 (cutAt t 58).2.2:=by
 by_cases hc:((cutAt t 58).2.2&&(numberOf (cutAt t 58).1).2)=true
 ·have hc2:=hc
  simp only [Bool.and_eq_true] at hc2
  obtain ⟨n1,n2,n3⟩:=numberOf_inv hc2.2
  have e1:=cutAt_inv hc2.1
  generalize ha:(cutAt t 58).1=a at *
  generalize hb:(cutAt t 58).2.1=b at *
  have hn:=itoa_num (numberOf a).1 ⟨n2,n3⟩
  rw [← n1] at hn
  have hnum:=hc2.2
  simp only [numberOf] at hnum
  by_cases h1:a.length<1∨3<a.length∨a.getD 0 0=48
  ·rw [if_pos h1] at hnum;simp at hnum
  ·have hall:a.all digitB=true:=List.all_eq_true.2 hn.2.1
   have hv:(numberOf a).1=decFrom 0 a:=by simp only [numberOf,if_neg h1,hall,if_true]
   have hk:min 4 (t.takeWhile digitB).length=a.length:=by rw [e1,takeWhile_pre hn.2.1];omega
   have ht:t.take a.length=a:=by rw [e1];simp
   have hd:t.drop (a.length+1)=b:=by rw [e1];simp
   have hl:¬ t.length≤a.length:=by rw [e1];simp
   have h0:t.getD 0 0=a.getD 0 0:=by
    rw [e1]
    cases a with
    | nil=>simp at h1
    | cons x a=>rfl
   have h58:t.getD a.length 0=58:=by rw [e1];simp [List.getD_eq_getElem?_getD]
   simp only [rbody,pbody,hc,if_true,hk,ht,hd,h0,h58]
   rw [if_neg (by
    simp only [not_or] at h1 ⊢
    exact ⟨by omega,hl,h1.2.2,by rw [← hv];omega,by simp⟩)]
   by_cases hk3:kind=3
   ·simp only [hk3,true_and,if_true,ne_eq,not_true,false_and,or_false,hv]
    by_cases hb:isName b=true<;>simp [hb]
   ·simp only [hk3,false_and,if_false,ne_eq,not_false_eq_true,true_and,false_or,hv]
    by_cases hb:isContent b=true<;>simp [hb]
 ·simp only [pbody,if_neg hc,rbody]
  refine if_pos ?_
  apply Classical.byContradiction
  intro hne
  apply hc
  simp only [not_or,Int.not_lt,Nat.not_le,Decidable.not_not] at hne
  obtain ⟨g1,g2,g3,g4,g5⟩:=hne
  generalize hk:min 4 (t.takeWhile digitB).length=k at *
  have hall:=takeWhile_take (n:=k) (t:=t) (by omega)
  have e1:t=t.take k++58::t.drop (k+1):=by
   conv=>lhs;rw [← List.take_append_drop k t]
   congr 1
   rw [List.drop_eq_getElem_cons g2]
   congr 1
   rw [List.getD_eq_getElem?_getD,List.getElem?_eq_getElem g2] at g5
   simpa using g5
  have hno:(58:UInt8) ∉ t.take k:=fun hm=>absurd (hall _ hm) (by decide)
  have hcut:cutAt t 58=(t.take k,t.drop (k+1),true):=by
   conv=>lhs;rw [e1]
   exact cutAt_at hno
  rw [hcut]
  have hlen:(t.take k).length=k:=by rw [List.length_take];omega
  have hfirst:(t.take k).getD 0 0=t.getD 0 0:=by
   cases t with
   | nil=>simp
   | cons x t =>
    obtain ⟨m,rfl⟩:∃ m,k=m+1:=⟨k - 1,by omega⟩
    rfl
  have hk4:k≤3:=by
   apply Classical.byContradiction
   intro h
   have h4:k=4:=by omega
   subst h4
   match t,g2,hall,g3,g4 with
   | a::b::c::d::r,_,hall,g3,g4 =>
    have:=dec_four (r:=r) (hall a (by simp)) (by simpa using g3) (hall b (by simp)) (hall c (by simp)) (hall d (by simp))
    simp only [List.take_succ_cons,List.take_zero] at g4
    omega
   | [],h,_,_,_=>simp at h
   | [_],h,_,_,_=>simp at h
   | [_,_],h,_,_,_=>simp at h
   | [_,_,_],h,_,_,_=>simp at h
  simp only [Bool.true_and,numberOf]
  rw [if_neg (by rw [hlen,hfirst];simp only [not_or];exact ⟨by omega,by omega,g3⟩),if_pos (List.all_eq_true.2 hall)]
def okOr (p:It×Bool):It×Bool:=if p.2=true then p else (noIt,false)
theorem okOr_body (kind:Int) (a b:List UInt8) (cut:Bool) :
  okOr (if (cut&&(numberOf a).2)=true then (⟨kind,b,(numberOf a).1⟩,if kind=3 then isName b else isContent b) else (⟨0,[],0⟩,false))=pbody kind a b cut:=by
 simp only [pbody]
 by_cases hc:(cut&&(numberOf a).2)=true
 ·rw [if_pos hc,if_pos hc]
  simp only [okOr]
  generalize (if kind=3 then isName b else isContent b)=X
  cases X<;>rfl
 ·rw [if_neg hc,if_neg hc];rfl
theorem hasSuffix_snoc {t:List UInt8} {x c:UInt8}:hasSuffix (t++[x]) [c]=(x==c):=by
 simp [hasSuffix]
theorem hasSuffix_cut {a b:List UInt8}:hasSuffix (a++58::b) [47]=hasSuffix b [47]:=by
 rcases List.eq_nil_or_concat b with hb | ⟨b',x,hb⟩
 ·subst hb
  rw [hasSuffix_snoc];rfl
 ·rw [List.concat_eq_append] at hb
  subst hb
  rw [hasSuffix_snoc,show a++58::(b'++[x])=(a++58::b')++[x] by simp,hasSuffix_snoc]
theorem cutAt_none {s:List UInt8} {c:UInt8} (h:c ∉ s):cutAt s c=(s,[],false):=by
 simp only [cutAt,indexByte_none h];rfl
theorem cutAt_mem {s:List UInt8} {c:UInt8} (h:c∈s):(cutAt s c).2.2=true:=by
 simp only [cutAt];rw [if_pos (indexByte_some h)]
theorem indexByte_first {c:UInt8}:∀ {s:List UInt8},c ∉ s.take (Lib.indexByte s c).toNat
 | []=>by simp
 | a::s=>by
  by_cases ha:a=c
  ·subst ha;simp [Lib.indexByte]
  ·have ha2:(a==c)=false:=by simpa using ha
   have hl:=indexByte_low c s
   simp only [Lib.indexByte,ha2,Bool.false_eq_true,if_false]
   by_cases h1:(Lib.indexByte s c == -1)=true
   ·rw [if_pos h1];simp
   ·rw [if_neg h1]
    have h2:Lib.indexByte s c ≠ -1:=by simpa using h1
    have h3:(Lib.indexByte s c+1).toNat=(Lib.indexByte s c).toNat+1:=by omega
    rw [h3,List.take_succ_cons]
    intro hm
    rcases List.mem_cons.1 hm with hm | hm
    ·exact ha hm.symm
    ·exact indexByte_first hm
theorem cutAt_before {s:List UInt8} {c:UInt8} (h:c∈s):c ∉ (cutAt s c).1:=by
 simp only [cutAt];rw [if_pos (indexByte_some h)]
 exact indexByte_first
theorem rtag_eq (t:List UInt8):rtag t=okOr (tagOf t):=by
 unfold rtag tagOf
 dsimp only
 cases hp:hasPrefix t [47] with
 | true =>
  simp only [if_true,Bool.not_true,Bool.false_and,Bool.false_eq_true,if_false]
  rw [rbody_eq,← okOr_body]
  rfl
 | false =>
  simp only [Bool.false_eq_true,if_false,Bool.not_false,Bool.true_and]
  by_cases hm:(58:UInt8)∈t
  ·have hc:=cutAt_mem hm
   have hb:=cutAt_before hm
   have e1:=cutAt_inv hc
   generalize ha:(cutAt t 58).1=a at *
   generalize hbb:(cutAt t 58).2.1=b at *
   have hs:hasSuffix t [47]=hasSuffix b [47]:=by conv=>lhs;rw [e1,hasSuffix_cut]
   rw [hs]
   cases hsb:hasSuffix b [47] with
   | true =>
    simp only [if_true]
    have hbn:b≠[]:=by rintro rfl;simp [hasSuffix] at hsb
    have et:t.take (t.length - 1)=a++58::b.take (b.length - 1):=by
     have hpos:=List.length_pos_iff.2 hbn
     rw [e1]
     simp only [List.length_append,List.length_cons]
     rw [List.take_append,List.take_of_length_le (by omega)]
     have:a.length+(b.length+1) - 1 - a.length=(b.length - 1)+1:=by omega
     rw [this,List.take_succ_cons]
    rw [rbody_eq,et,cutAt_at hb,← okOr_body,hc]
   | false =>
    simp only [Bool.false_eq_true,if_false]
    rw [rbody_eq,ha,hbb,hc,← okOr_body]
  ·have hm2:(58:UInt8) ∉ t.take (t.length - 1):=fun h=>hm (List.mem_of_mem_take h)
   have e0:∀ k,rbody k t=(noIt,false):=fun k=>by rw [rbody_eq,cutAt_none hm];rfl
   have e2:rbody 4 (t.take (t.length - 1))=(noIt,false):=by rw [rbody_eq,cutAt_none hm2];rfl
   rw [cutAt_none hm,e0,e2]
   simp [okOr]
theorem rread_tag {s:List UInt8} (h0:s.getD 0 0=60):rread s=if Lib.indexByte s 62<0 then (noIt,0) else
  (if (rtag ((s.take (Lib.indexByte s 62).toNat).drop 1)).2=true then ((rtag ((s.take (Lib.indexByte s 62).toNat).drop 1)).1,Lib.indexByte s 62+1) else (noIt,0)):=by
 have e:elementOf s=if Lib.indexByte s 62<0 then (noIt,0,false) else ((tagOf ((s.take (Lib.indexByte s 62).toNat).drop 1)).1,Lib.indexByte s 62+1,(tagOf ((s.take (Lib.indexByte s 62).toNat).drop 1)).2):=by
  simp only [elementOf,h0]
  rw [if_neg (by decide),if_pos trivial]
 rw [rread,e]
 by_cases hi:Lib.indexByte s 62<0
 ·simp [hi]
 ·rw [if_neg hi,if_neg hi,rtag_eq,okOr]
  generalize tagOf ((s.take (Lib.indexByte s 62).toNat).drop 1)=p
  obtain ⟨x,b⟩:=p
  cases b<;>rfl
theorem rread_char {s:List UInt8} {c:UInt8} (h:hasPrefix s (writB c)=true):rread s=(⟨1,[c],0⟩,((writB c).length:Int)):=by
 have e:s=writB c++s.drop (writB c).length:=by
  simp only [hasPrefix,Bool.and_eq_true,decide_eq_true_eq,beq_iff_eq] at h
  conv=>lhs;rw [← List.take_append_drop (writB c).length s,h.2]
 rw [rread,e,elem_char]
 simp
theorem itemText_angle {x:It} (hk:x.kind≠1) (h:itemFine none x=true):∃ r,itemText x=60::r∨(itemText x=123::(x.text++[125])∧isName x.text=true):=by
 simp only [itemFine,if_neg hk] at h
 simp only [itemText,if_neg hk]
 by_cases k5:x.kind=5
 ·rw [if_pos k5,Bool.and_eq_true] at h
  refine ⟨[],.inr ⟨?_,h.1⟩⟩
  simp [k5]
 ·rw [if_neg k5] at h
  by_cases k2:x.kind=2
  ·exact ⟨_,.inl (by rw [if_pos k2])⟩
  ·by_cases k4:x.kind=4
   ·exact ⟨_,.inl (by rw [if_neg k2,if_neg (by omega),if_pos k4])⟩
   ·rw [if_neg (by omega)] at h
    by_cases k3:x.kind=3
    ·exact ⟨_,.inl (by rw [if_neg k2,if_pos k3])⟩
    ·rw [if_neg k3] at h;simp at h
theorem rread_none {s:List UInt8} (hs:s≠[]) (h60:s.getD 0 0≠60) (h123:s.getD 0 0≠123) (h:∀ c,hasPrefix s (writB c)=false):rread s=(noIt,0):=by
 refine rread_bad ?_
 apply Classical.byContradiction
 intro ht
 rcases elem_inv hs (by simpa using ht) with ⟨c,_,he⟩ | ⟨hk,hf,he⟩
 ·have:=h c
  rw [he] at this
  simp [hasPrefix] at this
 ·obtain ⟨r,h1 | ⟨h1,_⟩⟩:=itemText_angle hk hf
  ·rw [h1] at he;rw [he] at h60;simp at h60
  ·rw [h1] at he;rw [he] at h123;simp at h123
theorem writB_slot:∀ c:UInt8,(writB c).getD 0 0≠123∧writB c≠[]:=u8_all (by decide +kernel)
theorem rread_slot {s:List UInt8} {k:Nat} (h123:s.getD 0 0=123) (hk1:1≤k) (hk:k<s.length) (hb:s.getD k 0=125) (hn:isName ((s.take k).drop 1)=true) :
  rread s=(⟨5,(s.take k).drop 1,0⟩,(k:Int)+1):=by
 have e:s=123::((s.take k).drop 1++125::s.drop (k+1)):=by
  cases s with
  | nil=>simp at hk
  | cons a s =>
   simp only [List.getD_cons_zero] at h123
   subst h123
   obtain ⟨m,rfl⟩:∃ m,k=m+1:=⟨k - 1,by omega⟩
   simp only [List.length_cons] at hk
   have hm:m<s.length:=by omega
   simp only [List.take_succ_cons,List.drop_succ_cons,List.drop_zero]
   congr 1
   conv=>lhs;rw [← List.take_append_drop m s]
   congr 1
   rw [List.drop_eq_getElem_cons hm]
   congr 1
   rw [List.getD_cons_succ,List.getD_eq_getElem?_getD,List.getElem?_eq_getElem hm] at hb
   simpa using hb
 have hl:((s.take k).drop 1).length=k - 1:=by rw [List.length_drop,List.length_take];omega
 have:=elem_slot ((s.take k).drop 1) (s.drop (k+1)) hn
 rw [← e] at this
 rw [rread,this]
 simp only [if_true,hl]
 congr 1
 omega
theorem rread_noslot {s:List UInt8} (h123:s.getD 0 0=123) (h:∀ k,1≤k→k<s.length→k≤25→¬ (s.getD k 0=125∧isName ((s.take k).drop 1)=true)):rread s=(noIt,0):=by
 have hs:s≠[]:=by rintro rfl;simp at h123
 refine rread_bad ?_
 apply Classical.byContradiction
 intro ht
 rcases elem_inv hs (by simpa using ht) with ⟨c,_,he⟩ | ⟨hk,hf,he⟩
 ·have h1:=writB_slot c
  rw [he] at h123
  cases hw:writB c with
  | nil=>exact h1.2 hw
  | cons a w =>
   rw [hw] at h123 h1
   exact h1.1 (by simpa using h123)
 ·obtain ⟨r,h1 | ⟨h1,hn⟩⟩:=itemText_angle hk hf
  ·rw [h1] at he;rw [he] at h123;simp at h123
  ·rw [h1] at he
   generalize (elementOf s).1.text=t at *
   have hl:t.length≤24:=by
    cases t with
    | nil=>simp
    | cons c t =>
     simp only [isName,Bool.and_eq_true,decide_eq_true_eq] at hn
     exact hn.1.1
   generalize s.drop (elementOf s).2.1.toNat=d at he
   have e:s=(123::t)++125::d:=by rw [he];simp
   refine h (t.length+1) (by omega) (by rw [e];simp) (by omega) ⟨?_,?_⟩
   ·rw [e]
    rw [show t.length+1=(123::t).length by simp,s_at]
   ·rw [e]
    rw [show t.length+1=(123::t).length by simp]
    simpa using hn
def rparseN:Nat→List It→Int→List UInt8→Int→List It×Int×Int
 | 0,_,_,_,at'=>([],at',2)
 | _+1,f,_,[],_=>(f,0,0)
 | n+1,f,len,c::l,at' =>
  let p:=rread (c::l)
  if p.2=0 then ([],at',2) else if p.1.kind≠1∧checkErr f p.1≠0 then ([],at',checkErr f p.1) else
  let g:=normalize (f++[p.1])
  if 512<g.length∨1024<len+1 then ([],at',3) else rparseN n g (len+1) ((c::l).drop p.2.toNat) (at'+p.2)
theorem normFold_snoc (f:List It) (x:It):normFold (f++[x])=normStep (normFold f) x:=by simp [normFold]
theorem normalize_snoc {f:List It} {x:It} (h:normalize f=f):normalize (f++[x])=normStep f x:=by
 rw [← normFold_eq,normFold_snoc,normFold_eq,h]
theorem normStep_char {f:List It} {t:List UInt8} {c:UInt8} (h:∀ x,f.getLast?=some x→x.kind≠1):normStep (closed f t) ⟨1,[c],0⟩=closed f (t++[c]):=by
 by_cases ht:t=[]
 ·subst ht
  rw [closed_nil]
  simp only [normStep,closed,ne_eq,not_true,if_false,List.nil_append]
  rw [if_neg (by simp),if_neg (by simp)]
  cases hg:f.getLast? with
  | none=>rfl
  | some y=>simp only [if_neg (h y hg)]
 ·simp [normStep,closed,ht]
theorem normStep_item {f:List It} {x:It} (h:x.kind≠1):normStep f x=f++[x]:=by simp [normStep,h]
theorem norm_closed {f:List It} {t:List UInt8} (h3:normalize f=f) (h:∀ x,f.getLast?=some x→x.kind≠1):normalize (closed f t)=closed f t:=by
 by_cases ht:t=[]
 ·subst ht;rw [closed_nil];exact h3
 ·have e:closed f t=f++[⟨1,t,0⟩]:=by simp [closed,ht]
  rw [e,normalize_snoc h3]
  simp only [normStep,ne_eq,not_true,if_false,if_neg ht]
  cases hg:f.getLast? with
  | none=>rfl
  | some y=>simp only [if_neg (h y hg)]
theorem rparse_eq:∀ (n:Nat) (f:List It) (t l:List UInt8) (at':Int),itemsErr [] (closed f t)=0→(∀ x,f.getLast?=some x→x.kind≠1)→normalize f=f →
  rparseN n (closed f t) ((total f+t.length:Nat):Int) l at'=parseN n (rdOf f t) l at':=by
 intro n
 induction n with
 | zero=>intros;rfl
 | succ n ih =>
  intro f t l at' h1 h2 h3
  have h4:=norm_closed (t:=t) h3 h2
  cases l with
  | nil=>simp only [rparseN,parseN,rdFlush_of]
  | cons c l =>
   have hf:itemsErr [] f=0:=by
    simp only [closed] at h1
    split at h1
    ·exact h1
    ·rw [itemsErr_snoc] at h1;exact h1.1
   simp only [rparseN,parseN]
   by_cases he:(elementOf (c::l)).2.2=true
   ·have hok:=(elementOf_ok (s:=c::l) (by simp)).2.2 he
    have hr:rread (c::l)=((elementOf (c::l)).1,(elementOf (c::l)).2.1):=by rw [rread,if_pos he]
    simp only [hr,he,Bool.true_eq_false,if_false]
    rw [if_neg (by omega)]
    rcases elem_inv (s:=c::l) (by simp) he with ⟨b,e0,_⟩ | ⟨e0,e1,_⟩
    ·rw [e0,rdAdd_char,if_neg (by simp),normalize_snoc h4,normStep_char h2]
     have ht:(512<(closed f (t++[b])).length∨(1024:Int)<((total f+t.length:Nat):Int)+1)↔tooMany f t ⟨1,[b],0⟩:=by
      simp only [tooMany,closed_len,List.length_append,List.length_cons,List.length_nil,ne_eq,not_true,false_or]
      by_cases h0:t.length=0
      ·rw [if_pos (by omega),if_neg (by omega),if_pos h0];omega
      ·rw [if_pos (by omega),if_pos (by omega),if_neg h0];omega
     by_cases hm:tooMany f t ⟨1,[b],0⟩
     ·rw [if_pos (ht.2 hm),if_pos hm];simp
     ·rw [if_neg (fun h=>hm (ht.1 h)),if_neg hm]
      simp only [ne_eq,not_true,if_false]
      have hcl:closed f (t++[b])=f++[⟨1,t++[b],0⟩]:=by simp [closed]
      have hv:itemsErr [] (closed f (t++[b]))=0:=by
       rw [hcl,itemsErr_snoc]
       refine ⟨hf,?_,by simp [isTag]⟩
       simp only [itemFine,if_true,List.nil_append,Bool.and_eq_true]
       refine ⟨⟨by simp,by simp⟩,?_⟩
       cases hg:f.getLast? with
       | none=>rfl
       | some y=>simpa using h2 y hg
      have:=ih f (t++[b]) ((c::l).drop (elementOf (c::l)).2.1.toNat) (at'+(elementOf (c::l)).2.1) hv h2 h3
      rw [← this]
      congr 1
      simp;omega
    ·rw [rdAdd_item _ _ _ e0,clash_fits hf e1]
     have hck:checkErr (closed f t) (elementOf (c::l)).1=if (isTag (elementOf (c::l)).1&&!fits (closed f t) (elementOf (c::l)).1)=true then 7 else 0:=by
      simp only [checkErr,itemFine_any e0,e1];simp
     rw [hck]
     by_cases hcl:(isTag (elementOf (c::l)).1&&!fits (closed f t) (elementOf (c::l)).1)=true
     ·simp [hcl,e0]
     ·rw [if_neg hcl,if_neg hcl,if_neg (by simp),normalize_snoc h4,normStep_item e0]
      have ht:(512<(closed f t++[(elementOf (c::l)).1]).length∨(1024:Int)<((total f+t.length:Nat):Int)+1)↔tooMany f t (elementOf (c::l)).1:=by
       simp only [tooMany,e0,closed_len,List.length_append,List.length_cons,List.length_nil,ne_eq,not_false_eq_true,true_or,if_true]
       omega
      by_cases hm:tooMany f t (elementOf (c::l)).1
      ·rw [if_pos (ht.2 hm),if_pos hm];simp
      ·rw [if_neg (fun h=>hm (ht.1 h)),if_neg hm]
       simp only [ne_eq,not_true,if_false]
       have hv:itemsErr [] (closed (closed f t++[(elementOf (c::l)).1]) [])=0:=by
        rw [closed_nil,itemsErr_snoc]
        refine ⟨h1,?_,by simpa using hcl⟩
        rw [itemFine_any e0];exact e1
       have hn:normalize (closed f t++[(elementOf (c::l)).1])=closed f t++[(elementOf (c::l)).1]:=by
        rw [normalize_snoc h4,normStep_item e0]
       have:=ih (closed f t++[(elementOf (c::l)).1]) [] ((c::l).drop (elementOf (c::l)).2.1.toNat) (at'+(elementOf (c::l)).2.1) hv (by
        intro x hx
        simp only [List.getLast?_append,List.getLast?_singleton,Option.some_or,Option.some.injEq] at hx
        subst hx;exact e0) hn
       rw [← this,closed_nil]
       congr 1
       have hw:wid (elementOf (c::l)).1=1:=by simp [wid,e0]
       simp [total_append,total_closed,total_one,hw]
   ·have he:(elementOf (c::l)).2.2=false:=by simpa using he
    rw [rread_bad he];simp [he]
theorem rparseN_ok:∀ (n:Nat) (f:List It) (len:Int) (l:List UInt8) (at':Int),(rparseN n f len l at').2.2=0→(rparseN n f len l at').2.1=0
 | 0,_,_,_,_,h=>by simp [rparseN] at h
 | n+1,f,len,[],at',_=>rfl
 | n+1,f,len,c::l,at',h=>by
  simp only [rparseN] at h ⊢
  split
  ·rename_i h1;rw [if_pos h1] at h;simp at h
  ·rename_i h1
   rw [if_neg h1] at h
   split
   ·rename_i h2;rw [if_pos h2] at h;exact absurd h h2.2
   ·rename_i h2
    rw [if_neg h2] at h
    split
    ·rename_i h3;rw [if_pos h3] at h;simp at h
    ·rename_i h3
     rw [if_neg h3] at h
     exact rparseN_ok n _ _ _ _ h
theorem rparseN_bad:∀ (n:Nat) (f:List It) (len:Int) (l:List UInt8) (at':Int),(rparseN n f len l at').2.2≠0→(rparseN n f len l at').1=[]
 | 0,_,_,_,_,_=>rfl
 | n+1,f,len,[],at',h=>by simp [rparseN] at h
 | n+1,f,len,c::l,at',h=>by
  simp only [rparseN] at h ⊢
  split
  ·rfl
  ·rename_i h1
   rw [if_neg h1] at h
   split
   ·rfl
   ·rename_i h2
    rw [if_neg h2] at h
    split
    ·rfl
    ·rename_i h3
     rw [if_neg h3] at h
     exact rparseN_bad n _ _ _ _ h
theorem fold_bound:∀ (f out:List It),textLen (f.foldl normStep out)≤textLen out+textLen f∧(f.foldl normStep out).length≤out.length+f.length
 | [],out=>by simp [textLen]
 | x::f,out=>by
  have h1:=normStep_bound out x
  have h2:=fold_bound f (normStep out x)
  simp only [List.foldl_cons,textLen,List.length_cons]
  omega
theorem norm_bound (f:List It):textLen (normalize f)≤textLen f∧(normalize f).length≤f.length:=by
 have h:=fold_bound f []
 rw [← normFold_eq]
 simpa [normFold,textLen] using h
theorem itemText_long {x:It} (hk:x.kind≠1) (h:itemFine none x=true):x.text.length≤(itemText x).length:=by
 simp only [itemFine,if_neg hk] at h
 simp only [itemText,if_neg hk]
 by_cases k2:x.kind=2
 ·simp [k2];omega
 ·by_cases k3:x.kind=3
  ·simp [k3];omega
  ·by_cases k4:x.kind=4
   ·simp [k4];omega
   ·by_cases k5:x.kind=5
    ·simp [k5];omega
    ·simp [k2,k3,k4,k5] at h
theorem rread_step {s:List UInt8} (hs:s≠[]):(rread s).2≠0→1≤(rread s).2∧(rread s).2≤s.length∧((rread s).1.text.length:Int)≤(rread s).2:=by
 have h:=elementOf_ok hs
 simp only [rread]
 by_cases he:(elementOf s).2.2=true
 ·rw [if_pos he]
  intro _
  have h2:=h.2.2 he
  refine ⟨h2.1,h2.2,?_⟩
  have hl:(s.drop (elementOf s).2.1.toNat).length=s.length - (elementOf s).2.1.toNat:=List.length_drop ..
  rcases elem_inv hs he with ⟨c,e,_⟩ | ⟨e0,e1,e2⟩
  ·rw [e];simp;omega
  ·have h3:=itemText_long e0 e1
   have h4:=congrArg List.length e2
   rw [List.length_append,hl] at h4
   simp only;omega
 ·rw [if_neg he];simp
def rparse (s:List UInt8):List It×Int×Int:=rparseN (s.length+1) [] 0 s 0
theorem rparse_parse (s:List UInt8):rparse s=parse s:=by
 have:=rparse_eq (s.length+1) [] [] s 0 (by simp [closed,itemsErr]) (by simp) rfl
 rw [closed_nil] at this
 exact this
theorem foldI_pre:∀ (m l:List Int),∃ r,m.foldl insI l=l++r
 | [],l=>⟨[],by simp⟩
 | n::m,l=>by
  obtain ⟨r,hr⟩:=foldI_pre m (insI l n)
  simp only [List.foldl_cons,hr]
  by_cases h:l.contains n=true
  ·exact ⟨r,by simp only [insI,h,if_true]⟩
  ·exact ⟨n::r,by simp only [insI,h];simp⟩
theorem foldI_id:∀ (m l:List Int),(∀ n∈m,n∈l)→m.foldl insI l=l
 | [],_,_=>rfl
 | n::m,l,h=>by
  have e:insI l n=l:=by
   have:l.contains n=true:=by simpa using h n (by simp)
   simp only [insI,this,if_true]
  simp only [List.foldl_cons,e]
  exact foldI_id m l fun k hk=>h k (by simp [hk])
theorem toF_left:∀ (f1 f2 t1 t2:List Int) (x:Int),f1.length=t1.length→x∈f1→toF (f1++f2) (t1++t2) x=toF f1 t1 x
 | [],_,_,_,_,_,h=>by simp at h
 | a::f1,f2,[],t2,x,hl,_=>by simp at hl
 | a::f1,f2,b::t1,t2,x,hl,h=>by
  simp only [List.cons_append,toF]
  by_cases hx:x=a
  ·rw [if_pos hx,if_pos hx]
  ·rw [if_neg hx,if_neg hx]
   refine toF_left f1 f2 t1 t2 x (by simpa using hl) ?_
   rcases List.mem_cons.1 h with h | h
   ·exact absurd h hx
   ·exact h
theorem counting_add (a b:Nat):∃ r,counting (a+b)=counting a++r:=by
 refine ⟨((List.range b).map (a+·)).map fun (i:Nat)=>(i:Int)+1,?_⟩
 simp only [counting,List.range_add,List.map_append]
theorem counting_len (a:Nat):(counting a).length=a:=by simp [counting]
theorem id_mem {s:List It} {x:It} (hx:x∈s) (ht:isTag x=true):x.id∈numbers s:=by
 simp only [numbers,numbersFrom_fold]
 refine foldI_mem _ ?_
 simp only [List.mem_map,List.mem_filter]
 exact ⟨x,⟨hx,ht⟩,rfl⟩
theorem fm_congr {α β:Type} {f g:α→Option β}:∀ {l:List α},(∀ x∈l,f x=g x)→l.filterMap f=l.filterMap g
 | [],_=>rfl
 | x::l,h=>by
  simp only [List.filterMap_cons,h x (by simp)]
  rw [fm_congr fun y hy=>h y (by simp [hy])]
theorem canon_self (s t:List It):canonS s t=canonS s s:=by
 have e0:∀ l m:List Int,moreNumbers l m=m.foldl insI l:=fun _ _=>rfl
 obtain ⟨r,hr⟩:=foldI_pre (numbers t) (numbers s)
 have e1:canonNumbers s t=numbers s++r:=by simp only [canonNumbers,e0,hr]
 have e2:canonNumbers s s=numbers s:=by simp only [canonNumbers,e0];exact foldI_id _ _ fun _ h=>h
 obtain ⟨q,hq⟩:=counting_add (numbers s).length r.length
 simp only [canonS,e1,e2,List.length_append,hq,rename]
 congr 1
 simp only [renamed]
 refine fm_congr fun x hx=>?_
 simp only [ren]
 by_cases ht:isTag x=true
 ·rw [if_pos ht,if_pos ht,toF_left _ _ _ _ _ (counting_len _).symm (id_mem hx ht)]
 ·rw [if_neg ht,if_neg ht]
theorem canonT_self (s:List It):canonT s s=canonS s s:=rfl
theorem asked_ok {e:En} (h:entryErr e=0):entryErr (asked e)=0:=by
 simp only [entryErr] at h ⊢
 split at h
 ·rename_i h1;exact absurd h h1
 ·rename_i h1
  split at h
  ·rename_i h2;exact absurd h h2
  ·split at h
   ·simp at h
   ·rename_i h3
    split at h
    ·rename_i h4;exact absurd h h4
    ·rename_i h4
     split at h
     ·rename_i h5;exact absurd h h5
     ·rename_i h5
      have hc:canonOk e=true:=by simpa using h3
      simp only [canonOk,Bool.and_eq_true] at hc
      have hc2:canonOk (asked e)=true:=by
       simp only [canonOk,asked,Bool.and_eq_true,canonT_self]
       rw [← canon_self e.source e.target]
       exact ⟨⟨hc.1.1,hc.1.2⟩,hc.1.2⟩
      have hn:(named (asked e).author&&named (asked e).project)=true:=rfl
      rw [if_neg (show ¬ validItems (asked e).source≠0 from h1),if_neg (show ¬ validItems (asked e).target≠0 from h1),if_neg (by rw [hc2];simp),
       if_neg (show ¬ (parse (asked e).previous).2.2≠0 from h4),if_neg (show ¬ (parse (asked e).next).2.2≠0 from h5),if_neg (by rw [hn];simp),if_neg (by simp [asked])]
end Go.Bt

/- A part of the proof of the statement of the last text of this claim: for every two lists of integers ReplicaCommutes returns true and leaves the memory as it was. -/
import Derived.Lib.Bytealg
import Derived.Test.YtbfoheefppnnpaaGreatDoorV12
set_option linter.all false

namespace Go.Bt
open Go Go.Pm
structure It where
 kind:Int
 text:List UInt8
 id:Int
def It.cells (x:It):List V:=[.i .i64 x.kind,.s x.text,.i .i64 x.id]
def width (x:It):Int:=if x.kind=1 then x.text.length else 1
def lengthFrom (a:Int) (l:List It):Int:=l.foldl (fun a x=>IntKind.i64.wrap (a+width x)) a
structure Stamp where
 time:Int
 office:Int
 number:Int
def Stamp.cells (x:Stamp):List V:=[.i .i64 x.time,.i .i64 x.office,.i .i64 x.number]
def stampOk (s:Stamp):Bool:=decide (1≤s.time∧s.time≤2^30∧0≤s.office∧s.office<8∧1≤s.number∧s.number≤128)
def nameByte (b:UInt8):Bool:=(97≤b.toNat&&b.toNat≤122)||(48≤b.toNat&&b.toNat≤57)||b.toNat==45
def isName (s:List UInt8):Bool:=match s with
 | []=>false
 | c::r=>decide (s.length≤24)&&decide (97≤c.toNat∧c.toNat≤122)&&r.all nameByte
def vAt (v:List Int) (o:Int):Int:=if o<0∨(v.length:Int)≤o∨8≤o then 0 else if v.getD o.toNat 0<0 then 0 else v.getD o.toNat 0
def cmpI (a b:Int):Int:=if a<b then -1 else if b<a then 1 else 0
def orI:List Int→Int
 | []=>0
 | x::r=>if x≠0 then x else orI r
def cmpStamp (a b:Stamp):Int:=orI [cmpI a.time b.time,cmpI a.office b.office,cmpI a.number b.number]
def joinList (a b:List Int) (n:Nat):List Int:=(List.range n).map fun (i:Nat)=>let x:=vAt a i;let y:=vAt b i;if x<y then y else x
def joinLast (a b:List Int):Nat→Nat
 | 0=>0
 | n+1=>if (let x:=vAt a n;let y:=vAt b n;if x<y then y else x)≠0 then n+1 else joinLast a b n
theorem joinLast_le (a b:List Int):∀ n,joinLast a b n≤n
 | 0=>Nat.le_refl _
 | n+1=>by
  have:=joinLast_le a b n
  simp only [joinLast]
  (repeat' split)<;>omega
def vJoin (a b:List Int):List Int:=(joinList a b 8).take (joinLast a b 8)
theorem joinList_succ (a b:List Int) (n:Nat):joinList a b (n+1)=joinList a b n++[if vAt a n<vAt b n then vAt b n else vAt a n]:=by
 simp [joinList,List.range_succ]
theorem joinList_length (a b:List Int) (n:Nat):(joinList a b n).length=n:=by simp [joinList]
def cutAt (l:List UInt8) (c:UInt8):List UInt8×List UInt8×Bool :=
 if 0≤Lib.indexByte l c then (l.take (Lib.indexByte l c).toNat,l.drop ((Lib.indexByte l c).toNat+1),true) else (l,[],false)
theorem indexByte_lt (l:List UInt8) (c:UInt8):Lib.indexByte l c<l.length:=by
 induction l with
 | nil=>simp [Lib.indexByte]
 | cons b l ih =>
  simp only [Lib.indexByte,List.length_cons]
  split
  ·omega
  ·split<;>omega
def hasPrefix (l p:List UInt8):Bool:=decide (p.length≤l.length)&&l.take p.length==p
def hasSuffix (l p:List UInt8):Bool:=decide (p.length≤l.length)&&l.drop (l.length - p.length)==p
def tagName (l:List UInt8):List UInt8:=(cutAt l 32).1
def classOf (b:UInt8):Int :=
 if b.toNat=9∨b.toNat=10∨b.toNat=13∨b.toNat=32 then 2 else if b.toNat<32∨b.toNat=127 then 1 else if 48≤b.toNat∧b.toNat≤57 then 3
 else if 97≤b.toNat∧b.toNat≤122∨65≤b.toNat∧b.toNat≤90∨128≤b.toNat then 4 else 5
def contentBad (b:UInt8):Bool:=decide (b.toNat<32)||decide (126<b.toNat)||decide (0≤Lib.indexByte [60,62,123,125] b)
def contentEnds (s:List UInt8):Bool:=decide (s.length≤64)&&decide (s.length≠0)&&decide ((s.getD (s.length - 1) 0).toNat≠47)
def contentName (s:List UInt8):Bool:=isName (cutAt s 32).1&&(!(cutAt s 32).2.2||decide (0<(cutAt s 32).2.1.length))
def isContent (s:List UInt8):Bool:=contentEnds s&&s.all (fun b=>!contentBad b)&&contentName s
def isTag (x:It):Bool:=x.kind==2||x.kind==3||x.kind==4
def fitsBad (x y:It):Bool:=!(!isTag y||y.id != x.id)&&(x.kind != 3||y.kind != 2||!(tagName y.text==x.text))
def fits (before:List It) (x:It):Bool:=before.all fun y=>!fitsBad x y
def itemFine (p:Option It) (x:It):Bool :=
 if x.kind=1 then !(x.text==[])&&x.id==0&&(match p with | none=>true | some y=>y.kind != 1)
 else if x.kind=5 then isName x.text&&x.id==0
 else if x.kind=2∨x.kind=4 then isContent x.text&&decide (1≤x.id)&&decide (x.id≤999)
 else if x.kind=3 then isName x.text&&decide (1≤x.id)&&decide (x.id≤999)
 else false
def itemsErr:List It→List It→Int
 | _,[]=>0
 | pre,x::rest=>if itemFine pre.getLast? x=false then 1 else if (isTag x&&!fits pre x)=true then 7 else itemsErr (pre++[x]) rest
def validItems (f:List It):Int:=if 512<f.length∨1024<lengthFrom 0 f then 3 else itemsErr [] f
def numbersFrom:List Int→List It→List Int
 | acc,[]=>acc
 | acc,x::r=>if (isTag x&&!acc.contains x.id)=true then numbersFrom (acc++[x.id]) r else numbersFrom acc r
def numbers (f:List It):List Int:=numbersFrom [] f
def setMap (l:List Int):List (V×V):=l.map fun n=>(.i .i64 n,.b true)
theorem findV_set (n:Int):∀ (l:List Int) (k:Nat),findV 0 (.i .i64 n) (setMap l) k=if n∈l then some (some (k+l.idxOf n,.b true)) else some none
 | [],k=>by simp [setMap,findV]
 | m::l,k=>by
  have ih:=findV_set n l (k+1)
  by_cases h:n=m
  ·subst h
   have e:findV 0 (.i .i64 n) (setMap (n::l)) k=some (some (k,.b true)):=by
    simp only [setMap,List.map_cons,findV,scalEq,if_true,beq_self_eq_true]
   rw [e];simp
  ·have h1:(n==m)=false:=by simpa using h
   have h2:(m==n)=false:=by simpa using fun e=>h e.symm
   have e:findV 0 (.i .i64 n) (setMap (m::l)) k=findV 0 (.i .i64 n) (setMap l) (k+1):=by
    simp only [setMap,List.map_cons,findV,scalEq,if_true,h1]
   rw [e,ih]
   by_cases h3:n∈l
   ·have h4:(m::l).idxOf n=l.idxOf n+1:=by rw [List.idxOf_cons,h2];rfl
    rw [if_pos h3,if_pos (List.mem_cons_of_mem _ h3),h4]
    congr 3
    omega
   ·rw [if_neg h3,if_neg (by simp [h,h3])]
def counting (n:Nat):List Int:=(List.range n).map fun (i:Nat)=>(i:Int)+1
def countRows (N i:Nat):List (List V):=(counting i).map iRow++List.replicate (N - i) [V.i .i64 0]
theorem countRows_len {N i:Nat} (h:i≤N):(countRows N i).length=N:=by simp [countRows,counting];omega
theorem countRows_set {N i:Nat} (h:i<N):(countRows N i).set i [V.i .i64 ((i:Int)+1)]=countRows N (i+1):=by
 have e:N - i=(N - (i+1))+1:=by omega
 have hl:((counting i).map iRow).length=i:=by simp [counting]
 simp only [countRows]
 rw [List.set_append_right _ _ (by omega),hl,Nat.sub_self,e,List.replicate_succ,List.set_cons_zero]
 simp [counting,List.range_succ,iRow]
theorem countRows_get {N i:Nat} (h:i<N):(countRows N i).getD i []=[V.i .i64 0]:=by
 have hl:((counting i).map iRow).length=i:=by simp [counting]
 have e:N - i=(N - (i+1))+1:=by omega
 simp only [countRows,List.getD_eq_getElem?_getD]
 rw [List.getElem?_append_right (by omega),hl,Nat.sub_self,e,List.replicate_succ]
 rfl
def itEq (a b:It):Bool:=a.kind==b.kind&&(a.text==b.text&&a.id==b.id)
theorem itEq_iff {a b:It}:itEq a b=true↔a=b:=by
 obtain ⟨k,t,i⟩:=a
 obtain ⟨k',t',i'⟩:=b
 simp [itEq]
def itsEq:List It→List It→Bool
 | [],[]=>true
 | a::x,b::y=>itEq a b&&itsEq x y
 | _,_=>false
theorem itsEq_iff:∀ {a b:List It},itsEq a b=true↔a=b
 | [],[]=>by simp [itsEq]
 | a::x,b::y=>by simp [itsEq,itEq_iff,itsEq_iff (a:=x) (b:=y)]
 | [],b::y=>by simp [itsEq]
 | a::x,[]=>by simp [itsEq]
theorem itsEq_len:∀ {a b:List It},itsEq a b=true→a.length=b.length:=fun h=>by rw [itsEq_iff.1 h]
def runText:List It→List UInt8×List It
 | []=>([],[])
 | x::r=>if x.kind=1 then (x.text++(runText r).1,(runText r).2) else ([],x::r)
theorem runText_len:∀ (l:List It),(runText l).2.length≤l.length
 | []=>Nat.le_refl _
 | x::r=>by
  have:=runText_len r
  simp only [runText]
  split
  ·simp only [List.length_cons];omega
  ·exact Nat.le_refl _
def normN:Nat→List It→List It
 | 0,_=>[]
 | _+1,[]=>[]
 | n+1,x::r=>if x.kind≠1 then x::normN n r else
   if (runText (x::r)).1.length=0 then normN n (runText (x::r)).2 else ⟨1,(runText (x::r)).1,0⟩::normN n (runText (x::r)).2
def normalize (f:List It):List It:=normN f.length f
def textLen:List It→Nat
 | []=>0
 | x::r=>x.text.length+textLen r
theorem runText_split:∀ (l:List It),∃ run,l=run++(runText l).2
 | []=>⟨[],rfl⟩
 | x::r=>by
  obtain ⟨run,h⟩:=runText_split r
  by_cases hk:x.kind=1
  ·refine ⟨x::run,?_⟩
   simp only [runText,hk,if_true,List.cons_append]
   rw [← h]
  ·exact ⟨[],by simp [runText,hk]⟩
theorem runText_short {x:It} {r:List It} (h:x.kind=1):(runText (x::r)).2.length≤r.length:=by
 simp only [runText,h,if_true]
 exact runText_len r
theorem runText_text:∀ (l:List It),(runText l).1.length+textLen (runText l).2=textLen l
 | []=>rfl
 | x::r=>by
  have:=runText_text r
  by_cases hk:x.kind=1
  ·simp only [runText,hk,if_true,List.length_append,textLen];omega
  ·simp [runText,hk,textLen]
def toF:List Int→List Int→Int→Option Int
 | a::fr,b::to,x=>if x=a then some b else toF fr to x
 | _,_,_=>none
def ren (fr to:List Int) (x:It):Option It:=if isTag x then (toF fr to x.id).map fun n=>⟨x.kind,x.text,n⟩ else some x
def renamed (f:List It) (fr to:List Int):List It:=f.filterMap (ren fr to)
def rename (f:List It) (fr to:List Int):List It:=normalize (renamed f fr to)
def moreNumbers (l m:List Int):List Int:=m.foldl (fun l n=>if l.contains n then l else l++[n]) l
def canonNumbers (s t:List It):List Int:=moreNumbers (numbers s) (numbers t)
def canonS (s t:List It):List It:=rename s (canonNumbers s t) (counting (canonNumbers s t).length)
def canonT (s t:List It):List It:=rename t (canonNumbers s t) (counting (canonNumbers s t).length)
def mapII (l:List (Int×Int)):List (V×V):=emap keI keI l
theorem mapII_cases (l:List (Int×Int)) (a:Int) :
  (getA a l=none∧findV 0 (.i .i64 a) (mapII l) 0=some none∧∀ b,mapII l++[(V.i .i64 a,V.i .i64 b)]=mapII (updA l a b)) ∨
  (∃ i b0,getA a l=some b0∧findV 0 (.i .i64 a) (mapII l) 0=some (some (i,.i .i64 b0))∧∀ b,(mapII l).set i (V.i .i64 a,V.i .i64 b)=mapII (updA l a b)):=emap_cases keI_eq l a
theorem toF_drop {fr to:List Int} {i:Nat} (h1:i<fr.length) (h2:i<to.length) (x:Int):toF (fr.drop i) (to.drop i) x=if x=fr.getD i 0 then some (to.getD i 0) else toF (fr.drop (i+1)) (to.drop (i+1)) x:=by
 rw [List.drop_eq_getElem_cons h1,List.drop_eq_getElem_cons h2]
 simp only [toF]
 simp [List.getD_eq_getElem?_getD,h1,h2]
theorem toF_end {fr to:List Int} {i:Nat} (h:min fr.length to.length≤i) (x:Int):toF (fr.drop i) (to.drop i) x=none:=by
 by_cases h1:fr.length≤i
 ·rw [List.drop_eq_nil_of_le h1];simp [toF]
 ·have h2:to.length≤i:=by omega
  rw [List.drop_eq_nil_of_le h2]
  cases fr.drop i<;>simp [toF]
theorem renamed_len (f:List It) (fr to:List Int):(renamed f fr to).length≤f.length:=List.length_filterMap_le _ _
theorem renamed_text (f:List It) (fr to:List Int):textLen (renamed f fr to)≤textLen f:=by
 induction f with
 | nil=>exact Nat.le_refl _
 | cons x f ih =>
  simp only [renamed,List.filterMap_cons] at ih ⊢
  split
  ·simp only [textLen];omega
  ·rename_i y hy
   have:y.text=x.text:=by
    simp only [ren] at hy
    split at hy
    ·rw [Option.map_eq_some_iff] at hy
     obtain ⟨n,_,rfl⟩:=hy
     rfl
    ·simp at hy;rw [hy]
   simp only [textLen,this]
   omega
theorem moreNumbers_len (m:List Int):∀ (l:List Int),(moreNumbers l m).length≤l.length+m.length:=by
 induction m with
 | nil=>intro l;simp [moreNumbers]
 | cons n m ih =>
  intro l
  simp only [moreNumbers,List.foldl_cons] at ih ⊢
  have:=ih (if l.contains n then l else l++[n])
  split at this
  ·simp only [List.length_cons];rw [if_pos (by assumption)];omega
  ·simp only [List.length_cons];rw [if_neg (by assumption)];simp at this ⊢;omega
theorem numbersFrom_len (f:List It):∀ (acc:List Int),(numbersFrom acc f).length≤acc.length+f.length:=by
 induction f with
 | nil=>intro acc;simp [numbersFrom]
 | cons x f ih =>
  intro acc
  simp only [numbersFrom]
  split
  ·have:=ih (acc++[x.id]);simp at this ⊢;omega
  ·have:=ih acc;simp;omega
theorem numbers_len (f:List It):(numbers f).length≤f.length:=by
 have:=numbersFrom_len f []
 simpa [numbers] using this
theorem u8_all {p:UInt8→Prop} (h:∀ n:Fin 256,p (UInt8.ofNat n.val)) (c:UInt8):p c:=by
 have:=h ⟨c.toNat,c.toNat_lt⟩
 simpa using this
def plainB (c:UInt8):Bool:=c != 92&&c != 60&&c != 123&&c != 9&&c != 10&&c != 13&&classOf c != 1
def hexDig (n:Nat):UInt8:=if n<10 then UInt8.ofNat (48+n) else UInt8.ofNat (87+n)
def writB (c:UInt8):List UInt8 :=
 if plainB c then [c] else if c=10 then [92,110] else if c=9 then [92,116] else if c=92∨c=60∨c=123 then [92,c] else [92,120,hexDig (c.toNat / 16),hexDig (c.toNat % 16)]
def hexOf (c:UInt8):UInt8×Bool :=
 if 48≤c.toNat∧c.toNat≤57 then (UInt8.ofNat (c.toNat - 48),true) else if 97≤c.toNat∧c.toNat≤102 then (UInt8.ofNat (c.toNat - 87),true) else (0,false)
theorem hexOf_lt (c:UInt8):(hexOf c).1.toNat<16:=by
 revert c;exact u8_all (by decide +kernel)
def hexByte (a b:UInt8):UInt8:=UInt8.ofNat (16*(hexOf a).1.toNat+(hexOf b).1.toNat)
def escapeOf (s:List UInt8):UInt8×Int×Bool :=
 if s.length<2 then (0,0,false) else
 let c:=s.getD 1 0
 if c=92∨c=60∨c=123 then (c,2,true) else if c=110 then (10,2,true) else if c=116 then (9,2,true) else if c=120 then
  if s.length<4 then (0,0,false) else
  let b:=hexByte (s.getD 2 0) (s.getD 3 0)
  (b,4,(hexOf (s.getD 2 0)).2&&(hexOf (s.getD 3 0)).2&&(b==13||classOf b==1))
 else (0,0,false)
def digitB (c:UInt8):Bool:=48≤c.toNat&&c.toNat≤57
def decFrom (n:Int) (s:List UInt8):Int:=s.foldl (fun n c=>10*n+(c.toNat - 48:Int)) n
def numberOf (s:List UInt8):Int×Bool :=
 if s.length<1∨3<s.length∨s.getD 0 0=48 then (0,false) else if s.all digitB then (decFrom 0 s,true) else (0,false)
theorem decFrom_le (s:List UInt8):∀ (n:Int) (k:Nat),s.length=k→s.all digitB=true→0≤n→0≤decFrom n s∧decFrom n s<10^k*(n+1):=by
 induction s with
 | nil=>intro n k hk _ hn;simp at hk;subst hk;simp [decFrom];omega
 | cons c s ih =>
  intro n k hk hs hn
  simp only [List.all_cons,Bool.and_eq_true] at hs
  have hc:=hs.1
  simp only [digitB,Bool.and_eq_true,decide_eq_true_eq] at hc
  obtain ⟨k,rfl⟩:∃ j,k=j+1:=⟨s.length,by simpa using hk.symm⟩
  have h:=ih (10*n+(c.toNat - 48:Int)) k (by simpa using hk) hs.2 (by omega)
  simp only [decFrom,List.foldl_cons] at h ⊢
  refine ⟨h.1,Int.lt_of_lt_of_le h.2 ?_⟩
  have h3:(10*n+(c.toNat - 48:Int))+1≤10*(n+1):=by omega
  have h4:=Int.mul_le_mul_of_nonneg_left h3 (show (0:Int)≤10^k from Int.pow_nonneg (by omega))
  have h5:(10:Int)^(k+1)*(n+1)=10^k*(10*(n+1)):=by rw [Int.pow_succ];simp only [Int.mul_assoc]
  omega
def tagOf (s:List UInt8):It×Bool :=
 let close:=hasPrefix s [47]
 let s:=if close then s.drop 1 else s
 let p:=cutAt s 58
 let empty:=!close&&hasSuffix p.2.1 [47]
 let kind:Int:=if close then 3 else if empty then 4 else 2
 let content:=if empty then p.2.1.take (p.2.1.length - 1) else p.2.1
 if p.2.2&&(numberOf p.1).2 then (⟨kind,content,(numberOf p.1).1⟩,if kind=3 then isName content else isContent content) else (⟨0,[],0⟩,false)
def noIt:It:=⟨0,[],0⟩
def elementOf (s:List UInt8):It×Int×Bool :=
 let c:=s.getD 0 0
 if c=92 then (⟨1,[(escapeOf s).1],0⟩,(escapeOf s).2.1,(escapeOf s).2.2)
 else if c=60 then
  let e:=Lib.indexByte s 62
  if e<0 then (noIt,0,false) else
  let t:=(s.take e.toNat).drop 1
  ((tagOf t).1,e+1,(tagOf t).2)
 else if c=123 then
  let e:=Lib.indexByte s 125
  if e<0∨isName ((s.take e.toNat).drop 1)=false then (noIt,0,false) else (⟨5,(s.take e.toNat).drop 1,0⟩,e+1,true)
 else (⟨1,s.take 1,0⟩,1,plainB c)
theorem hex_dig (c:UInt8) (h:48≤c.toNat∧c.toNat≤57):hexOf c=(UInt8.ofNat (c.toNat - 48),true)∧IntKind.u8.wrap ((c.toNat:Int) - 48)=((hexOf c).1.toNat:Int):=by
 have h1:hexOf c=(UInt8.ofNat (c.toNat - 48),true):=by simp only [hexOf,h,and_self,if_true]
 refine ⟨h1,?_⟩
 rw [h1]
 revert h h1
 revert c
 exact u8_all (by decide +kernel)
theorem hex_let (c:UInt8) (h:97≤c.toNat∧c.toNat≤102):hexOf c=(UInt8.ofNat (c.toNat - 87),true)∧IntKind.u8.wrap (IntKind.u8.wrap ((c.toNat:Int) - 97)+10)=((hexOf c).1.toNat:Int):=by
 have h0:¬ (48≤c.toNat∧c.toNat≤57):=by omega
 have h1:hexOf c=(UInt8.ofNat (c.toNat - 87),true):=by simp only [hexOf,h0,h,and_self,if_true,if_false]
 refine ⟨h1,?_⟩
 rw [h1]
 revert h h0 h1
 revert c
 exact u8_all (by decide +kernel)
theorem hex_no (c:UInt8) (h0:¬ (48≤c.toNat∧c.toNat≤57)) (h:¬ (97≤c.toNat∧c.toNat≤102)):hexOf c=(0,false):=by
 simp only [hexOf,h0,h,if_false]
theorem hexByte_or (a b:UInt8) :
  IntKind.u8.wrap (((BitVec.ofInt IntKind.u8.bits (IntKind.u8.wrap (((hexOf a).1.toNat:Int)*2^(min 4 IntKind.u8.bits))) ||| BitVec.ofInt IntKind.u8.bits ((hexOf b).1.toNat:Int)).toNat:Nat):Int)=((hexByte a b).toNat:Int):=by
 have key:∀ m n:Fin 16,IntKind.u8.wrap (((BitVec.ofInt IntKind.u8.bits (IntKind.u8.wrap ((m.val:Int)*2^(min 4 IntKind.u8.bits))) ||| BitVec.ofInt IntKind.u8.bits (n.val:Int)).toNat:Nat):Int)=((UInt8.ofNat (16*m.val+n.val)).toNat:Int):=by decide +kernel
 exact key ⟨_,hexOf_lt a⟩ ⟨_,hexOf_lt b⟩
theorem u8_sub48 (c:UInt8) (h:digitB c=true):IntKind.u8.wrap ((c.toNat:Int) - 48)=(c.toNat:Int) - 48:=by
 revert h;revert c;exact u8_all (by decide +kernel)
theorem u8_beq (a b:UInt8):((a.toNat:Int)==(b.toNat:Int))=(a==b):=by
 rw [Bool.eq_iff_iff]
 simp only [beq_iff_eq]
 constructor
 ·intro h
  exact UInt8.toNat_inj.1 (by omega)
 ·intro h;rw [h]
theorem u8_bne (a b:UInt8):((a.toNat:Int) != (b.toNat:Int))=(a != b):=by
 simp only [bne,u8_beq]
theorem u8n {c d:UInt8} {k:Int} (h:¬ c=d) (hk:(d.toNat:Int)=k):((c.toNat:Int)==k)=false:=by
 subst hk;rw [u8_beq];simpa using h
theorem u8y {c d:UInt8} {k:Int} (h:c=d) (hk:(d.toNat:Int)=k):((c.toNat:Int)==k)=true:=by
 subst hk;rw [u8_beq];simpa using h
theorem indexByte_pos (l:List UInt8) (c:UInt8) (h:l.getD 0 0≠c) (h2:¬ Lib.indexByte l c<0):1≤Lib.indexByte l c:=by
 cases l with
 | nil=>simp [Lib.indexByte] at h2
 | cons b l =>
  have hb:¬ b=c:=h
  have hb:(b==c)=false:=by simpa using hb
  have hlow:∀ l:List UInt8,-1≤Lib.indexByte l c:=by
   intro l
   induction l with
   | nil=>simp [Lib.indexByte]
   | cons a l ih =>
    simp only [Lib.indexByte]
    split
    ·omega
    ·split<;>omega
  have h3:=hlow l
  simp only [Lib.indexByte,hb,Bool.false_eq_true,if_false] at h2 ⊢
  by_cases h4:(Lib.indexByte l c == -1)=true
  ·rw [if_pos h4] at h2;omega
  ·rw [if_neg h4] at h2 ⊢
   have h5:Lib.indexByte l c ≠ -1:=by simpa using h4
   omega
structure Rd where
 f:List It
 text:List UInt8
 len:Nat
 tags:List (Int×It)
def rdFlush (s:Rd):Rd:=if 0<s.text.length then ⟨s.f++[⟨1,s.text,0⟩],[],s.len,s.tags⟩ else s
def itV (x:It):V:=.agg x.cells
def mapIt (l:List (Int×It)):List (V×V):=emap keI itV l
theorem mapIt_cases (l:List (Int×It)) (a:Int) :
  (getA a l=none∧findV 0 (.i .i64 a) (mapIt l) 0=some none∧∀ b,mapIt l++[(V.i .i64 a,itV b)]=mapIt (updA l a b)) ∨
  (∃ i b0,getA a l=some b0∧findV 0 (.i .i64 a) (mapIt l) 0=some (some (i,itV b0))∧∀ b,(mapIt l).set i (V.i .i64 a,itV b)=mapIt (updA l a b)):=emap_cases keI_eq l a
def tagged (x:It):Bool:=x.kind != 1&&x.kind != 5
def clash (s:Rd) (x:It):Bool:=match getA x.id s.tags with
 | some b=>x.kind != 3||b.kind != 2||tagName b.text != x.text
 | none=>false
def addItems (s:Rd) (x:It):Nat:=s.f.length+(if 0<s.text.length then 1 else 0)+(if x.kind≠1∨s.text.length=0 then 1 else 0)
def rdTag (s:Rd) (x:It):Rd:=⟨s.f,s.text,s.len+1,if tagged x then updA s.tags x.id x else s.tags⟩
def rdPut (s:Rd) (x:It):Rd:=⟨s.f++[x],s.text,s.len,s.tags⟩
def rdAdd (s:Rd) (x:It):Int×Rd :=
 if tagged x&&clash s x then (7,s) else if 512<addItems s x∨1024<s.len+1 then (3,s) else
 if x.kind=1 then (0,⟨s.f,s.text++x.text,s.len+1,s.tags⟩) else (0,rdPut (rdFlush (rdTag s x)) x)
def rdNew:Rd:=⟨[],[],0,[]⟩
def parseN:Nat→Rd→List UInt8→Int→List It×Int×Int
 | 0,_,_,at'=>([],at',2)
 | _+1,s,[],_=>((rdFlush s).f,0,0)
 | n+1,s,c::l,at' =>
  let e:=elementOf (c::l)
  if e.2.2=false then ([],at',2) else
  let r:=rdAdd s e.1
  if r.1≠0 then ([],at',r.1) else parseN n r.2 ((c::l).drop e.2.1.toNat) (at'+e.2.1)
def parse (s:List UInt8):List It×Int×Int:=parseN (s.length+1) rdNew s 0
structure Rd.ok (r:Rd):Prop where
 f:r.f.length+(if 0<r.text.length then 1 else 0)≤r.len
 text:r.text.length≤r.len
 len:r.len≤1024
theorem rdFlush_f (r:Rd):(rdFlush r).f.length=r.f.length+(if 0<r.text.length then 1 else 0):=by
 simp only [rdFlush]
 split<;>rename_i h<;>simp [h]
theorem rdFlush_text (r:Rd):(rdFlush r).text.length=0:=by
 simp only [rdFlush]
 split<;>rename_i h
 ·rfl
 ·simpa using h
theorem rdFlush_len (r:Rd):(rdFlush r).len=r.len:=by
 simp only [rdFlush]
 split<;>rfl
theorem rdAdd_ok {r:Rd} {x:It} (h:r.ok) (hx:x.kind=1→x.text.length≤1) (h0:(rdAdd r x).1=0):(rdAdd r x).2.ok:=by
 obtain ⟨h1,h2,h3⟩:=h
 simp only [rdAdd] at h0 ⊢
 split
 ·rename_i h4;rw [if_pos h4] at h0;simp at h0
 ·rename_i h4
  rw [if_neg h4] at h0
  split
  ·rename_i h5;rw [if_pos h5] at h0;simp at h0
  ·rename_i h5
   split
   ·rename_i h6
    have:=hx h6
    refine ⟨?_,?_,?_⟩
    ·simp only [List.length_append]
     split at h1<;>split<;>omega
    ·simp only [List.length_append];omega
    ·simp only;omega
   ·refine ⟨?_,?_,?_⟩
    ·simp only [rdPut,List.length_append,List.length_cons,List.length_nil,rdFlush_f,rdFlush_text,rdFlush_len,rdTag]
     simp only [Nat.lt_irrefl,if_false]
     omega
    ·simp only [rdPut,rdFlush_text];omega
    ·simp only [rdPut,rdFlush_len,rdTag];omega
theorem cutAt_len (l:List UInt8) (c:UInt8):(cutAt l c).1.length≤l.length∧(cutAt l c).2.1.length≤l.length:=by
 simp only [cutAt]
 split
 ·simp;omega
 ·simp
theorem tagOf_text (s:List UInt8):(tagOf s).1.text.length≤s.length∧(tagOf s).1.kind≠1:=by
 have h1:=(cutAt_len s 58).2
 have h2:=(cutAt_len (s.drop 1) 58).2
 have h3:(s.drop 1).length≤s.length:=by simp
 unfold tagOf
 dsimp only
 cases hasPrefix s [47] with
 | true =>
  simp only [if_true,Bool.not_true,Bool.false_and,Bool.false_eq_true,if_false]
  split
  ·exact ⟨Nat.le_trans h2 h3,by simp⟩
  ·exact ⟨by simp,by simp⟩
 | false =>
  simp only [Bool.false_eq_true,if_false,Bool.not_false,Bool.true_and]
  cases hasSuffix (cutAt s 58).2.1 [47] with
  | true =>
   simp only [if_true]
   split
   ·exact ⟨by rw [List.length_take];omega,by simp⟩
   ·exact ⟨by simp,by simp⟩
  | false =>
   simp only [Bool.false_eq_true,if_false]
   split
   ·exact ⟨h1,by simp⟩
   ·exact ⟨by simp,by simp⟩
theorem elementOf_ok {s:List UInt8} (hs:s≠[]):(elementOf s).1.text.length≤s.length∧((elementOf s).1.kind=1→(elementOf s).1.text.length≤1) ∧
  ((elementOf s).2.2=true→1≤(elementOf s).2.1∧(elementOf s).2.1≤s.length):=by
 have hl:0<s.length:=List.length_pos_iff.2 hs
 simp only [elementOf]
 by_cases c92:s.getD 0 0=92
 ·rw [if_pos c92]
  refine ⟨by simp;omega,fun _=>by simp,?_⟩
  simp only [escapeOf]
  split
  ·intro h;simp at h
  ·split
   ·intro _;simp;omega
   ·split
    ·intro _;simp;omega
    ·split
     ·intro _;simp;omega
     ·split
      ·split
       ·intro h;simp at h
       ·intro _;simp;omega
      ·intro h;simp at h
 ·rw [if_neg c92]
  by_cases c60:s.getD 0 0=60
  ·rw [if_pos c60]
   have hb:=indexByte_lt s 62
   split
   ·exact ⟨by simp [noIt],by simp [noIt],by simp⟩
   ·rename_i h
    have ht:=tagOf_text ((s.take (Lib.indexByte s 62).toNat).drop 1)
    refine ⟨Nat.le_trans ht.1 (by simp;omega),fun h=>absurd h ht.2,fun _=>?_⟩
    simp only
    omega
  ·rw [if_neg c60]
   by_cases c123:s.getD 0 0=123
   ·rw [if_pos c123]
    have hb:=indexByte_lt s 125
    split
    ·exact ⟨by simp [noIt],by simp [noIt],by simp⟩
    ·rename_i h
     have:¬ Lib.indexByte s 125<0:=fun h2=>h (.inl h2)
     refine ⟨by simp;omega,fun h=>by simp at h,fun _=>?_⟩
     simp only
     omega
   ·rw [if_neg c123]
    refine ⟨by simp;omega,fun _=>by simp;omega,fun _=>?_⟩
    simp only
    omega
def insI (l:List Int) (n:Int):List Int:=if l.contains n then l else l++[n]
theorem insI_mem {l:List Int} {n m:Int} (h:m∈l):m∈insI l n:=by
 simp only [insI];split
 ·exact h
 ·simp [h]
theorem insI_self (l:List Int) (n:Int):n∈insI l n:=by
 simp only [insI];split
 ·rename_i h;simpa using h
 ·simp
theorem foldI_keep:∀ (b:List Int) {acc:List Int} {m:Int},m∈acc→m∈b.foldl insI acc
 | [],_,_,h=>h
 | _::b,_,_,h=>foldI_keep b (insI_mem h)
theorem foldI_mem:∀ (b:List Int) {acc:List Int} {m:Int},m∈b→m∈b.foldl insI acc
 | n::b,acc,m,h=>by
  rcases List.mem_cons.1 h with rfl | h
  ·exact foldI_keep b (insI_self _ _)
  ·exact foldI_mem b h
theorem foldI_ins (b acc:List Int) (n:Int):(insI b n).foldl insI acc=insI (b.foldl insI acc) n:=by
 by_cases h:b.contains n=true
 ·have e:insI b n=b:=by simp only [insI,h,if_true]
  have h2:n∈b:=by simpa using h
  have h3:(b.foldl insI acc).contains n=true:=by simpa using foldI_mem b (acc:=acc) h2
  rw [e]
  simp only [insI,h3,if_true]
 ·have e:insI b n=b++[n]:=by simp only [insI,h];rfl
  rw [e,List.foldl_append];rfl
theorem foldI_foldI:∀ (l b acc:List Int),(l.foldl insI b).foldl insI acc=l.foldl insI (b.foldl insI acc)
 | [],_,_=>rfl
 | n::l,b,acc=>by
  simp only [List.foldl_cons]
  rw [foldI_foldI l (insI b n) acc,foldI_ins]
theorem numbersFrom_fold:∀ (f:List It) (acc:List Int),numbersFrom acc f=((f.filter isTag).map (·.id)).foldl insI acc
 | [],_=>rfl
 | x::f,acc=>by
  simp only [numbersFrom]
  cases ht:isTag x with
  | false =>
   simp only [Bool.false_and,Bool.false_eq_true,if_false,List.filter_cons,ht]
   exact numbersFrom_fold f acc
  | true =>
   simp only [Bool.true_and,List.filter_cons,ht,if_true,List.map_cons,List.foldl_cons]
   by_cases h:acc.contains x.id=true
   ·simp only [h,Bool.not_true,Bool.false_eq_true,if_false,insI,if_true]
    exact numbersFrom_fold f acc
   ·simp only [h,Bool.not_false,if_true,insI,if_false,Bool.false_eq_true]
    exact numbersFrom_fold f _
theorem numbers_append (s t:List It):numbers (s++t)=canonNumbers s t:=by
 have e:∀ l m:List Int,moreNumbers l m=m.foldl insI l:=fun _ _=>rfl
 simp only [canonNumbers,e,numbers,numbersFrom_fold,List.filter_append,List.map_append,List.foldl_append]
 rw [foldI_foldI];rfl
end Go.Bt

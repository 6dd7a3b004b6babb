/- A part of the proof of the statement of the last text of this claim; its conditions stand there. -/
import Derived.Test.YtkkjfegefckehaaGreatDoorB19
set_option linter.all false

namespace Go.Bt
open Go Go.Pm
def kC(s:List UInt8):It×Int:=if(aX s).2.2=true then((aX s).1,(aX s).2.1)else(nE,0)
theorem Ac{s:List UInt8}(h:(aX s).2.2=false):kC s=(nE,0):=by simp[kC,h]
def uj(kind:Int)(t:List UInt8):It×Bool :=
 let k:=min 4 (t.takeWhile dP).length
 if k=0∨t.length≤k∨t.getD 0 0=48∨999<dZ 0 (t.take k)∨t.getD k 0≠58 then(nE,false)else
 if(kind=3∧isName (t.drop (k+1))=false)∨(kind≠3∧db (t.drop (k+1))=false)then(nE,false)else(⟨kind,t.drop (k+1),dZ 0 (t.take k)⟩,true)
def GN(t:List UInt8):It×Bool :=
 if hasPrefix t [47]=true then uj 3 (t.drop 1)else if hasSuffix t [47]=true then uj 4 (t.take (t.length - 1))else uj 2 t
def JT(kind:Int)(a b:List UInt8)(cut:Bool):It×Bool :=
 if(cut&&(numberOf a).2)=true then(if(if kind=3 then isName b else db b)=true then(⟨kind,b,(numberOf a).1⟩,true)else(nE,false))else(nE,false)
theorem Ev{a b:List UInt8}(h:∀ c∈a,dP c=true):(a++58::b).takeWhile dP=a:=by
 induction a with
 | nil=>simp[show dP 58=false by decide]
 | cons x a ih =>
  have hx:dP x=true:=h x (by simp);simp[hx,ih fun c hc=>h c (by simp[hc])]
theorem Cn{n:Nat}{t:List UInt8}(h:n≤(t.takeWhile dP).length):∀ c∈t.take n,dP c=true:=by
 intro c hc
 have e:t.take n=(t.takeWhile dP).take n:=by
  have:=List.takeWhile_append_dropWhile (p:=dP) (l:=t)
  conv=>lhs;rw[← this]
  rw[fx h]
 rw[e]at hc;have h2:=ct hc;exact bI.1 (List.all_takeWhile (p:=dP) (l:=t)) c h2
theorem TX{a b c d:UInt8}{r:List UInt8}(ha:dP a=true)(h48:a≠48)(hb:dP b=true)(hc:dP c=true)(hd:dP d=true):999<dZ 0 [a,b,c,d]:=by
 simp only[dP,aC,decide_eq_true_eq]at ha hb hc hd;have:a.toNat≠48:=fun e=>h48 (mY.1 e);simp only[dZ,bd,dB];omega
theorem ui(kind:Int)(t:List UInt8):uj kind t=JT kind (cutAt t 58).1 (cutAt t 58).2.1 (cutAt t 58).2.2:=by
 by_cases hc:((cutAt t 58).2.2&&(numberOf (cutAt t 58).1).2)=true
 ·have zk:=hc;simp only[aC]at zk;obtain⟨n1,n2,n3⟩:=ph zk.2;have e1:=oc zk.1;generalize ha:(cutAt t 58).1=a at *;generalize hb:(cutAt t 58).2.1=b at *;have hn:=uU (numberOf a).1 ⟨n2,n3⟩;rw[← n1]at hn;have S9:=zk.2;simp only[numberOf]at S9
  by_cases h1:a.length<1∨3<a.length∨a.getD 0 0=48
  ·rw[if_pos h1]at S9;simp at S9
  ·have js:a.all dP=true:=bI.2 hn.2.1;have hv:(numberOf a).1=dZ 0 a:=by simp only[numberOf,if_neg h1,js,if_true]
   have hk:min 4 (t.takeWhile dP).length=a.length:=by rw[e1,Ev hn.2.1];omega
   have ht:t.take a.length=a:=by rw[e1];simp
   have hd:t.drop (a.length+1)=b:=by rw[e1];simp
   have hl:¬ t.length≤a.length:=by rw[e1];simp
   have h0:t.getD 0 0=a.getD 0 0:=by
    rw[e1];cases a with
    | nil=>simp at h1
    | cons x a=>rfl
   have h58:t.getD a.length 0=58:=by rw[e1];simp[List.getD_eq_getElem?_getD]
   simp only[uj,JT,hc,if_true,hk,ht,hd,h0,h58]
   rw[if_neg (by
    simp only[not_or]at h1 ⊢;exact⟨by omega,hl,h1.2.2,by rw[← hv];omega,by simp⟩)]
   by_cases hk3:kind=3
   ·simp only[hk3,true_and,if_true,ne_eq,not_true,false_and,or_false,hv]
    by_cases hb:isName b=true<;>simp[hb]
   ·simp only[hk3,false_and,if_false,ne_eq,not_false_eq_true,true_and,false_or,hv]
    by_cases hb:db b=true<;>simp[hb]
 ·simp only[JT,if_neg hc,uj];refine if_pos ?_;apply bo;intro iQ;apply hc;simp only[not_or,Nq,Nat.not_le,Decidable.not_not]at iQ;obtain⟨g1,g2,g3,g4,g5⟩:=iQ;generalize hk:min 4 (t.takeWhile dP).length=k at *;have js:=Cn (n:=k) (t:=t) (by omega)
  have e1:t=t.take k++58::t.drop (k+1):=by
   conv=>lhs;rw[← List.take_append_drop k t]
   congr 1;rw[eU g2];congr 1;rw[List.getD_eq_getElem?_getD,aw g2]at g5;simpa using g5
  have qT:(58:UInt8) ∉ t.take k:=fun hm=>absurd (js _ hm) (by decide)
  have aiW:cutAt t 58=(t.take k,t.drop (k+1),true):=by
   conv=>lhs;rw[e1]
   exact vg qT
  rw[aiW];have hlen:(t.take k).length=k:=by rw[aR];omega
  have ZY:(t.take k).getD 0 0=t.getD 0 0:=by
   cases t with
   | nil=>simp
   | cons x t =>
    obtain⟨m,rfl⟩:∃ m,k=m+1:=⟨k - 1,by omega⟩;rfl
  have hk4:k≤3:=by
   apply bo;intro h;have h4:k=4:=by omega
   subst h4
   match t,g2,js,g3,g4 with
   | a::b::c::d::r,_,js,g3,g4 =>
    have:=TX (r:=r) (js a (by simp)) (by simpa using g3) (js b (by simp)) (js c (by simp)) (js d (by simp));simp only[cC,fJ]at g4;omega
   | [],h,_,_,_=>simp at h
   | [_],h,_,_,_=>simp at h
   | [_,_],h,_,_,_=>simp at h
   | [_,_,_],h,_,_,_=>simp at h
  simp only[dM,numberOf];rw[if_neg (by rw[hlen,ZY];simp only[not_or];exact⟨by omega,by omega,g3⟩),if_pos (bI.2 js)]
def Sj(p:It×Bool):It×Bool:=if p.2=true then p else(nE,false)
theorem Al(kind:Int)(a b:List UInt8)(cut:Bool):
  Sj (if(cut&&(numberOf a).2)=true then(⟨kind,b,(numberOf a).1⟩,if kind=3 then isName b else db b)else(⟨0,[],0⟩,false))=JT kind a b cut:=by
 simp only[JT]
 by_cases hc:(cut&&(numberOf a).2)=true
 ·rw[if_pos hc,if_pos hc];simp only[Sj];generalize (if kind=3 then isName b else db b)=X;cases X<;>rfl
 ·rw[if_neg hc,if_neg hc];rfl
theorem nv{t:List UInt8}{x c:UInt8}:hasSuffix (t++[x]) [c]=(x==c):=by
 simp[hasSuffix]
theorem E7{a b:List UInt8}:hasSuffix (a++58::b) [47]=hasSuffix b [47]:=by
 rcases dQ b with hb | ⟨b',x,hb⟩
 ·subst hb;rw[nv];rfl
 ·rw[dt]at hb;subst hb;rw[nv,show a++58::(b'++[x])=(a++58::b')++[x]by simp,nv]
theorem xT{s:List UInt8}{c:UInt8}(h:c ∉ s):cutAt s c=(s,[],false):=by
 simp only[cutAt,uY h];rfl
theorem QJ{s:List UInt8}{c:UInt8}(h:c∈s):(cutAt s c).2.2=true:=by
 simp only[cutAt];rw[if_pos (qo h)]
theorem tz{c:UInt8}:∀ {s:List UInt8},c ∉ s.take (Lib.indexByte s c).toNat
 | []=>by simp
 | a::s=>by
  by_cases ha:a=c
  ·subst ha;simp[Lib.indexByte]
  ·have WO:(a==c)=false:=by simpa using ha
   have hl:=rj c s;simp only[Lib.indexByte,WO,aD,if_false]
   by_cases h1:(Lib.indexByte s c == -1)=true
   ·rw[if_pos h1];simp
   ·rw[if_neg h1];have h2:Lib.indexByte s c ≠ -1:=by simpa using h1
    have h3:(Lib.indexByte s c+1).toNat=(Lib.indexByte s c).toNat+1:=by omega
    rw[h3,cC];intro hm;rcases aU.1 hm with hm | hm
    ·exact ha hm.symm
    ·exact tz hm
theorem IA{s:List UInt8}{c:UInt8}(h:c∈s):c ∉ (cutAt s c).1:=by
 simp only[cutAt];rw[if_pos (qo h)];exact tz
theorem U1(t:List UInt8):GN t=Sj (iL t):=by
 unfold GN iL;dsimp only;cases hp:hasPrefix t [47]with
 | true =>
  simp only[if_true,gU,gV,aD,if_false];rw[ui,← Al];rfl
 | false =>
  simp only[aD,if_false,jS,dM]
  by_cases hm:(58:UInt8)∈t
  ·have hc:=QJ hm;have hb:=IA hm;have e1:=oc hc;generalize ha:(cutAt t 58).1=a at *;generalize Z6:(cutAt t 58).2.1=b at *;have hs:hasSuffix t [47]=hasSuffix b [47]:=by conv=>lhs;rw[e1,E7]
   rw[hs];cases hsb:hasSuffix b [47]with
   | true =>
    simp only[if_true];have hbn:b≠[]:=by rintro rfl;simp[hasSuffix]at hsb
    have et:t.take (t.length - 1)=a++58::b.take (b.length - 1):=by
     have Qi:=dK.2 hbn;rw[e1];simp only[List.length_append,ab];rw[Uw,bJ (by omega)];have:a.length+(b.length+1) - 1 - a.length=(b.length - 1)+1:=by omega
     rw[this,cC]
    rw[ui,et,vg hb,← Al,hc]
   | false =>
    simp only[aD,if_false];rw[ui,ha,Z6,hc,← Al]
  ·have hm2:(58:UInt8) ∉ t.take (t.length - 1):=fun h=>hm (ct h);have e0:∀ k,uj k t=(nE,false):=fun k=>by rw[ui,xT hm];rfl
   have e2:uj 4 (t.take (t.length - 1))=(nE,false):=by rw[ui,xT hm2];rfl
   rw[xT hm,e0,e2];simp[Sj]
theorem Pb{s:List UInt8}(h0:s.getD 0 0=60):kC s=if Lib.indexByte s 62<0 then(nE,0)else
  (if(GN ((s.take (Lib.indexByte s 62).toNat).drop 1)).2=true then((GN ((s.take (Lib.indexByte s 62).toNat).drop 1)).1,Lib.indexByte s 62+1)else(nE,0)):=by
 have e:aX s=if Lib.indexByte s 62<0 then(nE,0,false)else((iL ((s.take (Lib.indexByte s 62).toNat).drop 1)).1,Lib.indexByte s 62+1,(iL ((s.take (Lib.indexByte s 62).toNat).drop 1)).2):=by
  simp only[aX,h0];rw[if_neg (by decide),if_pos trivial]
 rw[kC,e]
 by_cases hi:Lib.indexByte s 62<0
 ·simp[hi]
 ·rw[if_neg hi,if_neg hi,U1,Sj];generalize iL ((s.take (Lib.indexByte s 62).toNat).drop 1)=p;obtain⟨x,b⟩:=p;cases b<;>rfl
theorem LX{s:List UInt8}{c:UInt8}(h:hasPrefix s (eB c)=true):kC s=(⟨1,[c],0⟩,((eB c).length:Int)):=by
 have e:s=eB c++s.drop (eB c).length:=by
  simp only[hasPrefix,aC,decide_eq_true_eq,beq_iff_eq]at h
  conv=>lhs;rw[← List.take_append_drop (eB c).length s,h.2]
 rw[kC,e,Gh];simp
theorem uW{x:It}(hk:x.kind≠1)(h:bB none x=true):∃ r,cj x=60::r∨(cj x=123::(x.text++[125])∧isName x.text=true):=by
 simp only[bB,if_neg hk]at h;simp only[cj,if_neg hk]
 by_cases k5:x.kind=5
 ·rw[if_pos k5,aC]at h;refine⟨[],.inr ⟨?_,h.1⟩⟩;simp[k5]
 ·rw[if_neg k5]at h
  by_cases k2:x.kind=2
  ·exact⟨_,.inl (by rw[if_pos k2])⟩
  ·by_cases k4:x.kind=4
   ·exact⟨_,.inl (by rw[if_neg k2,if_neg (by omega),if_pos k4])⟩
   ·rw[if_neg (by omega)]at h
    by_cases k3:x.kind=3
    ·exact⟨_,.inl (by rw[if_neg k2,if_pos k3])⟩
    ·rw[if_neg k3]at h;simp at h
theorem LV{s:List UInt8}(hs:s≠[])(h60:s.getD 0 0≠60)(tL:s.getD 0 0≠123)(h:∀ c,hasPrefix s (eB c)=false):kC s=(nE,0):=by
 refine Ac ?_;apply bo;intro ht;rcases vf hs (by simpa using ht)with⟨c,_,he⟩ | ⟨hk,hf,he⟩
 ·have:=h c;rw[he]at this;simp[hasPrefix]at this
 ·obtain⟨r,h1 | ⟨h1,_⟩⟩:=uW hk hf
  ·rw[h1]at he;rw[he]at h60;simp at h60
  ·rw[h1]at he;rw[he]at tL;simp at tL
theorem Ly:∀ c:UInt8,(eB c).getD 0 0≠123∧eB c≠[]:=iw (by decide +kernel)
theorem LS{s:List UInt8}{k:Nat}(tL:s.getD 0 0=123)(qA:1≤k)(hk:k<s.length)(hb:s.getD k 0=125)(hn:isName ((s.take k).drop 1)=true):
  kC s=(⟨5,(s.take k).drop 1,0⟩,(k:Int)+1):=by
 have e:s=123::((s.take k).drop 1++125::s.drop (k+1)):=by
  cases s with
  | nil=>simp at hk
  | cons a s =>
   simp only[aE]at tL;subst tL;obtain⟨m,rfl⟩:∃ m,k=m+1:=⟨k - 1,by omega⟩;simp only[ab]at hk;have hm:m<s.length:=by omega
   simp only[cC,gN,mg];congr 1
   conv=>lhs;rw[← List.take_append_drop m s]
   congr 1;rw[eU hm];congr 1;rw[aT,List.getD_eq_getElem?_getD,aw hm]at hb;simpa using hb
 have hl:((s.take k).drop 1).length=k - 1:=by rw[bH,aR];omega
 have:=Gf ((s.take k).drop 1) (s.drop (k+1)) hn;rw[← e]at this;rw[kC,this];simp only[if_true,hl];congr 1;omega
theorem GO{s:List UInt8}(tL:s.getD 0 0=123)(h:∀ k,1≤k→k<s.length→k≤25→¬ (s.getD k 0=125∧isName ((s.take k).drop 1)=true)):kC s=(nE,0):=by
 have hs:s≠[]:=by rintro rfl;simp at tL
 refine Ac ?_;apply bo;intro ht;rcases vf hs (by simpa using ht)with⟨c,_,he⟩ | ⟨hk,hf,he⟩
 ·have h1:=Ly c;rw[he]at tL;cases hw:eB c with
  | nil=>exact h1.2 hw
  | cons a w =>
   rw[hw]at tL h1;exact h1.1 (by simpa using tL)
 ·obtain⟨r,h1 | ⟨h1,hn⟩⟩:=uW hk hf
  ·rw[h1]at he;rw[he]at tL;simp at tL
  ·rw[h1]at he;generalize (aX s).1.text=t at *
   have hl:t.length≤24:=by
    cases t with
    | nil=>simp
    | cons c t =>
     simp only[isName,aC,decide_eq_true_eq]at hn;exact hn.1.1
   generalize s.drop (aX s).2.1.toNat=d at he;have e:s=(123::t)++125::d:=by rw[he];simp
   refine h (t.length+1) (by omega) (by rw[e];simp) (by omega) ⟨?_,?_⟩
   ·rw[e];rw[show t.length+1=(123::t).length by simp,abB]
   ·rw[e];rw[show t.length+1=(123::t).length by simp];simpa using hn
def iW:Nat→List It→Int→List UInt8→Int→List It×Int×Int
 | 0,_,_,_,at'=>([],at',2)
 | _+1,f,_,[],_=>(f,0,0)
 | n+1,f,len,c::l,at' =>
  let p:=kC (c::l)
  if p.2=0 then([],at',2)else if p.1.kind≠1∧fE f p.1≠0 then([],at',fE f p.1)else
  let g:=normalize (f++[p.1])
  if 512<g.length∨1024<len+1 then([],at',3)else iW n g (len+1) ((c::l).drop p.2.toNat) (at'+p.2)
theorem ER(f:List It)(x:It):rM (f++[x])=cD (rM f) x:=by simp[rM]
theorem iN{f:List It}{x:It}(h:normalize f=f):normalize (f++[x])=cD f x:=by
 rw[← oO,ER,oO,h]
theorem EP{f:List It}{t:List UInt8}{c:UInt8}(h:∀ x,f.getLast?=some x→x.kind≠1):cD (closed f t) ⟨1,[c],0⟩=closed f (t++[c]):=by
 by_cases ht:t=[]
 ·subst ht;rw[eE];simp only[cD,closed,ne_eq,not_true,if_false,ak];rw[if_neg (by simp),if_neg (by simp)];cases hg:f.getLast? with
  | none=>rfl
  | some y=>simp only[if_neg (h y hg)]
 ·simp[cD,closed,ht]
theorem ox{f:List It}{x:It}(h:x.kind≠1):cD f x=f++[x]:=by simp[cD,h]
theorem Ke{f:List It}{t:List UInt8}(h3:normalize f=f)(h:∀ x,f.getLast?=some x→x.kind≠1):normalize (closed f t)=closed f t:=by
 by_cases ht:t=[]
 ·subst ht;rw[eE];exact h3
 ·have e:closed f t=f++[⟨1,t,0⟩]:=by simp[closed,ht]
  rw[e,iN h3];simp only[cD,ne_eq,not_true,if_false,if_neg ht];cases hg:f.getLast? with
  | none=>rfl
  | some y=>simp only[if_neg (h y hg)]
theorem Pc:∀ (n:Nat) (f:List It) (t l:List UInt8) (at':Int),bt [] (closed f t)=0→(∀ x,f.getLast?=some x→x.kind≠1)→normalize f=f →
  iW n (closed f t) ((total f+t.length:Nat):Int) l at'=jl n (oI f t) l at':=by
 intro n
 induction n with
 | zero=>intros;rfl
 | succ n ih =>
  intro f t l at' h1 h2 h3;have h4:=Ke (t:=t) h3 h2;cases l with
  | nil=>simp only[iW,jl,wX]
  | cons c l =>
   have hf:bt [] f=0:=by
    simp only[closed]at h1;split at h1
    ·exact h1
    ·rw[dN]at h1;exact h1.1
   simp only[iW,jl]
   by_cases he:(aX (c::l)).2.2=true
   ·have fD:=(sW (s:=c::l) (by simp)).2.2 he;have hr:kC (c::l)=((aX (c::l)).1,(aX (c::l)).2.1):=by rw[kC,if_pos he]
    simp only[hr,he,lj,if_false];rw[if_neg (by omega)];rcases vf (s:=c::l) (by simp) he with⟨b,e0,_⟩ | ⟨e0,e1,_⟩
    ·rw[e0,wZ,if_neg (by simp),iN h4,EP h2]
     have ht:(512<(closed f (t++[b])).length∨(1024:Int)<((total f+t.length:Nat):Int)+1)↔jJ f t ⟨1,[b],0⟩:=by
      simp only[jJ,s7,List.length_append,ab,ah,ne_eq,not_true,false_or]
      by_cases h0:t.length=0
      ·rw[if_pos (by omega),if_neg (by omega),if_pos h0];omega
      ·rw[if_pos (by omega),if_pos (by omega),if_neg h0];omega
     by_cases hm:jJ f t ⟨1,[b],0⟩
     ·rw[if_pos (ht.2 hm),if_pos hm];simp
     ·rw[if_neg (fun h=>hm (ht.1 h)),if_neg hm];simp only[ne_eq,not_true,if_false];have aQ:closed f (t++[b])=f++[⟨1,t++[b],0⟩]:=by simp[closed]
      have hv:bt [] (closed f (t++[b]))=0:=by
       rw[aQ,dN];refine⟨hf,?_,by simp[cI]⟩;simp only[bB,if_true,ak,aC];refine⟨⟨by simp,by simp⟩,?_⟩;cases hg:f.getLast? with
       | none=>rfl
       | some y=>simpa using h2 y hg
      have:=ih f (t++[b]) ((c::l).drop (aX (c::l)).2.1.toNat) (at'+(aX (c::l)).2.1) hv h2 h3;rw[← this];congr 1;simp;omega
    ·rw[wY _ _ _ e0,xY hf e1]
     have DD:fE (closed f t) (aX (c::l)).1=if(cI (aX (c::l)).1&&!fits (closed f t) (aX (c::l)).1)=true then 7 else 0:=by
      simp only[fE,jq e0,e1];simp
     rw[DD]
     by_cases aQ:(cI (aX (c::l)).1&&!fits (closed f t) (aX (c::l)).1)=true
     ·simp[aQ,e0]
     ·rw[if_neg aQ,if_neg aQ,if_neg (by simp),iN h4,ox e0]
      have ht:(512<(closed f t++[(aX (c::l)).1]).length∨(1024:Int)<((total f+t.length:Nat):Int)+1)↔jJ f t (aX (c::l)).1:=by
       simp only[jJ,e0,s7,List.length_append,ab,ah,ne_eq,not_false_eq_true,true_or,if_true];omega
      by_cases hm:jJ f t (aX (c::l)).1
      ·rw[if_pos (ht.2 hm),if_pos hm];simp
      ·rw[if_neg (fun h=>hm (ht.1 h)),if_neg hm];simp only[ne_eq,not_true,if_false]
       have hv:bt [] (closed (closed f t++[(aX (c::l)).1]) [])=0:=by
        rw[eE,dN];refine⟨h1,?_,by simpa using aQ⟩;rw[jq e0];exact e1
       have hn:normalize (closed f t++[(aX (c::l)).1])=closed f t++[(aX (c::l)).1]:=by
        rw[iN h4,ox e0]
       have:=ih (closed f t++[(aX (c::l)).1]) [] ((c::l).drop (aX (c::l)).2.1.toNat) (at'+(aX (c::l)).2.1) hv (by
        intro x hx;simp only[iH,gd,ma,aa]at hx;subst hx;exact e0) hn
       rw[← this,eE];congr 1;have hw:wid (aX (c::l)).1=1:=by simp[wid,e0]
       simp[jj,nf,pJ,hw]
   ·have he:(aX (c::l)).2.2=false:=by simpa using he
    rw[Ac he];simp[he]
theorem CB:∀ (n:Nat) (f:List It) (len:Int) (l:List UInt8) (at':Int),(iW n f len l at').2.2=0→(iW n f len l at').2.1=0
 | 0,_,_,_,_,h=>by simp[iW]at h
 | n+1,f,len,[],at',_=>rfl
 | n+1,f,len,c::l,at',h=>by
  simp only[iW]at h ⊢;split
  ·rename_i h1;rw[if_pos h1]at h;simp at h
  ·rename_i h1;rw[if_neg h1]at h;split
   ·rename_i h2;rw[if_pos h2]at h;exact absurd h h2.2
   ·rename_i h2;rw[if_neg h2]at h;split
    ·rename_i h3;rw[if_pos h3]at h;simp at h
    ·rename_i h3;rw[if_neg h3]at h;exact CB n _ _ _ _ h
theorem ue:∀ (n:Nat) (f:List It) (len:Int) (l:List UInt8) (at':Int),(iW n f len l at').2.2≠0→(iW n f len l at').1=[]
 | 0,_,_,_,_,_=>rfl
 | n+1,f,len,[],at',h=>by simp[iW]at h
 | n+1,f,len,c::l,at',h=>by
  simp only[iW]at h ⊢;split
  ·rfl
  ·rename_i h1;rw[if_neg h1]at h;split
   ·rfl
   ·rename_i h2;rw[if_neg h2]at h;split
    ·rfl
    ·rename_i h3;rw[if_neg h3]at h;exact ue n _ _ _ _ h
theorem DJ:∀ (f out:List It),aM (f.foldl cD out)≤aM out+aM f∧(f.foldl cD out).length≤out.length+f.length
 | [],out=>by simp[aM]
 | x::f,out=>by
  have h1:=qh out x;have h2:=DJ f (cD out x);simp only[bd,aM,ab];omega
theorem Mn(f:List It):aM (normalize f)≤aM f∧(normalize f).length≤f.length:=by
 have h:=DJ f [];rw[← oO];simpa[rM,aM]using h
theorem EX{x:It}(hk:x.kind≠1)(h:bB none x=true):x.text.length≤(cj x).length:=by
 simp only[bB,if_neg hk]at h;simp only[cj,if_neg hk]
 by_cases k2:x.kind=2
 ·simp[k2];omega
 ·by_cases k3:x.kind=3
  ·simp[k3];omega
  ·by_cases k4:x.kind=4
   ·simp[k4];omega
   ·by_cases k5:x.kind=5
    ·simp[k5];omega
    ·simp[k2,k3,k4,k5]at h
theorem LR{s:List UInt8}(hs:s≠[]):(kC s).2≠0→1≤(kC s).2∧(kC s).2≤s.length∧((kC s).1.text.length:Int)≤(kC s).2:=by
 have h:=sW hs;simp only[kC]
 by_cases he:(aX s).2.2=true
 ·rw[if_pos he];intro _;have h2:=h.2.2 he;refine⟨h2.1,h2.2,?_⟩;have hl:(s.drop (aX s).2.1.toNat).length=s.length - (aX s).2.1.toNat:=bH ..;rcases vf hs he with⟨c,e,_⟩ | ⟨e0,e1,e2⟩
  ·rw[e];simp;omega
  ·have h3:=EX e0 e1;have h4:=congrArg List.length e2;rw[List.length_append,hl]at h4;simp only;omega
 ·rw[if_neg he];simp
def Ad(s:List UInt8):List It×Int×Int:=iW (s.length+1) [] 0 s 0
theorem yy(s:List UInt8):Ad s=parse s:=by
 have:=Pc (s.length+1) [] [] s 0 (by simp[closed,bt]) (by simp) rfl;rw[eE]at this;exact this
theorem F9:∀ (m l:List Int),∃ r,m.foldl jE l=l++r
 | [],l=>⟨[],by simp⟩
 | n::m,l=>by
  obtain⟨r,hr⟩:=F9 m (jE l n);simp only[bd,hr]
  by_cases h:l.contains n=true
  ·exact⟨r,by simp only[jE,h,if_true]⟩
  ·exact⟨n::r,by simp only[jE,h];simp⟩
theorem KQ:∀ (m l:List Int),(∀ n∈m,n∈l)→m.foldl jE l=l
 | [],_,_=>rfl
 | n::m,l,h=>by
  have e:jE l n=l:=by
   have:l.contains n=true:=by simpa using h n (by simp)
   simp only[jE,this,if_true]
  simp only[bd,e];exact KQ m l fun k hk=>h k (by simp[hk])
theorem Jf:∀ (f1 f2 t1 t2:List Int) (x:Int),f1.length=t1.length→x∈f1→Eu (f1++f2) (t1++t2) x=Eu f1 t1 x
 | [],_,_,_,_,_,h=>by simp at h
 | a::f1,f2,[],t2,x,hl,_=>by simp at hl
 | a::f1,f2,b::t1,t2,x,hl,h=>by
  simp only[aq,Eu]
  by_cases hx:x=a
  ·rw[if_pos hx,if_pos hx]
  ·rw[if_neg hx,if_neg hx];refine Jf f1 f2 t1 t2 x (by simpa using hl) ?_;rcases aU.1 h with h | h
   ·exact absurd h hx
   ·exact h
theorem IC(a b:Nat):∃ r,cu (a+b)=cu a++r:=by
 refine⟨((List.range b).map (a+·)).map fun(i:Nat)=>(i:Int)+1,?_⟩;simp only[cu,List.range_add,List.map_append]
theorem sY(a:Nat):(cu a).length=a:=by simp[cu]
theorem ZA{s:List It}{x:It}(hx:x∈s)(ht:cI x=true):x.id∈numbers s:=by
 simp only[numbers,jB];refine rX _ ?_;simp only[bK,cV];exact⟨x,⟨hx,ht⟩,rfl⟩
theorem DM{α β:Type}{f g:α→Option β}:∀ {l:List α},(∀ x∈l,f x=g x)→l.filterMap f=l.filterMap g
 | [],_=>rfl
 | x::l,h=>by
  simp only[kz,h x (by simp)];rw[DM fun y hy=>h y (by simp[hy])]
theorem M9(s t:List It):fZ s t=fZ s s:=by
 have e0:∀ l m:List Int,fj l m=m.foldl jE l:=fun _ _=>rfl;obtain⟨r,hr⟩:=F9 (numbers t) (numbers s);have e1:bG s t=numbers s++r:=by simp only[bG,e0,hr]
 have e2:bG s s=numbers s:=by simp only[bG,e0];exact KQ _ _ fun _ h=>h
 obtain⟨q,hq⟩:=IC (numbers s).length r.length;simp only[fZ,e1,e2,List.length_append,hq,rename];congr 1;simp only[renamed];refine DM fun x hx=>?_;simp only[NA]
 by_cases ht:cI x=true
 ·rw[if_pos ht,if_pos ht,Jf _ _ _ _ _ (sY _).symm (ZA hx ht)]
 ·rw[if_neg ht,if_neg ht]
theorem K9(s:List It):gT s s=fZ s s:=rfl
theorem zI{e:En}(h:cy e=0):cy (asked e)=0:=by
 simp only[cy]at h ⊢;split at h
 ·rename_i h1;exact absurd h h1
 ·rename_i h1;split at h
  ·rename_i h2;exact absurd h h2
  ·split at h
   ·simp at h
   ·rename_i h3;split at h
    ·rename_i h4;exact absurd h h4
    ·rename_i h4;split at h
     ·rename_i h5;exact absurd h h5
     ·rename_i h5;have hc:mA e=true:=by simpa using h3
      simp only[mA,aC]at hc
      have zk:mA (asked e)=true:=by
       simp only[mA,asked,aC,K9];rw[← M9 e.source e.target];exact⟨⟨hc.1.1,hc.1.2⟩,hc.1.2⟩
      have hn:(named (asked e).cQ&&named (asked e).cn)=true:=rfl
      rw[if_neg (show ¬ bO (asked e).source≠0 from h1),if_neg (show ¬ bO (asked e).target≠0 from h1),if_neg (by rw[zk];simp),
       if_neg (show ¬ (parse (asked e).bS).2.2≠0 from h4),if_neg (show ¬ (parse (asked e).next).2.2≠0 from h5),if_neg (by rw[hn];simp),if_neg (by simp[asked])]
theorem J7{o:aJ}(h:cw o=0)(hv:cy (looked o)=0):bE o=dL (asked o.entry):=by
 simp only[bE,h,ne_eq,not_true,if_false,looked]at hv ⊢
 by_cases hk:o.kind≠2
 ·rw[if_pos hk]at hv ⊢;simp only[dL,hv,zI hv,ne_eq,not_true,if_false];rfl
 ·rw[if_neg hk]
def tg(f:List It):List It:=f.filter cI
theorem fW(a b:List It):tg (a++b)=tg a++tg b:=by simp[tg]
theorem tU{x:It}(h:cI x=true):tg [x]=[x]:=by simp[tg,h]
theorem vE{x:It}(h:cI x=false):tg [x]=[]:=by simp[tg,h]
theorem xN(t:List UInt8)(i:Int):cI ⟨1,t,i⟩=false:=by simp[cI]
theorem Bj{x:It}(h:x.kind=1):cI x=false:=by simp[cI,h]
theorem GH{x:It}(h1:x.kind=1)(h2:x.id=0):(⟨1,x.text,0⟩:It)=x:=by
 obtain⟨k,t,i⟩:=x;simp only at h1 h2;subst h1;subst h2;rfl
theorem vY{p:Option It}{x:It}(hk:x.kind=1)(h:bB p x=true):x.text≠[]∧x.id=0∧∀ y,p=some y→y.kind≠1:=by
 simp only[bB,hk,if_true,aC,cm,beq_eq_false_iff_ne,beq_iff_eq]at h;refine⟨h.1.1,h.1.2,fun y hy=>?_⟩;subst hy;simpa using h.2
theorem pB{p:Option It}{t:List UInt8}(h1:t≠[])(h2:∀ y,p=some y→y.kind≠1):bB p ⟨1,t,0⟩=true:=by
 simp only[bB,if_true,aC,cm,beq_eq_false_iff_ne,beq_iff_eq];refine⟨⟨h1,trivial⟩,?_⟩;cases p with
 | none=>rfl
 | some y=>simpa using h2 y rfl
theorem qg{f:List It}:bt [] f=0→normalize f=f:=by
 refine B1 (p:=fun f=>bt [] f=0→normalize f=f) (fun _=>rfl) ?_ f;intro l x ih h;obtain⟨h1,h2,_⟩:=(dN l [] x).1 h;simp only[ak]at h2;rw[iN (ih h1)]
 by_cases hk:x.kind=1
 ·obtain⟨g1,g2,g3⟩:=vY hk h2;simp only[cD,hk,ne_eq,not_true,if_false,if_neg g1];cases hg:l.getLast? with
  | none=>simp only[GH hk g2]
  | some y=>simp only[if_neg (g3 y hg),GH hk g2]
 ·exact ox hk
theorem Cc(f:List It)(x:It):fits f x=fits (tg f) x:=by
 induction f with
 | nil=>rfl
 | cons y f ih =>
  by_cases h:cI y=true
  ·simp only[fits,tg,fQ,h,if_true,kM]at ih ⊢;rw[ih]
  ·have h:cI y=false:=by simpa using h
   have hb:fa x y=false:=by simp[fa,h]
   simp only[fits,tg,fQ,h,kM,hb,aD,if_false,jS,dM]at ih ⊢;exact ih
theorem pO{f:List It}(t:List UInt8)(h:bt [] f=0):bt [] (normalize (f++[⟨1,t,0⟩]))=0∧tg (normalize (f++[⟨1,t,0⟩]))=tg f:=by
 rw[iN (qg h)]
 by_cases ht:t=[]
 ·have e:cD f ⟨1,t,0⟩=f:=by simp[cD,ht]
  rw[e];exact⟨h,rfl⟩
 ·revert h;refine B1 (p:=fun f=>bt [] f=0→bt [] (cD f ⟨1,t,0⟩)=0∧tg (cD f ⟨1,t,0⟩)=tg f) ?_ ?_ f
  ·intro _;have e:cD [] ⟨1,t,0⟩=[]++[⟨1,t,0⟩]:=by simp[cD,ht]
   rw[e,dN,fW,vE (xN t 0),bf];exact⟨⟨rfl,pB ht (by simp),by simp[cI]⟩,rfl⟩
  ·intro l y _ h;obtain⟨h1,h2,h3⟩:=(dN l [] y).1 h
   by_cases hy:y.kind=1
   ·have e:cD (l++[y]) ⟨1,t,0⟩=l++[⟨1,y.text++t,0⟩]:=by simp[cD,ht,hy]
    obtain⟨_,_,g3⟩:=vY hy h2;rw[e,dN,fW,fW,vE (xN _ 0),vE (Bj hy)];exact⟨⟨h1,pB (by simp[ht]) g3,by simp[cI]⟩,rfl⟩
   ·have e:cD (l++[y]) ⟨1,t,0⟩=(l++[y])++[⟨1,t,0⟩]:=by simp[cD,ht,hy]
    rw[e,dN,fW,vE (xN _ 0),bf];refine⟨⟨h,pB ht fun z hz=>?_,by simp[cI]⟩,rfl⟩;simp only[ak,iH,gd,ma,aa]at hz;subst hz;exact hy
theorem rL{f:List It}{x:It}(h:bt [] f=0)(hk:x.kind≠1)(hx:bB none x=true)(hf:cI x=true→fits f x=true):
  normalize (f++[x])=f++[x]∧bt [] (f++[x])=0:=by
 refine⟨by rw[iN (qg h),ox hk],?_⟩;rw[dN];refine⟨h,by rw[jq hk];exact hx,?_⟩;rw[ak];cases ht:cI x with
 | false=>rfl
 | true=>rw[hf ht];rfl
structure BD (f opn:List It) (n:Int):Prop where
 err:bt [] f=0
 ids:∀ z∈tg f,1≤z.id∧z.id≤n
 nd:(opn.map (·.id)).Nodup
 op:∀ y∈opn,isName (dm y.text)=true∧1≤y.id∧y.id≤n∧∀ z∈tg f,z.id=y.id→z.kind=2∧z.text=y.text
theorem BD.nil:BD [] [] 0:=⟨rfl,by simp[tg],by simp,by simp⟩
theorem BD.same{f g opn:List It}{n:Int}(h:BD f opn n)(h1:bt [] g=0)(h2:tg g=tg f):BD g opn n :=
 ⟨h1,by rw[h2];exact h.ids,h.nd,by rw[h2];exact h.op⟩
theorem BD.text{f opn:List It}{n:Int}(h:BD f opn n)(t:List UInt8):BD (normalize (f++[⟨1,t,0⟩])) opn n :=
 h.same (pO t h.err).1 (pO t h.err).2
theorem BD.slot{f opn:List It}{n:Int}(h:BD f opn n){t:List UInt8}(ht:isName t=true):BD (normalize (f++[⟨5,t,0⟩])) opn n:=by
 obtain⟨e,he⟩:=rL (x:=⟨5,t,0⟩) h.err (by simp) (by simp[bB,ht]) (by simp[cI]);rw[e];exact h.same he (by rw[fW,vE (by simp[cI]),bf])
theorem KT{f:List It}{x:It}(h:∀ z∈tg f,z.id≠x.id):fits f x=true:=by
 rw[Cc];simp only[fits,bI];intro z hz;have:=h z hz;simp[fa,this]
theorem BD.empty{f opn:List It}{n:Int}(h:BD f opn n){t:List UInt8}(ht:db t=true)(h0:0≤n)(h9:n<999):BD (normalize (f++[⟨4,t,n+1⟩])) opn (n+1):=by
 have hT:cI ⟨4,t,n+1⟩=true:=by simp[cI]
 obtain⟨e,he⟩:=rL (x:=⟨4,t,n+1⟩) h.err (by simp) (by simp[bB,ht];omega) (fun _=>KT fun z hz=>by have:=h.ids z hz;simp only;omega);rw[e];refine⟨he,?_,h.nd,?_⟩
 ·intro z hz;rw[fW,tU hT,List.mem_append,cv]at hz;rcases hz with hz | rfl
  ·have:=h.ids z hz;omega
  ·simp only;omega
 ·intro y hy;obtain⟨o1,o2,o3,o4⟩:=h.op y hy;refine⟨o1,o2,by omega,fun z hz UD=>?_⟩;rw[fW,tU hT,List.mem_append,cv]at hz;rcases hz with hz | rfl
  ·exact o4 z hz UD
  ·simp only at UD;omega
theorem BD.opens{f opn:List It}{n:Int}(h:BD f opn n){t:List UInt8}(ht:db t=true)(hn:isName (dm t)=true)(h0:0≤n)(h9:n<999):
  BD (normalize (f++[⟨2,t,n+1⟩])) (opn++[⟨2,t,n+1⟩]) (n+1):=by
 have hT:cI ⟨2,t,n+1⟩=true:=by simp[cI]
 obtain⟨e,he⟩:=rL (x:=⟨2,t,n+1⟩) h.err (by simp) (by simp[bB,ht];omega) (fun _=>KT fun z hz=>by have:=h.ids z hz;simp only;omega);rw[e];refine⟨he,?_,?_,?_⟩
 ·intro z hz;rw[fW,tU hT,List.mem_append,cv]at hz;rcases hz with hz | rfl
  ·have:=h.ids z hz;omega
  ·simp only;omega
 ·rw[List.map_append,ru];refine⟨h.nd,by simp,?_⟩;intro a ha b hb;obtain⟨y,hy,rfl⟩:=bK.1 ha;simp only[ay,az,cv]at hb;have:=(h.op y hy).2.2.1;omega
 ·intro y hy;rw[List.mem_append,cv]at hy;rcases hy with hy | rfl
  ·obtain⟨o1,o2,o3,o4⟩:=h.op y hy;refine⟨o1,o2,by omega,fun z hz UD=>?_⟩;rw[fW,tU hT,List.mem_append,cv]at hz;rcases hz with hz | rfl
   ·exact o4 z hz UD
   ·simp only at UD;omega
  ·refine⟨hn,by simp only;omega,by simp only;omega,fun z hz UD=>?_⟩;rw[fW,tU hT,List.mem_append,cv]at hz;rcases hz with hz | rfl
   ·have:=h.ids z hz;simp only at UD;omega
   ·exact⟨rfl,rfl⟩
theorem BD.close{f opn:List It}{y:It}{n:Int}(h:BD f (opn++[y]) n)(h9:n≤999):
  BD (f++[⟨3,dm y.text,y.id⟩]) opn n∧normalize (f++[⟨3,dm y.text,y.id⟩])=f++[⟨3,dm y.text,y.id⟩]:=by
 have hT:cI ⟨3,dm y.text,y.id⟩=true:=by simp[cI]
 obtain⟨o1,o2,o3,o4⟩:=h.op y (by simp)
 obtain⟨e,he⟩:=rL (x:=⟨3,dm y.text,y.id⟩) h.err (by simp) (by simp[bB,o1];omega) (fun _=>by
  rw[Cc];simp only[fits,bI];intro z hz
  by_cases hi:z.id=y.id
  ·obtain⟨z1,z2⟩:=o4 z hz hi;simp[fa,z1,z2]
  ·simp[fa,hi])
 have KI:=h.nd;rw[List.map_append,ru]at KI;refine⟨⟨he,?_,KI.1,?_⟩,e⟩
 ·intro z hz;rw[fW,tU hT,List.mem_append,cv]at hz;rcases hz with hz | rfl
  ·exact h.ids z hz
  ·exact⟨o2,o3⟩
 ·intro x hx;obtain⟨p1,p2,p3,p4⟩:=h.op x (by simp[hx]);refine⟨p1,p2,p3,fun z hz UD=>?_⟩;rw[fW,tU hT,List.mem_append,cv]at hz;rcases hz with hz | rfl
  ·exact p4 z hz UD
  ·have:=KI.2.2 x.id (bK.2 ⟨x,hx,rfl⟩) y.id (by simp);exact absurd UD.symm this
structure Nk (pre f:List It):Prop where
 err:bt [] f=0
 tags:tg f=tg pre
theorem Nk.nil:Nk [] []:=⟨rfl,rfl⟩
theorem Nk.more{pre f:List It}(h:Nk pre f)(t:List UInt8):Nk pre (normalize (f++[⟨1,t,0⟩])) :=
 ⟨(pO t h.err).1,(pO t h.err).2.trans h.tags⟩
theorem Nk.text{pre f:List It}{x:It}(h:Nk pre f)(hk:x.kind=1)(t:List UInt8):Nk (pre++[x]) (normalize (f++[⟨1,t,0⟩])) :=
 ⟨(pO t h.err).1,by rw[(pO t h.err).2,h.tags,fW,vE (Bj hk),bf]⟩
theorem Nk.item{pre f rest:List It}{x:It}(h:Nk pre f)(hs:bt [] (pre++x::rest)=0)(hk:x.kind≠1):Nk (pre++[x]) (normalize (f++[x])):=by
 rw[oW,ri]at hs;obtain⟨_,h2,h3,_⟩:=hs;rw[ak]at h2 h3
 obtain⟨e,he⟩:=rL (x:=x) h.err hk (by rw[← jq (p:=pre.getLast?) hk];exact h2) (fun ht=>by
  rw[ht,dM]at h3;rw[Cc,h.tags,← Cc];simpa using h3)
 rw[e];exact⟨he,by rw[fW,fW,h.tags]⟩
theorem Jg:∀ (l:List Int) (k:Int) (x:Int),Eu l ((List.range l.length).map fun(i:Nat)=>(i:Int)+k) x=if x∈l then some ((l.idxOf x:Int)+k)else none
 | [],k,x=>by simp[Eu]
 | a::l,k,x=>by
  have e:(List.range (l.length+1)).map (fun(i:Nat)=>(i:Int)+k)=k::(List.range l.length).map fun(i:Nat)=>(i:Int)+(k+1):=by
   rw[rq,ay,jM];refine congr (congrArg _ (by omega)) (dE fun i _=>?_);simp only[Function.comp];omega
  rw[ab,e];simp only[Eu]
  by_cases h:x=a
  ·subst h;simp
  ·have h2:(a==x)=false:=by simpa using fun e=>h e.symm
   rw[if_neg h,Jg l (k+1) x,El,h2]
   by_cases h3:x∈l
   ·rw[if_pos h3,if_pos (cY _ h3)];congr 1;simp only[cond_false];omega
   ·rw[if_neg h3,if_neg (by simp[h,h3])]
theorem OX(l:List Int)(x:Int):Eu l (cu l.length) x=if x∈l then some ((l.idxOf x:Int)+1)else none:=Jg l 1 x
def tO(l:List Int)(x:It):It:=if cI x=true then⟨x.kind,x.text,(l.idxOf x.id:Int)+1⟩else x
theorem Ki(l:List Int)(x:It):(tO l x).kind=x.kind:=by simp only[tO];split<;>rfl
theorem Sn(l:List Int)(x:It):(tO l x).text=x.text:=by simp only[tO];split<;>rfl
theorem B6(l:List Int)(x:It):cI (tO l x)=cI x:=by simp only[cI,Ki]
theorem A0{l:List Int}{f:List It}(h:∀ x∈tg f,x.id∈l):renamed f l (cu l.length)=f.map (tO l):=by
 have key:∀ x∈f,NA l (cu l.length) x=some (tO l x):=by
  intro x hx;simp only[NA,tO]
  by_cases ht:cI x=true
  ·have:=h x (cV.2 ⟨hx,ht⟩);rw[if_pos ht,if_pos ht,OX,if_pos this];rfl
  ·rw[if_neg ht,if_neg ht]
 simp only[renamed];rw[DM key];clear key h
 induction f with
 | nil=>rfl
 | cons x f ih=>simp only[kz,ay,ih]
theorem Ot{l:List Int}{x y:Int}(hx:x∈l)(hy:y∈l)(h:l.idxOf x=l.idxOf y):x=y:=by
 induction l with
 | nil=>simp at hx
 | cons a l ih =>
  simp only[El]at h
  by_cases h1:a=x
  ·by_cases h2:a=y
   ·rw[← h1,h2]
   ·have e1:(a==x)=true:=by simp[h1]
    have e2:(a==y)=false:=by simp[h2]
    rw[e1,e2]at h;simp at h
  ·have e1:(a==x)=false:=by simp[h1]
   by_cases h2:a=y
   ·have e2:(a==y)=true:=by simp[h2]
    rw[e1,e2]at h;simp at h
   ·have e2:(a==y)=false:=by simp[h2]
    rw[e1,e2]at h;simp only[cond_false]at h;refine ih ?_ ?_ (by omega)
    ·rcases aU.1 hx with h3 | h3
     ·exact absurd h3.symm h1
     ·exact h3
    ·rcases aU.1 hy with h3 | h3
     ·exact absurd h3.symm h2
     ·exact h3
theorem Sq{l:List Int}{x:It}{p:Option It}(hx:cI x=true→x.id∈l)(hl:l.length≤999)(h:bB p x=true):bB (p.map (tO l)) (tO l x)=true:=by
 by_cases ht:cI x=true
 ·have fk:l.idxOf x.id<l.length:=Yk (hx ht)
  have hk:x.kind=2∨x.kind=3∨x.kind=4:=by
   simp only[cI,gm,beq_iff_eq]at ht;omega
  have e:tO l x=⟨x.kind,x.text,(l.idxOf x.id:Int)+1⟩:=by rw[tO,if_pos ht]
  rw[e];simp only[bB]at h ⊢;rcases hk with hk | hk | hk
  ·simp[hk]at h ⊢;exact⟨⟨h.1.1,by omega⟩,by omega⟩
  ·simp[hk]at h ⊢;exact⟨⟨h.1.1,by omega⟩,by omega⟩
  ·simp[hk]at h ⊢;exact⟨⟨h.1.1,by omega⟩,by omega⟩
 ·have e:tO l x=x:=by rw[tO,if_neg ht]
  rw[e]
  by_cases hk:x.kind=1
  ·obtain⟨g1,g2,g3⟩:=vY hk h;rw[← GH hk g2];refine pB g1 fun y hy=>?_;obtain⟨z,hz,rfl⟩:=ar.1 hy;rw[Ki];exact g3 z hz
  ·rw[jq hk]at h ⊢;exact h
theorem Sp{l:List Int}{x:It}{f:List It}(ht:cI x=true)(hx:x.id∈l)(hf:∀ z∈tg f,z.id∈l)(h:fits f x=true):fits (f.map (tO l)) (tO l x)=true:=by
 simp only[fits,bI,bK]at h ⊢;rintro _ ⟨y,hy,rfl⟩;have hb:=h y hy
 by_cases Wq:cI y=true
 ·have hyl:=hf y (cV.2 ⟨hy,Wq⟩);have e1:tO l x=⟨x.kind,x.text,(l.idxOf x.id:Int)+1⟩:=by rw[tO,if_pos ht]
  have e2:tO l y=⟨y.kind,y.text,(l.idxOf y.id:Int)+1⟩:=by rw[tO,if_pos Wq]
  have e3:((l.idxOf y.id:Int)+1 != (l.idxOf x.id:Int)+1)=(y.id != x.id):=by
   by_cases hi:y.id=x.id
   ·rw[hi];simp
   ·have:l.idxOf y.id≠l.idxOf x.id:=fun e=>hi (Ot hyl hx e);have h1:(y.id != x.id)=true:=by simpa using hi
    rw[h1];simp;omega
  have e4:cI (tO l y)=cI y:=B6 l y;simp only[fa,e4]at hb ⊢;rw[e1,e2];simp only;rw[e3];exact hb
 ·have Wq:cI y=false:=by simpa using Wq
  simp[fa,B6,Wq]
theorem vQ{l:List Int}(hl:l.length≤999){f:List It}(hf:∀ x∈tg f,x.id∈l)(h:bt [] f=0):bt [] (f.map (tO l))=0:=by
 revert hf h;refine B1 (p:=fun f=>(∀ x∈tg f,x.id∈l)→bt [] f=0→bt [] (f.map (tO l))=0) (fun _ _=>rfl) ?_ f;intro f x ih hf h;obtain⟨h1,h2,h3⟩:=(dN f [] x).1 h;rw[ak]at h2 h3;have hf1:∀ z∈tg f,z.id∈l:=fun z hz=>hf z (by rw[fW];exact oo _ hz);have tC:cI x=true→x.id∈l:=fun ht=>hf x (by rw[fW,tU ht];simp);rw[List.map_append,ay,az,dN];refine⟨ih hf1 h1,?_,?_⟩
 ·rw[ak,List.getLast?_map];exact Sq tC hl h2
 ·rw[ak,B6];cases ht:cI x with
  | false=>rfl
  | true =>
   rw[ht,dM]at h3;rw[Sp ht (tC ht) hf1 (by simpa using h3)];rfl
theorem AV(l:List Int)(f:List It):aM (f.map (tO l))=aM f:=by
 induction f with
 | nil=>rfl
 | cons x f ih=>simp only[ay,aM,Sn,ih]
def se(f:List It):List Int:=(tg f).map (·.id)
theorem Dd(f:List It):numbers f=(se f).foldl jE []:=by
 simp only[numbers,jB];rfl
theorem AL(s t:List It):bG s t=(se (s++t)).foldl jE []:=by
 rw[← qd,Dd]
theorem wb(s t:List It):(∀ x∈tg s,x.id∈bG s t)∧∀ x∈tg t,x.id∈bG s t:=by
 rw[AL];constructor<;>intro x hx<;>refine rX _ ?_<;>simp only[se,fW,List.map_append,List.mem_append,bK]
 ·exact .inl ⟨x,hx,rfl⟩
 ·exact .inr ⟨x,hx,rfl⟩
theorem ME{l:List Int}{n:Int}(h:l.Nodup):(jE l n).Nodup:=by
 simp only[jE];split
 ·exact h
 ·rename_i h1;rw[ru];refine⟨h,by simp,?_⟩;intro a ha b hb e;simp only[cv]at hb;subst hb;subst e;exact h1 (by simpa using ha)
theorem Bp:∀ (m:List Int) {l:List Int},l.Nodup→(m.foldl jE l).Nodup
 | [],_,h=>h
 | _::m,_,h=>Bp m (ME h)
theorem Ga{g:Int→Int}{L:List Int}(hg:∀ x∈L,∀ y∈L,g x=g y→x=y):∀ (m acc:List Int),(∀ x∈m,x∈L)→(∀ x∈acc,x∈L)→(m.map g).foldl jE (acc.map g)=(m.foldl jE acc).map g
 | [],_,_,_=>rfl
 | n::m,acc,hm,ha=>by
  have hn:=hm n (by simp)
  have e:jE (acc.map g) (g n)=(jE acc n).map g:=by
   by_cases h:n∈acc
   ·have h1:acc.contains n=true:=by simpa using h
    have h2:(acc.map g).contains (g n)=true:=by simp;exact⟨n,h,rfl⟩
    simp only[jE,h1,h2,if_true]
   ·have h1:acc.contains n=false:=by simpa using h
    have h2:(acc.map g).contains (g n)=false:=by
     cases h3:(acc.map g).contains (g n)with
     | false=>rfl
     | true =>
      simp only[List.contains_iff_mem,bK]at h3;obtain⟨x,hx,hxe⟩:=h3;exact absurd (hg x (ha x hx) n hn hxe▸hx) h
    simp only[jE,h1,h2,aD,if_false,List.map_append,ay,az]
  simp only[ay,bd,e];refine Ga hg m (jE acc n) (fun x hx=>hm x (by simp[hx])) fun x hx=>?_;simp only[jE]at hx;split at hx
  ·exact ha x hx
  ·rw[List.mem_append,cv]at hx;rcases hx with hx | rfl
   ·exact ha x hx
   ·exact hn
theorem FX:∀ {L:List Int} (_:L.Nodup),L.map (fun x=>(L.idxOf x:Int)+1)=cu L.length:=by
 intro L KI
 have key:∀ (l pre:List Int),(pre++l).Nodup→l.map (fun x=>((pre++l).idxOf x:Int)+1)=(List.range l.length).map fun(i:Nat)=>(i:Int)+((pre.length:Int)+1):=by
  intro l
  induction l with
  | nil=>intro pre _;rfl
  | cons a l ih =>
   intro pre h
   have e:(List.range (l.length+1)).map (fun(i:Nat)=>(i:Int)+((pre.length:Int)+1))=((pre.length:Int)+1)::(List.range l.length).map fun(i:Nat)=>(i:Int)+(((pre++[a]).length:Int)+1):=by
    rw[rq,ay,jM];refine congr (congrArg _ (by omega)) (dE fun i _=>?_);simp only[Function.comp,List.length_append,ab,ah];omega
   have h2:=ih (pre++[a]) (by rwa [List.append_assoc,r8]);rw[List.append_assoc,r8]at h2;rw[ab,e,← h2,ay];congr 1
   have ZR:a ∉ pre:=by
    rw[ru]at h;exact fun hm=>h.2.2 a hm a (by simp) rfl
   have:(pre++a::l).idxOf a=pre.length:=by
    clear h2 e ih h
    induction pre with
    | nil=>simp
    | cons b pre ih =>
     have hb:(b==a)=false:=by
      simp only[aU,not_or]at ZR;simpa using fun e=>ZR.1 e.symm
     rw[aq,El,hb,cond_false,ih (fun hm=>ZR (cY _ hm)),ab]
   rw[this]
 have:=key L [] KI;simpa[cu]using this
theorem LH{l:List Int}{f:List It}:se (f.map (tO l))=(se f).map fun x=>(l.idxOf x:Int)+1:=by
 induction f with
 | nil=>rfl
 | cons x f ih =>
  simp only[se,tg,ay,fQ,B6]at ih ⊢
  by_cases ht:cI x=true
  ·rw[if_pos ht,if_pos ht,ay,ay,ay,ih];congr 1;rw[tO,if_pos ht]
  ·rw[if_neg ht,if_neg ht,ih]
theorem D8{s t:List It}(hs:bt [] s=0)(ht:bt [] t=0)(hl:(bG s t).length≤999):
  fZ s t=s.map (tO (bG s t))∧gT s t=t.map (tO (bG s t)):=by
 have ha:=wb s t;constructor
 ·rw[fZ,rename,A0 ha.1];exact qg (vQ hl ha.1 hs)
 ·rw[gT,rename,A0 ha.2];exact qg (vQ hl ha.2 ht)
theorem K8{s t:List It}:bG (s.map (tO (bG s t))) (t.map (tO (bG s t)))=cu (bG s t).length:=by
 have e:bG s t=(se (s++t)).foldl jE []:=AL s t;have hL:∀ x∈se (s++t),x∈bG s t:=fun x hx=>by rw[e];exact rX _ hx
 rw[AL (s.map _) (t.map _),← List.map_append,LH];have h1:=Ga (g:=fun x=>((bG s t).idxOf x:Int)+1) (L:=bG s t) (fun x hx y hy h=>Ot hx hy (by omega)) (se (s++t)) [] hL (by simp);rw[az]at h1;rw[h1,← e];exact FX (by rw[e];exact Bp _ List.nodup_nil)
theorem QM{n:Nat}{x:Int}(h:x∈cu n):((cu n).idxOf x:Int)+1=x:=by
 have KI:(cu n).Nodup:=by
  simp only[cu];exact(List.nodup_range).map (f:=fun(i:Nat)=>(i:Int)+1) (fun a b h=>by have h:a≠b:=h;omega)
 have e:=FX KI;rw[sY]at e;have fk:(cu n).idxOf x<(cu n).length:=Yk h;have h2:((cu n).map fun x=>((cu n).idxOf x:Int)+1)[(cu n).idxOf x]?=(cu n)[(cu n).idxOf x]?:=by rw[e]
 rw[aZ,aw fk]at h2;have hg:(cu n)[(cu n).idxOf x]=x:=List.getElem_idxOf fk;rw[hg]at h2;simpa using h2
theorem FO{n:Nat}{f:List It}(h:∀ x∈tg f,x.id∈cu n):f.map (tO (cu n))=f:=by
 induction f with
 | nil=>rfl
 | cons x f ih =>
  rw[ay];have h2:∀ z∈tg f,z.id∈cu n:=fun z hz=>h z (by simp only[tg,fQ];split<;>simp[tg]at hz ⊢<;>simp[hz]);rw[ih h2];congr 1;rw[tO];split
  ·rename_i ht;have:=h x (by simp only[tg,fQ,ht,if_true];simp);rw[QM this]
  ·rfl
theorem Uc{s t:List It}(hs:bt [] s=0)(ht:bt [] t=0)(hl:(bG s t).length≤999):
  fZ (fZ s t) (gT s t)=fZ s t∧gT (fZ s t) (gT s t)=gT s t:=by
 obtain⟨e1,e2⟩:=D8 hs ht hl;have ha:=wb s t;have hs':=vQ hl ha.1 hs;have ht':=vQ hl ha.2 ht;rw[e1,e2];have hn:=K8 (s:=s) (t:=t);have hl':(bG (s.map (tO (bG s t))) (t.map (tO (bG s t)))).length≤999:=by rw[hn,sY];exact hl
 obtain⟨f1,f2⟩:=D8 hs' ht' hl';have hb:=wb (s.map (tO (bG s t))) (t.map (tO (bG s t)));rw[hn]at hb f1 f2;exact⟨by rw[f1,FO hb.1],by rw[f2,FO hb.2]⟩
theorem QQ(s t:List It):(bG s t).length≤s.length+t.length:=by
 have h1:=tv (numbers t) (numbers s);have h2:=oM s;have h3:=oM t;simp only[bG];omega
theorem F8{f:List It}(h:bt [] f=0)(h1:f.length≤100)(h2:aM f≤900):bO f=0:=by
 have:=Je f;exact(na (by omega)).2 ⟨by omega,by omega,h⟩
def DI:List (List UInt8):=[[],[83,97,118,101],[114,101,100,32,99,97,114],[120]]
def u6:List (List UInt8):=[[],[97,110,110],[98,111,98],[112],[113]]
theorem IB:∀ s∈DI,(parse s).2.2=0∧s.length≤7:=by decide +kernel
theorem yV:∀ s∈u6,named s=true∧s.length≤3:=by decide +kernel
structure zK (e:En):Prop where
 ok:cy e=0
 Cs:e.source.length≤40
 yk:aM e.source≤400
 GG:e.target.length≤100
 B0:aM e.target≤900
 prev:e.bS.length≤7
 next:e.next.length≤7
 cQ:e.cQ.length≤3
 cn:e.cn.length≤3
theorem Iw{p:Option It}{x:It}(h:bB p x=true):0≤x.id∧x.id≤999:=by
 simp only[bB]at h;split at h
 ·simp only[aC,beq_iff_eq]at h;omega
 ·split at h
  ·simp only[aC,beq_iff_eq]at h;omega
  ·split at h
   ·simp only[aC,decide_eq_true_eq]at h;omega
   ·split at h
    ·simp only[aC,decide_eq_true_eq]at h;omega
    ·simp at h
theorem Fu{f:List It}(h:bO f=0):∀ x∈f,0≤x.id∧x.id≤999:=by
 simp only[bO]at h;split at h
 ·simp at h
 ·intro x hx;exact Iw (ly f [] h x hx)
theorem zH{e:En}(h:cy e=0):bO e.source=0∧bO e.target=0:=⟨(ny h).source,(ny h).target⟩
theorem Qu{f t:List It}{p n a r:List UInt8}{c o:Int}(hf:bt [] f=0)(ht:bt [] t=0)(iQ:f≠[])(f1:f.length≤40)(f2:aM f≤400)(t1:t.length≤100)(t2:aM t≤900)
  (hp:p∈DI) (hn:n∈DI) (ha:a∈u6) (hr:r∈u6) (hc:0≤c∧c≤1073741824) (ho:1≤o∧o≤3):zK ⟨fZ f t,gT f t,p,n,a,r,c,o⟩:=by
 have hl:(bG f t).length≤999:=by have:=QQ f t;omega
 obtain⟨e1,e2⟩:=D8 hf ht hl;have js:=wb f t;have v1:bt [] (fZ f t)=0:=by rw[e1];exact vQ hl js.1 hf
 have v2:bt [] (gT f t)=0:=by rw[e2];exact vQ hl js.2 ht
 have l1:(fZ f t).length=f.length:=by rw[e1,List.length_map]
 have l2:(gT f t).length=t.length:=by rw[e2,List.length_map]
 have x1:aM (fZ f t)=aM f:=by rw[e1,AV]
 have x2:aM (gT f t)=aM t:=by rw[e2,AV]
 obtain⟨k1,k2⟩:=Uc hf ht hl;have w1:bO (fZ f t)=0:=F8 v1 (by omega) (by omega);have w2:bO (gT f t)=0:=F8 v2 (by omega) (by omega);have hne':(fZ f t).length≠0:=by rw[l1];exact fun h=>iQ (bL h)
 have Ts:mA ⟨fZ f t,gT f t,p,n,a,r,c,o⟩=true:=by
  simp only[mA,k1,k2,vV.2 rfl,gW,cm,beq_eq_false_iff_ne,ne_eq];exact hne'
 refine⟨?_,by simp only[l1];exact f1,by simp only[x1];exact f2,by simp only[l2];exact t1,by simp only[x2];exact t2,(IB p hp).2,(IB n hn).2,(yV a ha).2,(yV r hr).2⟩;simp only[cy,w1,w2,Ts,(IB p hp).1,(IB n hn).1,(yV a ha).1,(yV r hr).1,ne_eq,not_true,if_false,afz,lj];rw[if_neg (by omega)]
theorem zK.small{e:En}(h:zK e):e.small:=by
 have:=zH h.ok;have h1:=h.Cs;have h2:=h.yk;have h3:=h.GG;have h4:=h.B0;have h5:=h.prev;have h6:=h.next;refine⟨by omega,by omega,by omega,by omega,by omega,by omega,fun x hx=>?_⟩;rcases List.mem_append.1 hx with hx | hx
 ·have:=Fu this.1 x hx;omega
 ·have:=Fu this.2 x hx;omega
structure BC (o:aJ):Prop where
 ok:cw o=0
 off:o.aA.aS<3
 src:bt [] o.entry.source=0
 Cs:o.entry.source.length≤40
 yk:aM o.entry.source≤400
 small:o.small
 GG:o.entry.target.length≤100
 B0:aM o.entry.target≤1200
 ctx:o.entry.bS.length≤7∧o.entry.next.length≤7∧o.entry.cQ.length≤3∧o.entry.cn.length≤3
def gC(e:En):En:=⟨e.source,[],e.bS,e.next,[],[],0,0⟩
theorem zK.items{e:En}(h:zK e):bt [] e.source=0:=by
 have h1:=(zH h.ok).1;simp only[bO]at h1;split at h1
 ·simp at h1
 ·exact h1
theorem U0:∀ (i j k:Fin 3) (f:Fin 3),let v:List Int:=[((i.val:Nat):Int),((j.val:Nat):Int),((k.val:Nat):Int)]
  eJ (eJ v)=eJ v∧(eJ v).any (fun n=>decide (128<n))=false∧je (eJ v) f.val=v.getD f.val 0∧(eJ v).length≤3:=by decide +kernel
theorem RM{v:List Int}(hv:∃ x y z:Int,v=[x,y,z]∧(0≤x∧x<3)∧(0≤y∧y<3)∧(0≤z∧z<3)){f:Int}(hf:0≤f∧f<3):
  eJ (eJ v)=eJ v∧(eJ v).any (fun n=>decide (128<n))=false∧je (eJ v) f=v.getD f.toNat 0∧(eJ v).length≤3:=by
 obtain⟨x,y,z,rfl,hx,hy,hz⟩:=hv;have:=U0 ⟨x.toNat,by omega⟩ ⟨y.toNat,by omega⟩ ⟨z.toNat,by omega⟩ ⟨f.toNat,by omega⟩;simp only at this;rw[show((x.toNat:Nat):Int)=x by omega,show((y.toNat:Nat):Int)=y by omega,show((z.toNat:Nat):Int)=z by omega,show((f.toNat:Nat):Int)=f by omega]at this;exact this
theorem aan{e:En}(h:zK e){t f n k:Int}{v:List Int}(ht:1≤t∧t≤1000)(hf:0≤f∧f<3)(hn:1≤n∧n≤3)(hv:∃ x y z:Int,v=[x,y,z]∧(0≤x∧x<3)∧(0≤y∧y<3)∧(0≤z∧z<3))(ZH:v.getD f.toNat 0=n - 1):
  BC ⟨⟨t,f,n⟩,1,e,eJ v⟩∧BC ⟨⟨t,f,n⟩,2,gC e,eJ v⟩:=by
 obtain⟨s1,s2,s3,s4⟩:=RM hv hf;have EZ:gf ⟨t,f,n⟩=true:=by simp only[gf,decide_eq_true_eq];omega
 have rA:=h.small;have h7:=h.cQ;have h8:=h.cn;constructor
 ·refine⟨?_,hf.2,h.items,h.Cs,h.yk,⟨rA,by simp only;omega,by simp only;omega,by simp only;omega⟩,by have:=h.GG;simp only;omega,by have:=h.B0;simp only;omega,h.prev,h.next,by simp only;omega,by simp only;omega⟩;simp only[cw,EZ,s1,s2,s3,ZH,looked,lj,aD,if_false,ne_eq,not_true,or_false,false_and];simp[h.ok]
 ·have hb:lT (gC e)=true:=by simp[lT,gC]
  have ha:cy (asked (gC e))=0:=by rw[show asked (gC e)=asked e from rfl];exact zI h.ok
  refine⟨?_,hf.2,h.items,h.Cs,h.yk,⟨⟨rA.source,rA.gY,by simp[gC],by simp[gC,aM],rA.bS,rA.next,fun x hx=>rA.ids x ?_⟩,by simp[gC],by simp[gC],by simp only;omega⟩,by simp[gC],by simp[gC,aM],h.prev,h.next,by simp[gC],by simp[gC]⟩
  ·simp only[cw,EZ,s1,s2,s3,ZH,looked,hb,ha,lj,aD,if_false,ne_eq,not_true,or_false,and_false]
  ·simp only[gC,bf]at hx;exact oo _ hx
theorem Xi{f:List It}(h:bt [] f=0):∀ x∈f,0≤x.id∧x.id≤999:=fun x hx=>Iw (ly f [] h x hx)
theorem qN(s:List UInt8):(parse s).1.length<2^30∧aM (parse s).1<2^30∧∀ x∈(parse s).1,-9223372036854775808≤x.id∧x.id≤9223372036854775807:=by
 by_cases h:(parse s).2.2=0
 ·obtain⟨h1,_,h3,h4⟩:=zt h
  have h5:bt [] (parse s).1=0:=by
   simp only[bO]at h1;split at h1
   ·simp at h1
   ·exact h1
  have h6:=yj (parse s).1 (ly (parse s).1 [] h5);exact⟨by omega,by omega,fun x hx=>by have:=Xi h5 x hx;omega⟩
 ·have e:(parse s).1=[]:=by
   rw[← yy]at h ⊢;exact ue _ _ _ _ _ h
  rw[e];exact⟨by decide,by decide,fun x hx=>by simp at hx⟩
theorem Ul:∀ (l:List UInt8),∃ m:Nat,fc l=m∧m<256^l.length:=by
 have gen:∀ (l:List UInt8) (n:Nat),∃ m:Nat,l.foldl (fun a x=>a*256+(x.toNat:Int)) (n:Int)=m∧m<(n+1)*256^l.length:=by
  intro l
  induction l with
  | nil=>intro n;exact⟨n,rfl,by simp⟩
  | cons c l ih =>
   intro n;obtain⟨m,h1,h2⟩:=ih (n*256+c.toNat);refine⟨m,?_,?_⟩
   ·rw[← h1];simp
   ·have hc:c.toNat<256:=c.toNat_lt;have:(n*256+c.toNat+1)*256^l.length≤((n+1)*256)*256^l.length:=cA _ (by omega);simp only[ab,Q0];have e:(n+1)*(256^l.length*256)=(n+1)*256*256^l.length:=by rw[jL (256^l.length),Nat.mul_assoc]
    omega
 intro l;obtain⟨m,h1,h2⟩:=gen l 0;exact⟨m,h1,by simpa using h2⟩
theorem sv(r:Rb)(n:Nat)(hn:n≤4):0≤(r.number n).1∧(r.number n).1<2^(8*n):=by
 have hl:(r.take n).1.length≤n:=by simp only[Rb.take];split<;>simp<;>omega
 obtain⟨m,h1,h2⟩:=Ul (r.take n).1;have h3:256^(r.take n).1.length≤256^n:=tM (by decide) hl;have e:(r.number n).1=m:=h1;have e2:(256:Nat)^n=2^(8*n):=by rw[Nat.pow_mul]
 rw[e];constructor
 ·omega
 ·have:m<2^(8*n):=by omega
  exact_mod_cast this
theorem mz(r:Rb)(n:Nat):(r.number n).2.b.length≤r.b.length:=by
 simp only[Rb.number,Rb.take];split<;>simp
theorem mM(r:Rb):r.text.2.b.length≤r.b.length∧r.text.1.length≤r.b.length:=by
 have hd:=mz r 4;have e:r.text=if((r.number 4).2.b.length:Int)<(r.number 4).1 then([],⟨(r.number 4).2.b,true⟩)else(r.number 4).2.take (r.number 4).1.toNat:=rfl
 rw[e];split
 ·exact⟨hd,by simp⟩
 ·rename_i h;have h2:¬ (r.number 4).2.b.length<(r.number 4).1.toNat:=by omega
  simp only[Rb.take,if_neg h2,aR,bH];omega
theorem tt(r:Rb):r.fragment.2.b.length≤r.b.length:=(mM r).1
theorem uk:∀ (n:Nat) (r:Rb),(Rb.numbers n r).2.b.length≤r.b.length∧(Rb.numbers n r).1.length=n
 | 0,r=>⟨aB _,rfl⟩
 | n+1,r=>by
  have h1:=mz r 2;have h2:=uk n (r.number 2).2;simp only[Rb.numbers,ab,h2.2];exact⟨by omega,trivial⟩
def Rb.bF(r:Rb)(n:Nat):Int×Rb:=if r.b.length<n then(0,⟨r.b,true⟩)else(fc (r.b.take n),⟨r.b.drop n,r.bad⟩)
def Rb.jf(r:Rb):List UInt8×Rb :=
 let p:=r.bF 4
 if p.2.bad=true∨(p.2.b.length:Int)<p.1 then([],⟨p.2.b,true⟩)else(p.2.b.take p.1.toNat,⟨p.2.b.drop p.1.toNat,p.2.bad⟩)
def Rb.gn(r:Rb):List It×Rb :=
 let p:=r.jf;let q:=parse p.1
 (q.1,⟨p.2.b,p.2.bad||q.2.2 != 0⟩)
def Rb.fB:Nat→Rb→List Int×Rb
 | 0,r=>([],r)
 | n+1,r=>if r.bad=true then([],r)else let p:=r.bF 2;let q:=Rb.fB n p.2;(p.1::q.1,q.2)
def ng(b:List UInt8):aJ×Rb :=
 let v:=(Rb.mk b false).bF 1;let k:=(Rb.mk v.2.b (v.1 != 1)).bF 1;let t:=k.2.bF 4;let f:=t.2.bF 1;let m:=f.2.bF 2;let c:=m.2.bF 1;let s:=Rb.fB c.1.toNat c.2;let src:=s.2.gn;let pv:=src.2.jf;let nx:=pv.2.jf
 if k.1=1 then
  let tg:=nx.2.gn;let au:=tg.2.jf;let pr:=au.2.jf;let cr:=pr.2.bF 4;let og:=cr.2.bF 1
  (⟨⟨t.1,f.1,m.1⟩,k.1,⟨src.1,tg.1,pv.1,nx.1,au.1,pr.1,cr.1,og.1⟩,s.1⟩,og.2)
 else(⟨⟨t.1,f.1,m.1⟩,k.1,⟨src.1,[],pv.1,nx.1,[],[],0,0⟩,s.1⟩,nx.2)
def GU(b:List UInt8):aJ×Int :=
 let p:=ng b
 if p.2.bad=true∨0<p.2.b.length∨cw p.1≠0 then(xe,12)else(p.1,0)
theorem ey{r:Rb}{n:Nat}(h:(r.number n).2.bad=false):r.bad=false∧r.bF n=r.number n∧n≤r.b.length:=by
 simp only[Rb.number,Rb.take]at h ⊢
 by_cases h1:r.b.length<n
 ·rw[if_pos h1]at h;simp at h
 ·rw[if_neg h1]at h ⊢;exact⟨h,by simp only[Rb.bF,if_neg h1],by omega⟩
theorem iB{r:Rb}{n:Nat}(h:(r.bF n).2.bad=false):r.bad=false∧r.bF n=r.number n∧n≤r.b.length:=by
 simp only[Rb.bF]at h
 by_cases h1:r.b.length<n
 ·rw[if_pos h1]at h;simp at h
 ·rw[if_neg h1]at h;exact⟨h,by simp only[Rb.bF,Rb.number,Rb.take,if_neg h1],by omega⟩
theorem iC{r:Rb}{n:Nat}(h:(r.number n).2.bad=false):∃ w,w.length=n∧(r.number n).1=fc w∧r.b=w++(r.number n).2.b:=by
 have:=(ey h).2.2;simp only[Rb.number,Rb.take];rw[if_neg (by omega)];exact⟨r.b.take n,by simp;omega,rfl,by simp⟩
theorem Jj{r:Rb}{n:Nat}(h:r.bad=true):(r.take n).2.bad=true:=by
 simp only[Rb.take];split<;>simp[h]
theorem lV{r:Rb}(h:r.text.2.bad=false):r.bad=false∧r.jf=r.text:=by
 simp only[Rb.text]at h ⊢
 by_cases h1:((r.number 4).2.b.length:Int)<(r.number 4).1
 ·rw[if_pos h1]at h;simp at h
 ·rw[if_neg h1]at h ⊢
  have hb:(r.number 4).2.bad=false:=by
   cases hb:(r.number 4).2.bad with
   | false=>rfl
   | true=>rw[Jj hb]at h;simp at h
  obtain⟨g1,g2,g3⟩:=ey hb;refine⟨g1,?_⟩;simp only[Rb.jf,g2,hb,aD,false_or];rw[if_neg h1];simp only[Rb.take];rw[if_neg (by omega)];simp[hb]
theorem pZ{r:Rb}(h:r.jf.2.bad=false):r.bad=false∧r.jf=r.text:=by
 have h0:=h;simp only[Rb.jf]at h
 by_cases h1:(r.bF 4).2.bad=true∨((r.bF 4).2.b.length:Int)<(r.bF 4).1
 ·rw[if_pos h1]at h;simp at h
 ·rw[if_neg h1]at h;obtain⟨g1,g2,g3⟩:=iB h;refine⟨g1,?_⟩;simp only[not_or]at h1;simp only[Rb.jf];rw[if_neg (by simp only[not_or];exact h1)];simp only[Rb.text];rw[g2]at h1 ⊢;rw[if_neg h1.2];simp only[Rb.take];rw[if_neg (by omega)]
theorem pU{r:Rb}(h:r.text.2.bad=false):r.b=de r.text.1++r.text.2.b:=by
 simp only[Rb.text]at h ⊢
 by_cases h1:((r.number 4).2.b.length:Int)<(r.number 4).1
 ·rw[if_pos h1]at h;simp at h
 ·rw[if_neg h1]at h ⊢
  have hb:(r.number 4).2.bad=false:=by
   cases hb:(r.number 4).2.bad with
   | false=>rfl
   | true=>rw[Jj hb]at h;simp at h
  obtain⟨w,w1,w2,w3⟩:=iC hb
  match w,w1 with
  | [a,b,c,d],_ =>
   have hn:0≤(r.number 4).1:=by
    rw[w2];simp only[fc,bd,dB];have:=a.toNat_lt;omega
   have hl:(r.number 4).1.toNat≤(r.number 4).2.b.length:=by omega
   simp only[Rb.take];rw[if_neg (by omega)];simp only[de]
   have e:((((r.number 4).2.b.take (r.number 4).1.toNat).length:Nat):Int)=(r.number 4).1:=by
    rw[aR];omega
   rw[e]
   conv=>rhs;rw[w2,Ng]
   conv=>lhs;rw[w3]
   rw[← w2];simp
theorem oA{r:Rb}(h:r.fragment.2.bad=false):r.bad=false∧r.gn=r.fragment:=by
 simp only[Rb.fragment,oq]at h ⊢;obtain⟨g1,g2⟩:=lV h.1;exact⟨g1,by simp only[Rb.gn,g2]⟩
theorem uf{r:Rb}(h:r.gn.2.bad=false):r.bad=false∧r.gn=r.fragment:=by
 simp only[Rb.gn,oq]at h;obtain⟨g1,g2⟩:=pZ h.1;exact⟨g1,by simp only[Rb.gn,Rb.fragment,g2]⟩
theorem u7{r:Rb}(h:r.fragment.2.bad=false):r.b=de (format r.fragment.1).1++r.fragment.2.b:=by
 simp only[Rb.fragment,oq,bne_eq_false_iff_eq]at h ⊢;rw[(zt h.2).2.1];exact pU h.1
theorem oN:∀ (n:Nat) (r:Rb),(Rb.numbers n r).2.bad=false→r.bad=false:=by
 intro n
 induction n with
 | zero=>intro r h;exact h
 | succ n ih=>intro r h;exact(ey (ih _ h)).1
theorem HS:∀ (n:Nat) (r:Rb),(Rb.numbers n r).2.bad=false→Rb.fB n r=Rb.numbers n r:=by
 intro n
 induction n with
 | zero=>intro r h;rfl
 | succ n ih =>
  intro r h;have hb:=oN _ _ h;simp only[Rb.numbers]at h;have g:=ey (oN _ _ h);simp only[Rb.fB,Rb.numbers,hb,aD,if_false,g.2.1,ih _ h]
theorem si:∀ (n:Nat) (r:Rb),(Rb.fB n r).2.bad=false→r.bad=false:=by
 intro n
 induction n with
 | zero=>intro r h;exact h
 | succ n ih =>
  intro r h;cases hb:r.bad with
  | false=>rfl
  | true=>simp only[Rb.fB,hb,if_true]at h;simp at h
theorem EC:∀ (n:Nat) (r:Rb),(Rb.fB n r).2.bad=false→Rb.fB n r=Rb.numbers n r:=by
 intro n
 induction n with
 | zero=>intro r h;rfl
 | succ n ih =>
  intro r h;have hb:=si _ _ h;simp only[Rb.fB,hb,aD,if_false]at h;have g:=iB (si _ _ h);have e:=ih _ h;simp only[Rb.fB,Rb.numbers,hb,aD,if_false];rw[e,g.2.1]
theorem EO:∀ (n:Nat) (r:Rb),(Rb.numbers n r).2.bad=false→(Rb.numbers n r).1.length=n∧r.b=(Rb.numbers n r).1.flatMap qu++(Rb.numbers n r).2.b:=by
 intro n
 induction n with
 | zero=>intro r h;exact⟨rfl,rfl⟩
 | succ n ih =>
  intro r h;simp only[Rb.numbers]at h ⊢;obtain⟨h1,h2⟩:=ih _ h;obtain⟨w,w1,w2,w3⟩:=iC (oN _ _ h)
  match w,w1 with
  | [a,b],_ =>
   refine⟨by simp[h1],?_⟩;simp only[cZ]
   conv=>rhs;rw[w2,Um]
   conv=>lhs;rw[w3,h2]
   simp
set_option maxHeartbeats 1000000 in
theorem NB{b:List UInt8}(h:(ng b).2.bad=false∨((gx b).2.2.bad=false∧(gx b).2.1=1)):ng b=((gx b).1,(gx b).2.2)∧(gx b).2.1=1∧(gx b).2.2.bad=false:=by
 rcases h with h | ⟨h,hv⟩
 ·simp only[ng]at h
  have step:∀ (v k t f m c:Int×Rb) (s:List Int×Rb) (src:List It×Rb) (pv nx:List UInt8×Rb),
    v=(Rb.mk b false).bF 1→k=(Rb.mk v.2.b (v.1 != 1)).bF 1→t=k.2.bF 4→f=t.2.bF 1→m=f.2.bF 2→c=m.2.bF 1→s=Rb.fB c.1.toNat c.2→src=s.2.gn→pv=src.2.jf→nx=pv.2.jf→nx.2.bad=false →
    v=(Rb.mk b false).number 1∧v.1=1∧k=v.2.number 1∧t=k.2.number 4∧f=t.2.number 1∧m=f.2.number 2∧c=m.2.number 1∧s=Rb.numbers c.1.toNat c.2∧src=s.2.fragment∧pv=src.2.text∧nx=pv.2.text:=by
   intro v k t f m c s src pv nx ev ek et ef em ec es esrc epv enx hb;obtain⟨b10,g10⟩:=pZ (enx▸hb);obtain⟨b9,g9⟩:=pZ (epv▸b10);obtain⟨b8,g8⟩:=uf (esrc▸b9);have b7:=si _ _ (es▸b8);have g7:=EC _ _ (es▸b8);obtain⟨b6,g6,_⟩:=iB (ec▸b7);obtain⟨b5,g5,_⟩:=iB (em▸b6);obtain⟨b4,g4,_⟩:=iB (ef▸b5);obtain⟨b3,g3,_⟩:=iB (et▸b4);obtain⟨b2,g2,_⟩:=iB (ek▸b3);simp only[bne_eq_false_iff_eq]at b2
   have b1:v.2.bad=false:=by
    rw[ev]at b2 ⊢;simp only[Rb.bF]at b2 ⊢;split
    ·rename_i h;rw[if_pos h]at b2;simp at b2
    ·rfl
   have e0:(Rb.mk v.2.b (v.1 != 1))=v.2:=by
    have:(v.1 != 1)=false:=by simpa using b2
    rw[this,← b1]
   have g1:=(iB (ev▸b1)).2.1;rw[e0]at ek g2;exact⟨ev.trans g1,b2,ek.trans g2,et.trans g3,ef.trans g4,em.trans g5,ec.trans g6,es.trans g7,esrc.trans g8,epv.trans g9,enx.trans g10⟩
  simp only[ng,gx];generalize ev:(Rb.mk b false).bF 1=v at h ⊢;generalize ek:(Rb.mk v.2.b (v.1 != 1)).bF 1=k at h ⊢;generalize et:k.2.bF 4=t at h ⊢;generalize ef:t.2.bF 1=f at h ⊢;generalize em:f.2.bF 2=m at h ⊢;generalize ec:m.2.bF 1=c at h ⊢;generalize es:Rb.fB c.1.toNat c.2=s at h ⊢;generalize esrc:s.2.gn=src at h ⊢;generalize epv:src.2.jf=pv at h ⊢;generalize enx:pv.2.jf=nx at h ⊢
  by_cases hk:k.1=1
  ·rw[if_pos hk]at h;simp only at h;obtain⟨b15,g15,_⟩:=iB h;obtain⟨b14,g14,_⟩:=iB b15;obtain⟨b13,g13⟩:=pZ b14;obtain⟨b12,g12⟩:=pZ b13;obtain⟨b11,g11⟩:=uf b12;obtain⟨e1,e0,e2,e3,e4,e5,e6,e7,e8,e9,e10⟩:=step v k t f m c s src pv nx ev.symm ek.symm et.symm ef.symm em.symm ec.symm es.symm esrc.symm epv.symm enx.symm b11;rw[← e1,← e2,← e3,← e4,← e5,← e6,← e7,← e8,← e9,← e10,if_pos hk,if_pos hk];rw[g11]at h g12 g13 g14 g15 ⊢;rw[g12]at h g13 g14 g15 ⊢;rw[g13]at h g14 g15 ⊢;rw[g14]at h g15 ⊢;rw[g15]at h ⊢;exact⟨by dsimp only,e0,by dsimp only;exact h⟩
  ·rw[if_neg hk]at h;simp only at h;obtain⟨e1,e0,e2,e3,e4,e5,e6,e7,e8,e9,e10⟩:=step v k t f m c s src pv nx ev.symm ek.symm et.symm ef.symm em.symm ec.symm es.symm esrc.symm epv.symm enx.symm h;rw[← e1,← e2,← e3,← e4,← e5,← e6,← e7,← e8,← e9,← e10,if_neg hk,if_neg hk];exact⟨by dsimp only,e0,by dsimp only;exact h⟩
 ·simp only[gx]at h hv;simp only[ng,gx]
  have step:∀ (v k t f m c:Int×Rb) (s:List Int×Rb) (src:List It×Rb) (pv nx:List UInt8×Rb),
    v=(Rb.mk b false).number 1→k=v.2.number 1→t=k.2.number 4→f=t.2.number 1→m=f.2.number 2→c=m.2.number 1→s=Rb.numbers c.1.toNat c.2→src=s.2.fragment→pv=src.2.text→nx=pv.2.text→nx.2.bad=false→v.1=1 →
    (Rb.mk b false).bF 1=v∧(Rb.mk v.2.b (v.1 != 1)).bF 1=k∧k.2.bF 4=t∧t.2.bF 1=f∧f.2.bF 2=m∧m.2.bF 1=c∧Rb.fB c.1.toNat c.2=s∧s.2.gn=src∧src.2.jf=pv∧pv.2.jf=nx:=by
   intro v k t f m c s src pv nx ev ek et ef em ec es esrc epv enx hb hv;obtain⟨b10,g10⟩:=lV (enx▸hb);obtain⟨b9,g9⟩:=lV (epv▸b10);obtain⟨b8,g8⟩:=oA (esrc▸b9);have b7:=oN _ _ (es▸b8);have g7:=HS _ _ (es▸b8);obtain⟨b6,g6,_⟩:=ey (ec▸b7);obtain⟨b5,g5,_⟩:=ey (em▸b6);obtain⟨b4,g4,_⟩:=ey (ef▸b5);obtain⟨b3,g3,_⟩:=ey (et▸b4);obtain⟨b2,g2,_⟩:=ey (ek▸b3);have g1:=(ey (ev▸b2)).2.1
   have e0:(Rb.mk v.2.b (v.1 != 1))=v.2:=by
    have:(v.1 != 1)=false:=by rw[hv];rfl
    rw[this,← b2]
   rw[e0];exact⟨g1.trans ev.symm,g2.trans ek.symm,g3.trans et.symm,g4.trans ef.symm,g5.trans em.symm,g6.trans ec.symm,g7.trans es.symm,g8.trans esrc.symm,g9.trans epv.symm,g10.trans enx.symm⟩
  generalize ev:(Rb.mk b false).number 1=v at h hv ⊢;generalize ek:v.2.number 1=k at h hv ⊢;generalize et:k.2.number 4=t at h hv ⊢;generalize ef:t.2.number 1=f at h hv ⊢;generalize em:f.2.number 2=m at h hv ⊢;generalize ec:m.2.number 1=c at h hv ⊢;generalize es:Rb.numbers c.1.toNat c.2=s at h hv ⊢;generalize esrc:s.2.fragment=src at h hv ⊢;generalize epv:src.2.text=pv at h hv ⊢;generalize enx:pv.2.text=nx at h hv ⊢
  by_cases hk:k.1=1
  ·rw[if_pos hk]at h hv;simp only at h hv;obtain⟨b15,g15,_⟩:=ey h;obtain⟨b14,g14,_⟩:=ey b15;obtain⟨b13,g13⟩:=lV b14;obtain⟨b12,g12⟩:=lV b13;obtain⟨b11,g11⟩:=oA b12;obtain⟨e1,e2,e3,e4,e5,e6,e7,e8,e9,e10⟩:=step v k t f m c s src pv nx ev.symm ek.symm et.symm ef.symm em.symm ec.symm es.symm esrc.symm epv.symm enx.symm b11 hv;rw[e1,e2,e3,e4,e5,e6,e7,e8,e9,e10,if_pos hk,if_pos hk];refine⟨?_,by dsimp only;exact hv,by dsimp only;exact h⟩;dsimp only;rw[g11,g12,g13,g14,g15]
  ·rw[if_neg hk]at h hv;simp only at h hv;obtain⟨e1,e2,e3,e4,e5,e6,e7,e8,e9,e10⟩:=step v k t f m c s src pv nx ev.symm ek.symm et.symm ef.symm em.symm ec.symm es.symm esrc.symm epv.symm enx.symm h hv;rw[e1,e2,e3,e4,e5,e6,e7,e8,e9,e10,if_neg hk,if_neg hk];exact⟨by dsimp only,by dsimp only;exact hv,by dsimp only;exact h⟩
theorem L4{b:List UInt8}(h:(gx b).2.2.bad=false)(hv:(gx b).2.1=1)(hk:(gx b).1.kind=1∨(gx b).1.kind=2):b=bX (gx b).1++(gx b).2.2.b:=by
 simp only[gx]at h hv hk ⊢
 have step:∀ (v k t f m c:Int×Rb) (s:List Int×Rb) (src:List It×Rb) (pv nx:List UInt8×Rb),
   (Rb.mk b false).number 1=v→v.2.number 1=k→k.2.number 4=t→t.2.number 1=f→f.2.number 2=m→m.2.number 1=c→Rb.numbers c.1.toNat c.2=s→s.2.fragment=src→src.2.text=pv→pv.2.text=nx→nx.2.bad=false→v.1=1 →
   b=[1,ij k.1]++(BA t.1++([ij f.1]++(qu m.1++([ij s.1.length]++(s.1.flatMap qu++(de (format src.1).1++(de pv.1++(de nx.1++nx.2.b)))))))):=by
  intro v k t f m c s src pv nx ev ek et ef em ec es esrc epv enx hb hv;have b10:=lV (enx▸hb);have b9:=lV (epv▸b10.1);have b8:=oA (esrc▸b9.1);have b7:=oN _ _ (es▸b8.1);have b6:=ey (ec▸b7);have b5:=ey (em▸b6.1);have b4:=ey (ef▸b5.1);have b3:=ey (et▸b4.1);have b2:=ey (ek▸b3.1);have x10:=pU (enx▸hb);have x9:=pU (epv▸b10.1);have x8:=u7 (esrc▸b9.1);have x7:=EO _ _ (es▸b8.1);obtain⟨w6,l6,y6,x6⟩:=iC (ec▸b7);obtain⟨w5,l5,y5,x5⟩:=iC (em▸b6.1);obtain⟨w4,l4,y4,x4⟩:=iC (ef▸b5.1);obtain⟨w3,l3,y3,x3⟩:=iC (et▸b4.1);obtain⟨w2,l2,y2,x2⟩:=iC (ek▸b3.1);obtain⟨w1,l1,y1,x1⟩:=iC (ev▸b2.1);rw[enx]at x10;rw[epv]at x9;rw[esrc]at x8;rw[es]at x7;rw[ec]at x6 y6;rw[em]at x5 y5;rw[ef]at x4 y4;rw[et]at x3 y3;rw[ek]at x2 y2;rw[ev]at x1 y1
  have e1:w1=[1]:=by
   match w1,l1 with
   | [a],_ =>
    rw[hv]at y1;have:(a.toNat:Int)=1:=by simpa[fc]using y1.symm
    have:a=1:=mY.1 (by simp;omega);rw[this]
  have e2:w2=[ij k.1]:=by
   match w2,l2 with
   | [a],_=>rw[y2,IK]
  have e3:w3=BA t.1:=by
   match w3,l3 with
   | [p,q,u,v],_=>rw[y3,Ng]
  have e4:w4=[ij f.1]:=by
   match w4,l4 with
   | [a],_=>rw[y4,IK]
  have e5:w5=qu m.1:=by
   match w5,l5 with
   | [p,q],_=>rw[y5,Um]
  have e6:w6=[ij s.1.length]:=by
   match w6,l6 with
   | [a],_ =>
    have h0:0≤c.1:=by rw[y6];simp[fc]
    have:((s.1.length:Nat):Int)=c.1:=by rw[x7.1];omega
    rw[this,y6,IK]
  simp only at x1
  conv=>lhs;rw[x1,x2,x3,x4,x5,x6,x7.2,x8,x9,x10,e1,e2,e3,e4,e5,e6]
  simp
 generalize ev:(Rb.mk b false).number 1=v at h hv hk ⊢;generalize ek:v.2.number 1=k at h hv hk ⊢;generalize et:k.2.number 4=t at h hv hk ⊢;generalize ef:t.2.number 1=f at h hv hk ⊢;generalize em:f.2.number 2=m at h hv hk ⊢;generalize ec:m.2.number 1=c at h hv hk ⊢;generalize es:Rb.numbers c.1.toNat c.2=s at h hv hk ⊢;generalize esrc:s.2.fragment=src at h hv hk ⊢;generalize epv:src.2.text=pv at h hv hk ⊢;generalize enx:pv.2.text=nx at h hv hk ⊢
 by_cases qA:k.1=1
 ·rw[if_pos qA]at h hv ⊢;simp only at h hv ⊢;have b15:=ey h;have b14:=ey b15.1;have b13:=lV b14.1;have b12:=lV b13.1;have b11:=oA b12.1;have hs:=step v k t f m c s src pv nx ev ek et ef em ec es esrc epv enx b11.1 hv;have x11:=u7 b12.1;have x12:=pU b13.1;have x13:=pU b14.1;obtain⟨w14,l14,y14,x14⟩:=iC b15.1;obtain⟨w15,l15,y15,x15⟩:=iC h
  have e14:w14=BA (nx.2.fragment.2.text.2.text.2.number 4).1:=by
   match w14,l14 with
   | [p,q,u,v],_=>rw[y14,Ng]
  have e15:w15=[ij ((nx.2.fragment.2.text.2.text.2.number 4).2.number 1).1]:=by
   match w15,l15 with
   | [a],_=>rw[y15,IK]
  simp only[bX,if_pos qA]
  conv=>lhs;rw[hs,x11,x12,x13,x14,x15,e14,e15]
  simp only[List.append_assoc]
 ·rw[if_neg qA]at h hv hk ⊢;simp only at h hv hk ⊢;have hs:=step v k t f m c s src pv nx ev ek et ef em ec es esrc epv enx h hv;simp only[bX,if_neg qA]
  conv=>lhs;rw[hs]
  simp only[List.append_assoc,bf]
theorem L5(b:List UInt8):GU b=decode b:=by
 simp only[GU,decode]
 by_cases hr:(ng b).2.bad=true
 ·rw[if_pos (.inl hr)]
  by_cases h:(gx b).2.2.bad=true∨0<(gx b).2.2.b.length∨(gx b).2.1≠1
  ·rw[if_pos h]
  ·simp only[not_or]at h;have:=NB (b:=b) (.inr ⟨by simpa using h.1,by simpa using h.2.2⟩);rw[this.1]at hr;exact absurd hr h.1
 ·have hr:(ng b).2.bad=false:=by simpa using hr
  obtain⟨e,e1,e2⟩:=NB (.inl hr);rw[e];simp only[e2,e1,aD,false_or,ne_eq,not_true,or_false]
  by_cases hl:0<(gx b).2.2.b.length
  ·rw[if_pos (.inl hl),if_pos hl]
  ·rw[if_neg hl]
   by_cases ho:cw (gx b).1=0
   ·have hb:=L4 e2 e1 (mi ho).kind;have hn:(gx b).2.2.b=[]:=by simpa using hl
    rw[hn,bf]at hb
    have he:encode (gx b).1=(b,0):=by
     simp only[encode,ho,ne_eq,not_true,if_false];rw[← hb]
    rw[he];simp[ho,hl]
   ·have he:(encode (gx b).1).2≠0:=by simp only[encode,ne_eq,ho,not_false_eq_true,if_true]
    rw[if_pos (.inr ho),if_pos (.inl he)]
def UW(a b:bc):Bool:=a.time==b.time&&(a.aS==b.aS&&(a.number==b.number&&true))
theorem Rz{a b:bc}:UW a b=true↔a=b:=by
 obtain⟨a1,a2,a3⟩:=a;obtain⟨b1,b2,b3⟩:=b;simp[UW]
def Da(a b:aJ):Bool:=UW a.aA b.aA&&a.kind==b.kind&&Iz a.entry b.entry&&a.seen==b.seen
theorem uA{a b:aJ}:Da a b=true↔a=b:=by
 obtain⟨a1,a2,a3,a4⟩:=a;obtain⟨b1,b2,b3,b4⟩:=b;simp only[Da,aC,Rz,DV,beq_iff_eq,aJ.mk.injEq,and_assoc]
def nm:List aJ→List aJ→Bool
 | [],[]=>true
 | a::x,b::y=>Da a b&&nm x y
 | _,_=>false
theorem rJ:∀ {a b:List aJ},nm a b=true↔a=b
 | [],[]=>by simp[nm]
 | a::x,b::y=>by simp[nm,uA,rJ (a:=x) (b:=y)]
 | [],b::y=>by simp[nm]
 | a::x,[]=>by simp[nm]
theorem PG:∀ {a b:List aJ},nm a b=true→a.length=b.length:=fun h=>by rw[rJ.1 h]
def kG(o:aJ):Int×Int:=(o.aA.aS,o.aA.number)
def BY(ks:List (Int×Int))(k:Int×Int):List (Int×Int):=if k∈ks then ks else ks++[k]
def kV(k:Int×Int):V:=.agg [.i .i64 k.1,.i .i64 k.2]
def oY(ks:List (Int×Int)):List (V×V):=ks.map fun k=>(kV k,.agg [])
theorem Uq{ks:List (Int×Int)}{k q:Int×Int}:q∈BY ks k↔q=k∨q∈ks:=by
 unfold BY;split
 ·rename_i h;exact⟨.inr,fun h2=>h2.elim (fun e=>e▸h) id⟩
 ·simp[or_comm]
theorem SK(l:List aJ):∀ (ks:List (Int×Int)) (q:Int×Int),q∈l.foldl (fun ks o=>BY ks (kG o)) ks↔q∈ks∨∃ o∈l,kG o=q:=by
 induction l with
 | nil=>simp
 | cons o l ih =>
  intro ks q;rw[bd,ih,Uq];constructor
  ·rintro((rfl | h) | ⟨p,h1,h2⟩)
   ·exact .inr ⟨o,by simp,rfl⟩
   ·exact .inl h
   ·exact .inr ⟨p,by simp[h1],h2⟩
  ·rintro(h | ⟨p,h1,h2⟩)
   ·exact .inl (.inr h)
   ·rcases aU.1 h1 with rfl | h1
    ·exact .inl (.inl h2.symm)
    ·exact .inr ⟨p,h1,h2⟩
theorem eqK(k q:Int×Int):di 3 (kV k) (kV q)=some (k.1==q.1&&k.2==q.2):=by
 simp[di,kV,G7]
theorem DQ{k:Int×Int}:∀ {ks:List (Int×Int)} {n:Nat},k ∉ ks→gH 3 (kV k) (oY ks) n=some none:=by
 intro ks
 induction ks with
 | nil=>intro n _;rfl
 | cons q ks ih =>
  intro n h;simp only[aU,not_or]at h
  have e:(k.1==q.1&&k.2==q.2)=false:=by
   rcases k with⟨a,b⟩;rcases q with⟨c,d⟩;simp only[aI]at h;cases h1:(a==c)<;>cases h2:(b==d)<;>simp_all
  simp only[oY,ay,gH,eqK,e];exact ih h.2
theorem DP{k:Int×Int}:∀ {ks:List (Int×Int)} {n:Nat},k∈ks→∃ i,gH 3 (kV k) (oY ks) n=some (some (n+i,.agg []))∧(oY ks)[i]?=some (kV k,.agg []):=by
 intro ks
 induction ks with
 | nil=>intro n h;simp at h
 | cons q ks ih =>
  intro n h
  by_cases e:k=q
  ·subst e;exact⟨0,by simp[oY,gH,eqK],by simp[oY]⟩
  ·have e2:(k.1==q.1&&k.2==q.2)=false:=by
    rcases k with⟨a,b⟩;rcases q with⟨c,d⟩;simp only[aI]at e;cases h1:(a==c)<;>cases h2:(b==d)<;>simp_all
   have h:k∈ks:=by
    rcases aU.1 h with h | h
    ·exact absurd h e
    ·exact h
   obtain⟨i,h1,h2⟩:=ih (n:=n+1) h;refine⟨i+1,?_,by simpa[oY]using h2⟩;simp only[oY,ay,gH,eqK,e2];rw[show n+(i+1)=n+1+i by omega];exact h1
theorem TV(ks:List (Int×Int))(k:Int×Int):
  (k ∉ ks∧gH 3 (kV k) (oY ks) 0=some none∧oY ks++[(kV k,.agg [])]=oY (BY ks k)) ∨
  (k∈ks∧∃ i,gH 3 (kV k) (oY ks) 0=some (some (i,.agg []))∧(oY ks).set i (kV k,.agg [])=oY (BY ks k)):=by
 by_cases h:k∈ks
 ·obtain⟨i,h1,h2⟩:=DP (n:=0) h;rw[aK]at h1;refine .inr ⟨h,i,h1,?_⟩;rw[BY,if_pos h];obtain⟨hi,h3⟩:=ae.1 h2;rw[← h3,List.set_getElem_self]
 ·exact .inl ⟨h,DQ h,by simp[BY,if_neg h,oY]⟩
theorem zu{f:List It}(h:bt [] f=0):(format f).1.length≤4*aM f+30*f.length:=by
 have hk:=ly f [] h
 have key:∀ f:List It,(∀ x∈f,bB none x=true)→(f.flatMap cj).length≤4*aM f+30*f.length:=by
  intro f
  induction f with
  | nil=>intro _;simp
  | cons x f ih =>
   intro h;have h1:=ih fun y hy=>h y (by simp[hy]);have h3:=Iw (h x (by simp));have h2:=px x (by omega);simp only[cZ,List.length_append,aM,ab];omega
 have:=key f hk;simp only[format];split
 ·simp
 ·exact this
theorem WZ{o:aJ}(h:BC o):(bX o).length≤20000:=by
 have h1:=zu h.src;have h2:=h.Cs;have h3:=h.yk;have h4:=h.GG;have h5:=h.B0;have h6:=h.ctx;have F:=mi h.ok;have Ig:=F.GK
 have u0:∀ l:List Int,(l.flatMap qu).length=2*l.length:=by
  intro l
  induction l with
  | nil=>rfl
  | cons a r ih=>simp only[cZ,List.length_append,eu,ih,ab];omega
 have h7:o.kind=1→(format o.entry.target).1.length≤8000:=by
  intro hk;have e:looked o=o.entry:=by simp[looked,hk]
  have hl:=F.looked;rw[e]at hl;have hv:=(ny hl).target;simp only[bO]at hv;split at hv
  ·simp at hv
  ·have:=zu hv;omega
 simp only[bX,de,List.length_append,dF,eu,ab,ah,u0];split
 ·have:=h7 (by assumption);simp only[List.length_append,dF,ab,ah];omega
 ·simp only[ah];omega
theorem kD{a b:aJ}:da a b<0↔a.aA.aS<b.aA.aS∨(a.aA.aS=b.aA.aS∧a.aA.number<b.aA.number):=by
 simp only[da,rz,eV]
 (repeat' split)<;>omega
theorem ja{a b:aJ}:da a b=0↔a.aA.aS=b.aA.aS∧a.aA.number=b.aA.number:=by
 simp only[da,rz,eV]
 (repeat' split)<;>omega
abbrev tF(l:List aJ):Prop:=l.Pairwise fun a b=>da a b<0
def k9(l:List aJ)(x:aJ):Nat:=(l.takeWhile fun y=>decide (da y x<0)).length
def qn(l:List aJ)(x:aJ):List aJ:=l.take (k9 l x)++x::l.drop (k9 l x)
theorem Ou(l:List aJ)(x:aJ):k9 l x≤l.length:=akW (akU _)
theorem vW{l:List aJ}(h:tF l)(x:aJ):∀ (k:Nat) (y:aJ),l[k]?=some y→(0≤da y x↔k9 l x≤k):=by
 induction l with
 | nil=>intro k y h;simp at h
 | cons a l ih =>
  replace h:=ck.1 h
  intro k y hk
  by_cases ha:da a x<0
  ·have e:k9 (a::l) x=k9 l x+1:=by simp[k9,eg,ha]
   cases k with
   | zero=>simp only[ao,aa]at hk;subst hk;omega
   | succ k =>
    have:=ih h.2 k y (by simpa using hk);omega
  ·have e:k9 (a::l) x=0:=by simp[k9,eg,ha]
   rw[e];refine⟨fun _=>iF _,fun _=>?_⟩;cases k with
   | zero=>simp only[ao,aa]at hk;subst hk;omega
   | succ k =>
    have hy:y∈l:=bh (by simpa using hk);have h1:=h.1 y hy;refine bo fun hn=>ha ?_;have h2:da y x<0:=by omega
    rw[kD]at h1 h2 ⊢;omega
theorem Sr{l:List aJ}{x y:aJ}:y∈qn l x↔y=x∨y∈l:=by
 have:y∈l↔y∈l.take (k9 l x)∨y∈l.drop (k9 l x):=by rw[← List.mem_append,List.take_append_drop]
 simp only[qn,List.mem_append,aU,this];constructor
 ·rintro(h | h | h)
  ·exact .inr (.inl h)
  ·exact .inl h
  ·exact .inr (.inr h)
 ·rintro(h | h | h)
  ·exact .inr (.inl h)
  ·exact .inl h
  ·exact .inr (.inr h)
theorem SV(l:List aJ)(x:aJ):(qn l x).length=l.length+1:=by
 have:=Ou l x;simp only[qn,List.length_append,aR,ab,bH];omega
theorem Qc{l:List aJ}(h:tF l){x:aJ}(hx:∀ y∈l,da y x≠0):tF (qn l x):=by
 have hs:=vW h x;refine fy.2 ?_;rw[ck];refine⟨h.sublist (List.take_sublist _ _),⟨fun y hy=>?_,h.sublist (List.drop_sublist _ _)⟩,fun a ha b hb=>?_⟩
 ·obtain⟨k,hk⟩:=dr.1 hy;rw[dV]at hk;have h1:=(hs _ y hk).2 (by omega);have h2:=hx y (gk hy);have h3:¬ da y x<0:=by omega
  rw[kD]at h3 ⊢;rw[ne_eq,ja]at h2;omega
 ·have h1:da a x<0:=by
   obtain⟨k,hk⟩:=dr.1 ha;rw[iz]at hk;split at hk
   ·have:=hs k a hk;omega
   ·cases hk
  rcases aU.1 hb with rfl | hb
  ·exact h1
  ·obtain⟨k,hk⟩:=dr.1 hb;rw[dV]at hk;have h2:=(hs _ b hk).2 (by omega);have h3:¬ da b x<0:=by omega
   rw[kD]at h1 h3 ⊢;omega
theorem Fz:∀ {l m:List aJ},tF l→tF m→(∀ x,x∈l↔x∈m)→l=m
 | [],[],_,_,_=>rfl
 | [],b::m,_,_,h=>absurd ((h b).2 (by simp)) (by simp)
 | a::l,[],_,_,h=>absurd ((h a).1 (by simp)) (by simp)
 | a::l,b::m,h1,h2,h=>by
  replace h1:=ck.1 h1
  replace h2:=ck.1 h2
  have irr:∀ z:aJ,¬ da z z<0:=fun z hz=>by rw[kD]at hz;omega
  have e:a=b:=by
   rcases aU.1 ((h a).1 (by simp))with ha | ha
   ·exact ha
   ·rcases aU.1 ((h b).2 (by simp))with hb | hb
    ·exact hb.symm
    ·have h3:=h2.1 a ha;have h4:=h1.1 b hb;rw[kD]at h3 h4;omega
  subst e;refine congrArg _ (Fz h1.2 h2.2 fun x=>?_);constructor
  ·intro hx;rcases aU.1 ((h x).1 (by simp[hx]))with rfl | h3
   ·exact absurd (h1.1 x hx) (irr x)
   ·exact h3
  ·intro hx;rcases aU.1 ((h x).2 (by simp[hx]))with rfl | h3
   ·exact absurd (h2.1 x hx) (irr x)
   ·exact h3
theorem FN{α:Type}:∀ {l m:List α},l.Nodup→(∀ x∈l,x∈m)→l.length≤m.length
 | [],_,_,_=>iF _
 | a::l,m,hn,h=>by
  rw[List.nodup_cons]at hn;obtain⟨s,t,rfl⟩:=Np (h a (by simp))
  have:=FN (m:=s++t) hn.2 fun x hx=>by
   have h1:=h x (by simp[hx]);simp only[List.mem_append,aU]at h1 ⊢;rcases h1 with h1 | h1 | h1
   ·exact .inl h1
   ·subst h1;exact absurd hx hn.1
   ·exact .inr h1
  simp only[List.length_append,ab]at this ⊢;omega
structure akT (M:List aJ):Prop where
 gen:∀ x∈M,BC x
 off:∀ x∈M,x.aA.aS≠0
 one:∀ x∈M,∀ y∈M,da x y=0→x=y
 len:M.length≤10
structure Recv (M:List aJ) (o:cc):Prop where
 num:o.number=0
 down:o.down=false
 sub:∀ x∈o.ops,x∈M
 sort:tF o.ops
 top:∀ x∈o.ops,x.aA.time≤o.clock
 clk:o.clock=0∨∃ x∈o.ops,o.clock=x.aA.time
 log:o.log.length≤60008*o.ops.length
theorem xb(x:aJ):da x x=0:=ja.2 ⟨rfl,rfl⟩
theorem Recv.len{M:List aJ}{o:cc}(h:Recv M o):o.ops.length≤M.length:=by
 refine FN ?_ h.sub;refine h.sort.imp fun {a b} tD e=>?_;subst e;rw[xb]at tD;omega
theorem Recv.small{M:List aJ}{o:cc}(hM:akT M)(h:Recv M o):o.small:=by
 have h1:=h.len;have h2:=hM.len;have h3:=h.log;exact⟨fun x hx=>(hM.gen x (h.sub x hx)).small,by omega,by omega⟩
theorem Wl{l:List aJ}(h:tF l){x:aJ}(hx:x∈l):l[k9 l x]?=some x:=by
 obtain⟨k,hk⟩:=dr.1 hx;have h1:=(vW h x k x hk).1 (by rw[xb];exact UK _);have tJ:=(ae.1 hk).1
 have e:k9 l x=k:=by
  refine bo fun iQ=>?_;have fk:k9 l x<k:=by omega
  have h2:l[k9 l x]?=some l[k9 l x]:=aw (by omega);have h3:=(vW h x _ _ h2).2 (aB _);have h4:=gE.1 h (k9 l x) k (by omega) tJ fk;have h5:l[k]=x:=by rw[aw tJ]at hk;simpa using hk
  rw[h5]at h4;omega
 rw[e];exact hk
theorem Mj(x:aJ):mP x x=0:=by
 have h:∀ l:List UInt8,fS l l=0:=by
  intro l
  induction l with
  | nil=>rfl
  | cons a l ih=>simp[fS,ih]
 simp[mP,rz,eV,h]
end Go.Bt

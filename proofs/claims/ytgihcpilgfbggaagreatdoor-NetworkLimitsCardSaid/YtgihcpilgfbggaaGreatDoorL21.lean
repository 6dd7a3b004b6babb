/- A part of the proof that for every input the law NetworkLimits returns true and leaves its argument as it was. -/
import Derived.Test.YtgihcpilgfbggaaGreatDoorL15
import Derived.Test.YtgihcpilgfbggaaGreatDoorL20
set_option linter.all false

namespace Go.Bt
open Go Go.Pm
def eF(before:List It)(x:It):Int:=if bh before.getLast? x=false then 1 else if(cX x&&!fits before x)=true then 7 else 0
theorem qh:∀ (rest pre:List It) (x:It),bD pre (x::rest)=if eF pre x≠0 then eF pre x else bD (pre++[x]) rest:=by
 intro rest pre x;simp only[bD,eF];split
 ·simp
 ·split<;>simp
def ck(out:List It)(x:It):List It :=
 if x.kind≠1 then out++[x]else if x.text=[]then out else
 match out.getLast? with
 | some y=>if y.kind=1 then out.dropLast++[⟨1,y.text++x.text,0⟩]else out++[⟨1,x.text,0⟩]
 | none=>out++[⟨1,x.text,0⟩]
def oo(f:List It):List It:=f.foldl ck []
def td(out:List It):Bool:=match out.getLast? with
 | some y=>y.kind==1
 | none=>false
theorem F9:∀ (n m:Nat) (f:List It),f.length≤n→f.length≤m→il n f=il m f:=by
 intro n
 induction n with
 | zero =>
  intro m f h _;have:f=[]:=bq (by omega);subst this;cases m<;>rfl
 | succ n ih =>
  intro m f h1 h2;cases f with
  | nil=>cases m<;>rfl
  | cons x r =>
   cases m with
   | zero=>simp at h2
   | succ m =>
    simp only[ag]at h1 h2
    by_cases hk:x.kind=1
    ·have hs:=nJ (x:=x) (r:=r) hk;have hi:=ih m (runText (x::r)).2 (by omega) (by omega);simp only[il,hk,ne_eq,not_true,if_false];split
     ·exact hi
     ·rw[hi]
    ·simp only[il,if_pos hk];rw[ih m r (by omega) (by omega)]
theorem xw{x:It}{r:List It}(hk:x.kind≠1):normalize (x::r)=x::normalize r:=by
 simp only[normalize,ag,il,if_pos hk]
theorem mF{x:It}{r:List It}(hk:x.kind=1):normalize (x::r)=if(runText (x::r)).1.length=0 then normalize (runText (x::r)).2 else⟨1,(runText (x::r)).1,0⟩::normalize (runText (x::r)).2:=by
 have hs:=nJ (x:=x) (r:=r) hk;have e:il r.length (runText (x::r)).2=il (runText (x::r)).2.length (runText (x::r)).2:=F9 _ _ _ hs (aw _);simp only[normalize,ag,il,hk,ne_eq,not_true,if_false,e]
def nT(t:List UInt8)(f:List It):List It:=if t=[]then normalize f else
 ⟨1,t++(runText f).1,0⟩::normalize (runText f).2
theorem J0:∀ (f out:List It) (t:List UInt8),(td out=false)→f.foldl ck (closed out t)=out++nT t f:=by
 intro f
 induction f with
 | nil =>
  intro out t ho;simp only[nR,nT,closed];split
  ·simp[normalize,il]
  ·simp[runText,normalize,il]
 | cons x f ih =>
  intro out t ho;simp only[cj]
  by_cases hk:x.kind=1
  ·by_cases hx:x.text=[]
   ·have e1:ck (closed out t) x=closed out t:=by simp[ck,hk,hx]
    rw[e1,ih out t ho];congr 1;simp only[nT];have hr:runText (x::f)=((runText f).1,(runText f).2):=by simp[runText,hk,hx]
    by_cases ht:t=[]
    ·rw[if_pos ht,if_pos ht,mF hk,hr];cases f with
     | nil=>simp[runText,normalize,il]
     | cons y f =>
      by_cases hy:y.kind=1
      ·rw[mF hy]
      ·simp[runText,hy]
    ·rw[if_neg ht,if_neg ht,hr]
   ·have e1:ck (closed out t) x=closed out (t++x.text):=by
     simp only[ck,hk,ne_eq,not_true,if_false,if_neg hx];have js:t++x.text≠[]:=by simp[hx]
     by_cases ht:t=[]
     ·subst ht;rw[eE];simp only[closed,aG,if_neg hx];simp only[td]at ho;cases hg:out.getLast? with
      | none=>rfl
      | some y =>
       rw[hg]at ho;have hy:¬ y.kind=1:=by simpa using ho
       simp only[if_neg hy]
     ·simp[closed,ht]
    rw[e1,ih out _ ho];congr 1;have js:t++x.text≠[]:=by simp[hx]
    simp only[nT,if_neg js];have hr:runText (x::f)=(x.text++(runText f).1,(runText f).2):=by simp[runText,hk]
    by_cases ht:t=[]
    ·subst ht;rw[if_pos rfl,mF hk,hr]
     have:(x.text++(runText f).1).length≠0:=by
      have:=cZ.2 hx;rw[List.length_append];omega
     rw[if_neg this];simp
    ·rw[if_neg ht,hr];simp
  ·have e1:ck (closed out t) x=closed (closed out t++[x]) []:=by
    rw[eE];simp[ck,hk]
   have he:td (closed out t++[x])=false:=by simp[td,hk]
   rw[e1,ih _ [] he];have hr:runText (x::f)=([],x::f):=by simp[runText,hk]
   simp only[nT,if_true,hr,bt,xw hk]
   by_cases ht:t=[]
   ·simp[closed,ht]
   ·simp[closed,ht]
theorem nq(f:List It):oo f=normalize f:=by
 have:=J0 f [] [] rfl;rw[eE]at this;simpa[nT,oo]using this
theorem fu(a b:List It):bp (a++b)=bp a+bp b:=by
 induction a with
 | nil=>simp[bp]
 | cons x a ih=>simp only[aJ,bp,ih];omega
theorem pX(out:List It)(x:It):bp (ck out x)≤bp out+x.text.length∧(ck out x).length≤out.length+1:=by
 simp only[ck];split
 ·simp[fu,bp]
 ·split
  ·omega
  ·split
   ·rename_i y hy;have js:out≠[]:=by rintro rfl;simp at hy
    have e:out=out.dropLast++[y]:=by
     have:=List.dropLast_concat_getLast js;rw[List.getLast?_eq_some_getLast js]at hy;simp only[aa]at hy;rw[hy]at this;exact this.symm
    split
    ·have h1:bp out=bp out.dropLast+y.text.length:=by
      conv=>lhs;rw[e]
      simp[fu,bp]
     simp[fu,bp];omega
    ·simp[fu,bp]
   ·simp[fu,bp]
def iH(s:List UInt8):It×Int:=if(aR s).2.2=true then((aR s).1,(aR s).2.1)else(kQ,0)
theorem tR{s:List UInt8}(h:(aR s).2.2=false):iH s=(kQ,0):=by simp[iH,h]
def pQ(kind:Int)(t:List UInt8):It×Bool :=
 let k:=min 4 (t.takeWhile di).length
 if k=0∨t.length≤k∨t.getD 0 0=48∨999<dq 0 (t.take k)∨t.getD k 0≠58 then(kQ,false)else
 if(kind=3∧isName (t.drop (k+1))=false)∨(kind≠3∧cA (t.drop (k+1))=false)then(kQ,false)else(⟨kind,t.drop (k+1),dq 0 (t.take k)⟩,true)
def Bd(t:List UInt8):It×Bool :=
 if hasPrefix t [47]=true then pQ 3 (t.drop 1)else if hasSuffix t [47]=true then pQ 4 (t.take (t.length - 1))else pQ 2 t
def DW(kind:Int)(a b:List UInt8)(cut:Bool):It×Bool :=
 if(cut&&(numberOf a).2)=true then(if(if kind=3 then isName b else cA b)=true then(⟨kind,b,(numberOf a).1⟩,true)else(kQ,false))else(kQ,false)
theorem yS{a b:List UInt8}(h:∀ c∈a,di c=true):(a++58::b).takeWhile di=a:=by
 induction a with
 | nil=>simp[show di 58=false by decide]
 | cons x a ih =>
  have hx:di x=true:=h x (by simp);simp[hx,ih fun c hc=>h c (by simp[hc])]
theorem wH{n:Nat}{t:List UInt8}(h:n≤(t.takeWhile di).length):∀ c∈t.take n,di c=true:=by
 intro c hc
 have e:t.take n=(t.takeWhile di).take n:=by
  have:=List.takeWhile_append_dropWhile (p:=di) (l:=t)
  conv=>lhs;rw[← this]
  rw[fB h]
 rw[e]at hc;have h2:=dd hc;exact bR.1 (List.all_takeWhile (p:=di) (l:=t)) c h2
theorem M5{a b c d:UInt8}{r:List UInt8}(ha:di a=true)(h48:a≠48)(hb:di b=true)(hc:di c=true)(hd:di d=true):999<dq 0 [a,b,c,d]:=by
 simp only[di,aB,decide_eq_true_eq]at ha hb hc hd;have:a.toNat≠48:=fun e=>h48 (Qx.1 e);simp only[dq,cj,nR];omega
theorem pP(kind:Int)(t:List UInt8):pQ kind t=DW kind (cutAt t 58).1 (cutAt t 58).2.1 (cutAt t 58).2.2:=by
 by_cases hc:((cutAt t 58).2.2&&(numberOf (cutAt t 58).1).2)=true
 ·have vz:=hc;simp only[aB]at vz;obtain⟨n1,n2,n3⟩:=l5 vz.2;have e1:=lh vz.1;generalize ha:(cutAt t 58).1=a at *;generalize hb:(cutAt t 58).2.1=b at *;have hn:=qg (numberOf a).1 ⟨n2,n3⟩;rw[← n1]at hn;have Mn:=vz.2;simp only[numberOf]at Mn
  by_cases h1:a.length<1∨3<a.length∨a.getD 0 0=48
  ·rw[if_pos h1]at Mn;simp at Mn
  ·have iE:a.all di=true:=bR.2 hn.2.1;have hv:(numberOf a).1=dq 0 a:=by simp only[numberOf,if_neg h1,iE,if_true]
   have hk:min 4 (t.takeWhile di).length=a.length:=by rw[e1,yS hn.2.1];omega
   have ht:t.take a.length=a:=by rw[e1];simp
   have hd:t.drop (a.length+1)=b:=by rw[e1];simp
   have hl:¬ t.length≤a.length:=by rw[e1];simp
   have h0:t.getD 0 0=a.getD 0 0:=by
    rw[e1];cases a with
    | nil=>simp at h1
    | cons x a=>rfl
   have h58:t.getD a.length 0=58:=by rw[e1];simp[List.getD_eq_getElem?_getD]
   simp only[pQ,DW,hc,if_true,hk,ht,hd,h0,h58]
   rw[if_neg (by
    simp only[not_or]at h1 ⊢;exact⟨by omega,hl,h1.2.2,by rw[← hv];omega,by simp⟩)]
   by_cases hk3:kind=3
   ·simp only[hk3,true_and,if_true,ne_eq,not_true,false_and,or_false,hv]
    by_cases hb:isName b=true<;>simp[hb]
   ·simp only[hk3,false_and,if_false,ne_eq,not_false_eq_true,true_and,false_or,hv]
    by_cases hb:cA b=true<;>simp[hb]
 ·simp only[DW,if_neg hc,pQ];refine if_pos ?_;apply bd;intro js;apply hc;simp only[not_or,G4,Nat.not_le,Decidable.not_not]at js;obtain⟨g1,g2,g3,g4,g5⟩:=js;generalize hk:min 4 (t.takeWhile di).length=k at *;have iE:=wH (n:=k) (t:=t) (by omega)
  have e1:t=t.take k++58::t.drop (k+1):=by
   conv=>lhs;rw[← List.take_append_drop k t]
   congr 1;rw[dM g2];congr 1;rw[List.getD_eq_getElem?_getD,ao g2]at g5;simpa using g5
  have rW:(58:UInt8) ∉ t.take k:=fun hm=>absurd (iE _ hm) (by decide)
  have Zf:cutAt t 58=(t.take k,t.drop (k+1),true):=by
   conv=>lhs;rw[e1]
   exact qw rW
  rw[Zf];have hlen:(t.take k).length=k:=by rw[ba];omega
  have S0:(t.take k).getD 0 0=t.getD 0 0:=by
   cases t with
   | nil=>simp
   | cons x t =>
    obtain⟨m,rfl⟩:∃ m,k=m+1:=⟨k - 1,by omega⟩;rfl
  have hk4:k≤3:=by
   apply bd;intro h;have h4:k=4:=by omega
   subst h4
   match t,g2,iE,g3,g4 with
   | a::b::c::d::r,_,iE,g3,g4 =>
    have:=M5 (r:=r) (iE a (by simp)) (by simpa using g3) (iE b (by simp)) (iE c (by simp)) (iE d (by simp));simp only[gu,sg]at g4;omega
   | [],h,_,_,_=>simp at h
   | [_],h,_,_,_=>simp at h
   | [_,_],h,_,_,_=>simp at h
   | [_,_,_],h,_,_,_=>simp at h
  simp only[bu,numberOf];rw[if_neg (by rw[hlen,S0];simp only[not_or];exact⟨by omega,by omega,g3⟩),if_pos (bR.2 iE)]
def Lu(p:It×Bool):It×Bool:=if p.2=true then p else(kQ,false)
theorem tZ(kind:Int)(a b:List UInt8)(cut:Bool):
  Lu (if(cut&&(numberOf a).2)=true then(⟨kind,b,(numberOf a).1⟩,if kind=3 then isName b else cA b)else(⟨0,[],0⟩,false))=DW kind a b cut:=by
 simp only[DW]
 by_cases hc:(cut&&(numberOf a).2)=true
 ·rw[if_pos hc,if_pos hc];simp only[Lu];generalize (if kind=3 then isName b else cA b)=X;cases X<;>rfl
 ·rw[if_neg hc,if_neg hc];rfl
theorem kD{t:List UInt8}{x c:UInt8}:hasSuffix (t++[x]) [c]=(x==c):=by
 simp[hasSuffix]
theorem zy{a b:List UInt8}:hasSuffix (a++58::b) [47]=hasSuffix b [47]:=by
 rcases kO b with hb | ⟨b',x,hb⟩
 ·subst hb;rw[kD];rfl
 ·rw[kP]at hb;subst hb;rw[kD,show a++58::(b'++[x])=(a++58::b')++[x]by simp,kD]
theorem r6{s:List UInt8}{c:UInt8}(h:c ∉ s):cutAt s c=(s,[],false):=by
 simp only[cutAt,qk h];rfl
theorem J5{s:List UInt8}{c:UInt8}(h:c∈s):(cutAt s c).2.2=true:=by
 simp only[cutAt];rw[if_pos (mQ h)]
theorem po{c:UInt8}:∀ {s:List UInt8},c ∉ s.take (Lib.indexByte s c).toNat
 | []=>by simp
 | a::s=>by
  by_cases ha:a=c
  ·subst ha;simp[Lib.indexByte]
  ·have Tb:(a==c)=false:=by simpa using ha
   have hl:=nM c s;simp only[Lib.indexByte,Tb,aF,if_false]
   by_cases h1:(Lib.indexByte s c == -1)=true
   ·rw[if_pos h1];simp
   ·rw[if_neg h1];have h2:Lib.indexByte s c ≠ -1:=by simpa using h1
    have h3:(Lib.indexByte s c+1).toNat=(Lib.indexByte s c).toNat+1:=by omega
    rw[h3,gu];intro hm;rcases aY.1 hm with hm | hm
    ·exact ha hm.symm
    ·exact po hm
theorem CO{s:List UInt8}{c:UInt8}(h:c∈s):c ∉ (cutAt s c).1:=by
 simp only[cutAt];rw[if_pos (mQ h)];exact po
theorem Oc(t:List UInt8):Bd t=Lu (gd t):=by
 unfold Bd gd;dsimp only;cases hp:hasPrefix t [47]with
 | true =>
  simp only[if_true,fH,bA,aF,if_false];rw[pP,← tZ];rfl
 | false =>
  simp only[aF,if_false,jd,bu]
  by_cases hm:(58:UInt8)∈t
  ·have hc:=J5 hm;have hb:=CO hm;have e1:=lh hc;generalize ha:(cutAt t 58).1=a at *;generalize S9:(cutAt t 58).2.1=b at *;have hs:hasSuffix t [47]=hasSuffix b [47]:=by conv=>lhs;rw[e1,zy]
   rw[hs];cases WI:hasSuffix b [47]with
   | true =>
    simp only[if_true];have hbn:b≠[]:=by rintro rfl;simp[hasSuffix]at WI
    have et:t.take (t.length - 1)=a++58::b.take (b.length - 1):=by
     have JM:=cZ.2 hbn;rw[e1];simp only[List.length_append,ag];rw[List.take_append,cJ (by omega)];have:a.length+(b.length+1) - 1 - a.length=(b.length - 1)+1:=by omega
     rw[this,gu]
    rw[pP,et,qw hb,← tZ,hc]
   | false =>
    simp only[aF,if_false];rw[pP,ha,S9,hc,← tZ]
  ·have T9:(58:UInt8) ∉ t.take (t.length - 1):=fun h=>hm (dd h);have e0:∀ k,pQ k t=(kQ,false):=fun k=>by rw[pP,r6 hm];rfl
   have e2:pQ 4 (t.take (t.length - 1))=(kQ,false):=by rw[pP,r6 T9];rfl
   rw[r6 hm,e0,e2];simp[Lu]
theorem IS{s:List UInt8}(h0:s.getD 0 0=60):iH s=if Lib.indexByte s 62<0 then(kQ,0)else
  (if(Bd ((s.take (Lib.indexByte s 62).toNat).drop 1)).2=true then((Bd ((s.take (Lib.indexByte s 62).toNat).drop 1)).1,Lib.indexByte s 62+1)else(kQ,0)):=by
 have e:aR s=if Lib.indexByte s 62<0 then(kQ,0,false)else((gd ((s.take (Lib.indexByte s 62).toNat).drop 1)).1,Lib.indexByte s 62+1,(gd ((s.take (Lib.indexByte s 62).toNat).drop 1)).2):=by
  simp only[aR,h0];rw[if_neg (by decide),if_pos trivial]
 rw[iH,e]
 by_cases hi:Lib.indexByte s 62<0
 ·simp[hi]
 ·rw[if_neg hi,if_neg hi,Oc,Lu];generalize gd ((s.take (Lib.indexByte s 62).toNat).drop 1)=p;obtain⟨x,b⟩:=p;cases b<;>rfl
theorem FQ{s:List UInt8}{c:UInt8}(h:hasPrefix s (dC c)=true):iH s=(⟨1,[c],0⟩,((dC c).length:Int)):=by
 have e:s=dC c++s.drop (dC c).length:=by
  simp only[hasPrefix,aB,decide_eq_true_eq,beq_iff_eq]at h
  conv=>lhs;rw[← List.take_append_drop (dC c).length s,h.2]
 rw[iH,e,AL];simp
theorem qi{x:It}(hk:x.kind≠1)(h:bh none x=true):∃ r,bT x=60::r∨(bT x=123::(x.text++[125])∧isName x.text=true):=by
 simp only[bh,if_neg hk]at h;simp only[bT,if_neg hk]
 by_cases k5:x.kind=5
 ·rw[if_pos k5,aB]at h;refine⟨[],.inr ⟨?_,h.1⟩⟩;simp[k5]
 ·rw[if_neg k5]at h
  by_cases k2:x.kind=2
  ·exact⟨_,.inl (by rw[if_pos k2])⟩
  ·by_cases k4:x.kind=4
   ·exact⟨_,.inl (by rw[if_neg k2,if_neg (by omega),if_pos k4])⟩
   ·rw[if_neg (by omega)]at h
    by_cases k3:x.kind=3
    ·exact⟨_,.inl (by rw[if_neg k2,if_pos k3])⟩
    ·rw[if_neg k3]at h;simp at h
theorem FP{s:List UInt8}(hs:s≠[])(Tc:s.getD 0 0≠60)(pB:s.getD 0 0≠123)(h:∀ c,hasPrefix s (dC c)=false):iH s=(kQ,0):=by
 refine tR ?_;apply bd;intro ht;rcases th hs (by simpa using ht)with⟨c,_,he⟩ | ⟨hk,hf,he⟩
 ·have:=h c;rw[he]at this;simp[hasPrefix]at this
 ·obtain⟨r,h1 | ⟨h1,_⟩⟩:=qi hk hf
  ·rw[h1]at he;rw[he]at Tc;simp at Tc
  ·rw[h1]at he;rw[he]at pB;simp at pB
theorem Fz:∀ c:UInt8,(dC c).getD 0 0≠123∧dC c≠[]:=fO (by decide +kernel)
theorem FN{s:List UInt8}{k:Nat}(pB:s.getD 0 0=123)(sk:1≤k)(hk:k<s.length)(hb:s.getD k 0=125)(hn:isName ((s.take k).drop 1)=true):
  iH s=(⟨5,(s.take k).drop 1,0⟩,(k:Int)+1):=by
 have e:s=123::((s.take k).drop 1++125::s.drop (k+1)):=by
  cases s with
  | nil=>simp at hk
  | cons a s =>
   simp only[ar]at pB;subst pB;obtain⟨m,rfl⟩:∃ m,k=m+1:=⟨k - 1,by omega⟩;simp only[ag]at hk;have hm:m<s.length:=by omega
   simp only[gu,qW,C7];congr 1
   conv=>lhs;rw[← List.take_append_drop m s]
   congr 1;rw[dM hm];congr 1;rw[aC,List.getD_eq_getElem?_getD,ao hm]at hb;simpa using hb
 have hl:((s.take k).drop 1).length=k - 1:=by rw[bB,ba];omega
 have:=AJ ((s.take k).drop 1) (s.drop (k+1)) hn;rw[← e]at this;rw[iH,this];simp only[if_true,hl];congr 1;omega
theorem Be{s:List UInt8}(pB:s.getD 0 0=123)(h:∀ k,1≤k→k<s.length→k≤25→¬ (s.getD k 0=125∧isName ((s.take k).drop 1)=true)):iH s=(kQ,0):=by
 have hs:s≠[]:=by rintro rfl;simp at pB
 refine tR ?_;apply bd;intro ht;rcases th hs (by simpa using ht)with⟨c,_,he⟩ | ⟨hk,hf,he⟩
 ·have h1:=Fz c;rw[he]at pB;cases hw:dC c with
  | nil=>exact h1.2 hw
  | cons a w =>
   rw[hw]at pB h1;exact h1.1 (by simpa using pB)
 ·obtain⟨r,h1 | ⟨h1,hn⟩⟩:=qi hk hf
  ·rw[h1]at he;rw[he]at pB;simp at pB
  ·rw[h1]at he;generalize (aR s).1.text=t at *
   have hl:t.length≤24:=by
    cases t with
    | nil=>simp
    | cons c t =>
     simp only[isName,aB,decide_eq_true_eq]at hn;exact hn.1.1
   generalize s.drop (aR s).2.1.toNat=d at he;have e:s=(123::t)++125::d:=by rw[he];simp
   refine h (t.length+1) (by omega) (by rw[e];simp) (by omega) ⟨?_,?_⟩
   ·rw[e];rw[show t.length+1=(123::t).length by simp,Uz]
   ·rw[e];rw[show t.length+1=(123::t).length by simp];simpa using hn
def gk:Nat→List It→Int→List UInt8→Int→List It×Int×Int
 | 0,_,_,_,at'=>([],at',2)
 | _+1,f,_,[],_=>(f,0,0)
 | n+1,f,len,c::l,at' =>
  let p:=iH (c::l)
  if p.2=0 then([],at',2)else if p.1.kind≠1∧eF f p.1≠0 then([],at',eF f p.1)else
  let g:=normalize (f++[p.1])
  if 512<g.length∨1024<len+1 then([],at',3)else gk n g (len+1) ((c::l).drop p.2.toNat) (at'+p.2)
theorem y9(f:List It)(x:It):oo (f++[x])=ck (oo f) x:=by simp[oo]
theorem hZ{f:List It}{x:It}(h:normalize f=f):normalize (f++[x])=ck f x:=by
 rw[← nq,y9,nq,h]
theorem y8{f:List It}{t:List UInt8}{c:UInt8}(h:∀ x,f.getLast?=some x→x.kind≠1):ck (closed f t) ⟨1,[c],0⟩=closed f (t++[c]):=by
 by_cases ht:t=[]
 ·subst ht;rw[eE];simp only[ck,closed,ne_eq,not_true,if_false,aG];rw[if_neg (by simp),if_neg (by simp)];cases hg:f.getLast? with
  | none=>rfl
  | some y=>simp only[if_neg (h y hg)]
 ·simp[ck,closed,ht]
theorem lx{f:List It}{x:It}(h:x.kind≠1):ck f x=f++[x]:=by simp[ck,h]
theorem D7{f:List It}{t:List UInt8}(h3:normalize f=f)(h:∀ x,f.getLast?=some x→x.kind≠1):normalize (closed f t)=closed f t:=by
 by_cases ht:t=[]
 ·subst ht;rw[eE];exact h3
 ·have e:closed f t=f++[⟨1,t,0⟩]:=by simp[closed,ht]
  rw[e,hZ h3];simp only[ck,ne_eq,not_true,if_false,if_neg ht];cases hg:f.getLast? with
  | none=>rfl
  | some y=>simp only[if_neg (h y hg)]
theorem IT:∀ (n:Nat) (f:List It) (t l:List UInt8) (at':Int),bD [] (closed f t)=0→(∀ x,f.getLast?=some x→x.kind≠1)→normalize f=f →
  gk n (closed f t) ((total f+t.length:Nat):Int) l at'=iI n (lX f t) l at':=by
 intro n
 induction n with
 | zero=>intros;rfl
 | succ n ih =>
  intro f t l at' h1 h2 h3;have h4:=D7 (t:=t) h3 h2;cases l with
  | nil=>simp only[gk,iI,wZ]
  | cons c l =>
   have hf:bD [] f=0:=by
    simp only[closed]at h1;split at h1
    ·exact h1
    ·rw[eX]at h1;exact h1.1
   simp only[gk,iI]
   by_cases he:(aR (c::l)).2.2=true
   ·have gC:=(oY (s:=c::l) (by simp)).2.2 he;have hr:iH (c::l)=((aR (c::l)).1,(aR (c::l)).2.1):=by rw[iH,if_pos he]
    simp only[hr,he,G6,if_false];rw[if_neg (by omega)];rcases th (s:=c::l) (by simp) he with⟨b,e0,_⟩ | ⟨e0,e1,_⟩
    ·rw[e0,w4,if_neg (by simp),hZ h4,y8 h2]
     have ht:(512<(closed f (t++[b])).length∨(1024:Int)<((total f+t.length:Nat):Int)+1)↔jm f t ⟨1,[b],0⟩:=by
      simp only[jm,r7,List.length_append,ag,ai,ne_eq,not_true,false_or]
      by_cases h0:t.length=0
      ·rw[if_pos (by omega),if_neg (by omega),if_pos h0];omega
      ·rw[if_pos (by omega),if_pos (by omega),if_neg h0];omega
     by_cases hm:jm f t ⟨1,[b],0⟩
     ·rw[if_pos (ht.2 hm),if_pos hm];simp
     ·rw[if_neg (fun h=>hm (ht.1 h)),if_neg hm];simp only[ne_eq,not_true,if_false];have aU:closed f (t++[b])=f++[⟨1,t++[b],0⟩]:=by simp[closed]
      have hv:bD [] (closed f (t++[b]))=0:=by
       rw[aU,eX];refine⟨hf,?_,by simp[cX]⟩;simp only[bh,if_true,aG,aB];refine⟨⟨by simp,by simp⟩,?_⟩;cases hg:f.getLast? with
       | none=>rfl
       | some y=>simpa using h2 y hg
      have:=ih f (t++[b]) ((c::l).drop (aR (c::l)).2.1.toNat) (at'+(aR (c::l)).2.1) hv h2 h3;rw[← this];congr 1;simp;omega
    ·rw[w3 _ _ _ e0,yr hf e1]
     have CC:eF (closed f t) (aR (c::l)).1=if(cX (aR (c::l)).1&&!fits (closed f t) (aR (c::l)).1)=true then 7 else 0:=by
      simp only[eF,jE e0,e1];simp
     rw[CC]
     by_cases aU:(cX (aR (c::l)).1&&!fits (closed f t) (aR (c::l)).1)=true
     ·simp[aU,e0]
     ·rw[if_neg aU,if_neg aU,if_neg (by simp),hZ h4,lx e0]
      have ht:(512<(closed f t++[(aR (c::l)).1]).length∨(1024:Int)<((total f+t.length:Nat):Int)+1)↔jm f t (aR (c::l)).1:=by
       simp only[jm,e0,r7,List.length_append,ag,ai,ne_eq,not_false_eq_true,true_or,if_true];omega
      by_cases hm:jm f t (aR (c::l)).1
      ·rw[if_pos (ht.2 hm),if_pos hm];simp
      ·rw[if_neg (fun h=>hm (ht.1 h)),if_neg hm];simp only[ne_eq,not_true,if_false]
       have hv:bD [] (closed (closed f t++[(aR (c::l)).1]) [])=0:=by
        rw[eE,eX];refine⟨h1,?_,by simpa using aU⟩;rw[jE e0];exact e1
       have hn:normalize (closed f t++[(aR (c::l)).1])=closed f t++[(aR (c::l)).1]:=by
        rw[hZ h4,lx e0]
       have:=ih (closed f t++[(aR (c::l)).1]) [] ((c::l).drop (aR (c::l)).2.1.toNat) (at'+(aR (c::l)).2.1) hv (by
        intro x hx;simp only[lp,jN,se,aa]at hx;subst hx;exact e0) hn
       rw[← this,eE];congr 1;have hw:wid (aR (c::l)).1=1:=by simp[wid,e0]
       simp[ij,oI,nW,hw]
   ·have he:(aR (c::l)).2.2=false:=by simpa using he
    rw[tR he];simp[he]
theorem wV:∀ (n:Nat) (f:List It) (len:Int) (l:List UInt8) (at':Int),(gk n f len l at').2.2=0→(gk n f len l at').2.1=0
 | 0,_,_,_,_,h=>by simp[gk]at h
 | n+1,f,len,[],at',_=>rfl
 | n+1,f,len,c::l,at',h=>by
  simp only[gk]at h ⊢;split
  ·rename_i h1;rw[if_pos h1]at h;simp at h
  ·rename_i h1;rw[if_neg h1]at h;split
   ·rename_i h2;rw[if_pos h2]at h;exact absurd h h2.2
   ·rename_i h2;rw[if_neg h2]at h;split
    ·rename_i h3;rw[if_pos h3]at h;simp at h
    ·rename_i h3;rw[if_neg h3]at h;exact wV n _ _ _ _ h
theorem u6:∀ (n:Nat) (f:List It) (len:Int) (l:List UInt8) (at':Int),(gk n f len l at').2.2≠0→(gk n f len l at').1=[]
 | 0,_,_,_,_,_=>rfl
 | n+1,f,len,[],at',h=>by simp[gk]at h
 | n+1,f,len,c::l,at',h=>by
  simp only[gk]at h ⊢;split
  ·rfl
  ·rename_i h1;rw[if_neg h1]at h;split
   ·rfl
   ·rename_i h2;rw[if_neg h2]at h;split
    ·rfl
    ·rename_i h3;rw[if_neg h3]at h;exact u6 n _ _ _ _ h
theorem x8:∀ (f out:List It),bp (f.foldl ck out)≤bp out+bp f∧(f.foldl ck out).length≤out.length+f.length
 | [],out=>by simp[bp]
 | x::f,out=>by
  have h1:=pX out x;have h2:=x8 f (ck out x);simp only[cj,bp,ag];omega
theorem F8(f:List It):bp (normalize f)≤bp f∧(normalize f).length≤f.length:=by
 have h:=x8 f [];rw[← nq];simpa[oo,bp]using h
theorem zh{x:It}(hk:x.kind≠1)(h:bh none x=true):x.text.length≤(bT x).length:=by
 simp only[bh,if_neg hk]at h;simp only[bT,if_neg hk]
 by_cases k2:x.kind=2
 ·simp[k2];omega
 ·by_cases k3:x.kind=3
  ·simp[k3];omega
  ·by_cases k4:x.kind=4
   ·simp[k4];omega
   ·by_cases k5:x.kind=5
    ·simp[k5];omega
    ·simp[k2,k3,k4,k5]at h
theorem FM{s:List UInt8}(hs:s≠[]):(iH s).2≠0→1≤(iH s).2∧(iH s).2≤s.length∧((iH s).1.text.length:Int)≤(iH s).2:=by
 have h:=oY hs;simp only[iH]
 by_cases he:(aR s).2.2=true
 ·rw[if_pos he];intro _;have h2:=h.2.2 he;refine⟨h2.1,h2.2,?_⟩;have hl:(s.drop (aR s).2.1.toNat).length=s.length - (aR s).2.1.toNat:=bB ..;rcases th hs he with⟨c,e,_⟩ | ⟨e0,e1,e2⟩
  ·rw[e];simp;omega
  ·have h3:=zh e0 e1;have h4:=congrArg List.length e2;rw[List.length_append,hl]at h4;simp only;omega
 ·rw[if_neg he];simp
def tS(s:List UInt8):List It×Int×Int:=gk (s.length+1) [] 0 s 0
theorem Bf(s:List UInt8):tS s=parse s:=by
 have:=IT (s.length+1) [] [] s 0 (by simp[closed,bD]) (by simp) rfl;rw[eE]at this;exact this
theorem AN:∀ (x y:List UInt8),fa x y = -1∨fa x y=0∨fa x y=1
 | [],[]=>by simp[fa]
 | [],_::_=>by simp[fa]
 | _::_,[]=>by simp[fa]
 | a::x,b::y=>by
  simp only[fa];split
  ·simp
  ·split
   ·simp
   ·exact AN x y
theorem AE:∀ (m l:List Int),∃ r,m.foldl jJ l=l++r
 | [],l=>⟨[],by simp⟩
 | n::m,l=>by
  obtain⟨r,hr⟩:=AE m (jJ l n);simp only[cj,hr]
  by_cases h:l.contains n=true
  ·exact⟨r,by simp only[jJ,h,if_true]⟩
  ·exact⟨n::r,by simp only[jJ,h];simp⟩
theorem EH:∀ (m l:List Int),(∀ n∈m,n∈l)→m.foldl jJ l=l
 | [],_,_=>rfl
 | n::m,l,h=>by
  have e:jJ l n=l:=by
   have:l.contains n=true:=by simpa using h n (by simp)
   simp only[jJ,this,if_true]
  simp only[cj,e];exact EH m l fun k hk=>h k (by simp[hk])
theorem Dy:∀ (f1 f2 t1 t2:List Int) (x:Int),f1.length=t1.length→x∈f1→DA (f1++f2) (t1++t2) x=DA f1 t1 x
 | [],_,_,_,_,_,h=>by simp at h
 | a::f1,f2,[],t2,x,hl,_=>by simp at hl
 | a::f1,f2,b::t1,t2,x,hl,h=>by
  simp only[aJ,DA]
  by_cases hx:x=a
  ·rw[if_pos hx,if_pos hx]
  ·rw[if_neg hx,if_neg hx];refine Dy f1 f2 t1 t2 x (by simpa using hl) ?_;rcases aY.1 h with h | h
   ·exact absurd h hx
   ·exact h
theorem CQ(a b:Nat):∃ r,dH (a+b)=dH a++r:=by
 refine⟨((List.range b).map (a+·)).map fun(i:Nat)=>(i:Int)+1,?_⟩;simp only[dH,List.range_add,yK]
theorem CP(a:Nat):(dH a).length=a:=by simp[dH]
theorem SH{s:List It}{x:It}(hx:x∈s)(ht:cX x=true):x.id∈numbers s:=by
 simp only[numbers,iJ];refine uO _ ?_;simp only[dI,qE];exact⟨x,⟨hx,ht⟩,rfl⟩
theorem EJ{α β:Type}{f g:α→Option β}:∀ {l:List α},(∀ x∈l,f x=g x)→l.filterMap f=l.filterMap g
 | [],_=>rfl
 | x::l,h=>by
  simp only[jH,h x (by simp)];rw[EJ fun y hy=>h y (by simp[hy])]
theorem GW(s t:List It):lj s t=lj s s:=by
 have e0:∀ l m:List Int,ef l m=m.foldl jJ l:=fun _ _=>rfl;obtain⟨r,hr⟩:=AE (numbers t) (numbers s);have e1:cN s t=numbers s++r:=by simp only[cN,e0,hr]
 have e2:cN s s=numbers s:=by simp only[cN,e0];exact EH _ _ fun _ h=>h
 obtain⟨q,hq⟩:=CQ (numbers s).length r.length;simp only[lj,e1,e2,List.length_append,hq,rename];congr 1;simp only[renamed];refine EJ fun x hx=>?_;simp only[Kl]
 by_cases ht:cX x=true
 ·rw[if_pos ht,if_pos ht,Dy _ _ _ _ _ (CP _).symm (SH hx ht)]
 ·rw[if_neg ht,if_neg ht]
theorem EX(s:List It):nO s s=lj s s:=rfl
theorem Nt{e:En}(h:cM e=0):cM (asked e)=0:=by
 simp only[cM]at h ⊢;split at h
 ·rename_i h1;exact absurd h h1
 ·rename_i h1;split at h
  ·rename_i h2;exact absurd h h2
  ·split at h
   ·simp at h
   ·rename_i h3;split at h
    ·rename_i h4;exact absurd h h4
    ·rename_i h4;split at h
     ·rename_i h5;exact absurd h h5
     ·rename_i h5;have hc:lD e=true:=by simpa using h3
      simp only[lD,aB]at hc
      have vz:lD (asked e)=true:=by
       simp only[lD,asked,aB,EX];rw[← GW e.source e.target];exact⟨⟨hc.1.1,hc.1.2⟩,hc.1.2⟩
      have hn:(named (asked e).cw&&named (asked e).bV)=true:=rfl
      rw[if_neg (show ¬ bC (asked e).source≠0 from h1),if_neg (show ¬ bC (asked e).target≠0 from h1),if_neg (by rw[vz];simp),
       if_neg (show ¬ (parse (asked e).bN).2.2≠0 from h4),if_neg (show ¬ (parse (asked e).next).2.2≠0 from h5),if_neg (by rw[hn];simp),if_neg (by simp[asked])]
theorem D4{o:bc}(h:dQ o=0)(hv:cM (looked o)=0):bE o=kG (asked o.entry):=by
 simp only[bE,h,ne_eq,not_true,if_false,looked]at hv ⊢
 by_cases hk:o.kind≠2
 ·rw[if_pos hk]at hv ⊢;simp only[kG,hv,Nt hv,ne_eq,not_true,if_false];rfl
 ·rw[if_neg hk]
def tg(f:List It):List It:=f.filter cX
theorem ji(a b:List It):tg (a++b)=tg a++tg b:=by simp[tg]
theorem A7{x:It}(h:cX x=true):tg [x]=[x]:=by simp[tg,h]
theorem qJ{x:It}(h:cX x=false):tg [x]=[]:=by simp[tg,h]
theorem rU(t:List UInt8)(i:Int):cX ⟨1,t,i⟩=false:=by simp[cX]
theorem vv{x:It}(h:x.kind=1):cX x=false:=by simp[cX,h]
theorem Ha{x:It}(h1:x.kind=1)(h2:x.id=0):(⟨1,x.text,0⟩:It)=x:=by
 obtain⟨k,t,i⟩:=x;simp only at h1 h2;subst h1;subst h2;rfl
theorem AG{p:Option It}{x:It}(hk:x.kind=1)(h:bh p x=true):x.text≠[]∧x.id=0∧∀ y,p=some y→y.kind≠1:=by
 simp only[bh,hk,if_true,aB,bU,beq_eq_false_iff_ne,beq_iff_eq]at h;refine⟨h.1.1,h.1.2,fun y hy=>?_⟩;subst hy;simpa using h.2
theorem oW{p:Option It}{t:List UInt8}(h1:t≠[])(h2:∀ y,p=some y→y.kind≠1):bh p ⟨1,t,0⟩=true:=by
 simp only[bh,if_true,aB,bU,beq_eq_false_iff_ne,beq_iff_eq];refine⟨⟨h1,trivial⟩,?_⟩;cases p with
 | none=>rfl
 | some y=>simpa using h2 y rfl
theorem xx{f:List It}:bD [] f=0→normalize f=f:=by
 refine Bh (p:=fun f=>bD [] f=0→normalize f=f) (fun _=>rfl) ?_ f;intro l x ih h;obtain⟨h1,h2,_⟩:=(eX l [] x).1 h;simp only[aG]at h2;rw[hZ (ih h1)]
 by_cases hk:x.kind=1
 ·obtain⟨g1,g2,g3⟩:=AG hk h2;simp only[ck,hk,ne_eq,not_true,if_false,if_neg g1];cases hg:l.getLast? with
  | none=>simp only[Ha hk g2]
  | some y=>simp only[if_neg (g3 y hg),Ha hk g2]
 ·exact lx hk
theorem Ih(f:List It)(x:It):fits f x=fits (tg f) x:=by
 induction f with
 | nil=>rfl
 | cons y f ih =>
  by_cases h:cX y=true
  ·simp only[fits,tg,o7,h,if_true,ey]at ih ⊢;rw[ih]
  ·have h:cX y=false:=by simpa using h
   have hb:ek x y=false:=by simp[ek,h]
   simp only[fits,tg,o7,h,ey,hb,aF,if_false,jd,bu]at ih ⊢;exact ih
theorem mm{f:List It}(t:List UInt8)(h:bD [] f=0):bD [] (normalize (f++[⟨1,t,0⟩]))=0∧tg (normalize (f++[⟨1,t,0⟩]))=tg f:=by
 rw[hZ (xx h)]
 by_cases ht:t=[]
 ·have e:ck f ⟨1,t,0⟩=f:=by simp[ck,ht]
  rw[e];exact⟨h,rfl⟩
 ·revert h;refine Bh (p:=fun f=>bD [] f=0→bD [] (ck f ⟨1,t,0⟩)=0∧tg (ck f ⟨1,t,0⟩)=tg f) ?_ ?_ f
  ·intro _;have e:ck [] ⟨1,t,0⟩=[]++[⟨1,t,0⟩]:=by simp[ck,ht]
   rw[e,eX,ji,qJ (rU t 0),bt];exact⟨⟨rfl,oW ht (by simp),by simp[cX]⟩,rfl⟩
  ·intro l y _ h;obtain⟨h1,h2,h3⟩:=(eX l [] y).1 h
   by_cases hy:y.kind=1
   ·have e:ck (l++[y]) ⟨1,t,0⟩=l++[⟨1,y.text++t,0⟩]:=by simp[ck,ht,hy]
    obtain⟨_,_,g3⟩:=AG hy h2;rw[e,eX,ji,ji,qJ (rU _ 0),qJ (vv hy)];exact⟨⟨h1,oW (by simp[ht]) g3,by simp[cX]⟩,rfl⟩
   ·have e:ck (l++[y]) ⟨1,t,0⟩=(l++[y])++[⟨1,t,0⟩]:=by simp[ck,ht,hy]
    rw[e,eX,ji,qJ (rU _ 0),bt];refine⟨⟨h,oW ht fun z hz=>?_,by simp[cX]⟩,rfl⟩;simp only[aG,lp,jN,se,aa]at hz;subst hz;exact hy
theorem ub{f:List It}{x:It}(h:bD [] f=0)(hk:x.kind≠1)(hx:bh none x=true)(hf:cX x=true→fits f x=true):
  normalize (f++[x])=f++[x]∧bD [] (f++[x])=0:=by
 refine⟨by rw[hZ (xx h),lx hk],?_⟩;rw[eX];refine⟨h,by rw[jE hk];exact hx,?_⟩;rw[aG];cases ht:cX x with
 | false=>rfl
 | true=>rw[hf ht];rfl
structure Fi (f opn:List It) (n:Int):Prop where
 err:bD [] f=0
 ids:∀ z∈tg f,1≤z.id∧z.id≤n
 nd:(opn.map (·.id)).Nodup
 op:∀ y∈opn,isName (dz y.text)=true∧1≤y.id∧y.id≤n∧∀ z∈tg f,z.id=y.id→z.kind=2∧z.text=y.text
theorem Fi.nil:Fi [] [] 0:=⟨rfl,by simp[tg],by simp,by simp⟩
theorem Fi.same{f g opn:List It}{n:Int}(h:Fi f opn n)(h1:bD [] g=0)(h2:tg g=tg f):Fi g opn n :=
 ⟨h1,by rw[h2];exact h.ids,h.nd,by rw[h2];exact h.op⟩
theorem Fi.text{f opn:List It}{n:Int}(h:Fi f opn n)(t:List UInt8):Fi (normalize (f++[⟨1,t,0⟩])) opn n :=
 h.same (mm t h.err).1 (mm t h.err).2
theorem Fi.slot{f opn:List It}{n:Int}(h:Fi f opn n){t:List UInt8}(ht:isName t=true):Fi (normalize (f++[⟨5,t,0⟩])) opn n:=by
 obtain⟨e,he⟩:=ub (x:=⟨5,t,0⟩) h.err (by simp) (by simp[bh,ht]) (by simp[cX]);rw[e];exact h.same he (by rw[ji,qJ (by simp[cX]),bt])
theorem MY{f:List It}{x:It}(h:∀ z∈tg f,z.id≠x.id):fits f x=true:=by
 rw[Ih];simp only[fits,bR];intro z hz;have:=h z hz;simp[ek,this]
theorem Fi.empty{f opn:List It}{n:Int}(h:Fi f opn n){t:List UInt8}(ht:cA t=true)(h0:0≤n)(h9:n<999):Fi (normalize (f++[⟨4,t,n+1⟩])) opn (n+1):=by
 have hT:cX ⟨4,t,n+1⟩=true:=by simp[cX]
 obtain⟨e,he⟩:=ub (x:=⟨4,t,n+1⟩) h.err (by simp) (by simp[bh,ht];omega) (fun _=>MY fun z hz=>by have:=h.ids z hz;simp only;omega);rw[e];refine⟨he,?_,h.nd,?_⟩
 ·intro z hz;rw[ji,A7 hT,List.mem_append,nb]at hz;rcases hz with hz | rfl
  ·have:=h.ids z hz;omega
  ·simp only;omega
 ·intro y hy;obtain⟨o1,o2,o3,o4⟩:=h.op y hy;refine⟨o1,o2,by omega,fun z hz Ww=>?_⟩;rw[ji,A7 hT,List.mem_append,nb]at hz;rcases hz with hz | rfl
  ·exact o4 z hz Ww
  ·simp only at Ww;omega
theorem Fi.close{f opn:List It}{y:It}{n:Int}(h:Fi f (opn++[y]) n)(h9:n≤999):
  Fi (f++[⟨3,dz y.text,y.id⟩]) opn n∧normalize (f++[⟨3,dz y.text,y.id⟩])=f++[⟨3,dz y.text,y.id⟩]:=by
 have hT:cX ⟨3,dz y.text,y.id⟩=true:=by simp[cX]
 obtain⟨o1,o2,o3,o4⟩:=h.op y (by simp)
 obtain⟨e,he⟩:=ub (x:=⟨3,dz y.text,y.id⟩) h.err (by simp) (by simp[bh,o1];omega) (fun _=>by
  rw[Ih];simp only[fits,bR];intro z hz
  by_cases hi:z.id=y.id
  ·obtain⟨z1,z2⟩:=o4 z hz hi;simp[ek,z1,z2]
  ·simp[ek,hi])
 have T8:=h.nd;rw[yK,List.nodup_append]at T8;refine⟨⟨he,?_,T8.1,?_⟩,e⟩
 ·intro z hz;rw[ji,A7 hT,List.mem_append,nb]at hz;rcases hz with hz | rfl
  ·exact h.ids z hz
  ·exact⟨o2,o3⟩
 ·intro x hx;obtain⟨p1,p2,p3,p4⟩:=h.op x (by simp[hx]);refine⟨p1,p2,p3,fun z hz Ww=>?_⟩;rw[ji,A7 hT,List.mem_append,nb]at hz;rcases hz with hz | rfl
  ·exact p4 z hz Ww
  ·have:=T8.2.2 x.id (dI.2 ⟨x,hx,rfl⟩) y.id (by simp);exact absurd Ww.symm this
structure Q9 (pre f:List It):Prop where
 err:bD [] f=0
 tags:tg f=tg pre
theorem Q9.nil:Q9 [] []:=⟨rfl,rfl⟩
theorem Q9.more{pre f:List It}(h:Q9 pre f)(t:List UInt8):Q9 pre (normalize (f++[⟨1,t,0⟩])) :=
 ⟨(mm t h.err).1,(mm t h.err).2.trans h.tags⟩
theorem Q9.text{pre f:List It}{x:It}(h:Q9 pre f)(hk:x.kind=1)(t:List UInt8):Q9 (pre++[x]) (normalize (f++[⟨1,t,0⟩])) :=
 ⟨(mm t h.err).1,by rw[(mm t h.err).2,h.tags,ji,qJ (vv hk),bt]⟩
structure Re (e:En):Prop where
 ok:cM e=0
 FJ:e.source.length≤40
 Ba:bp e.source≤400
 FE:e.target.length≤100
 A6:bp e.target≤900
 prev:e.bN.length≤7
 next:e.next.length≤7
 cw:e.cw.length≤3
 bV:e.bV.length≤3
theorem Ii{p:Option It}{x:It}(h:bh p x=true):0≤x.id∧x.id≤999:=by
 simp only[bh]at h;split at h
 ·simp only[aB,beq_iff_eq]at h;omega
 ·split at h
  ·simp only[aB,beq_iff_eq]at h;omega
  ·split at h
   ·simp only[aB,decide_eq_true_eq]at h;omega
   ·split at h
    ·simp only[aB,decide_eq_true_eq]at h;omega
    ·simp at h
theorem zS{f:List It}(h:bC f=0):∀ x∈f,0≤x.id∧x.id≤999:=by
 simp only[bC]at h;split at h
 ·simp at h
 ·intro x hx;exact Ii (lz f [] h x hx)
theorem C1{e:En}(h:cM e=0):bC e.source=0∧bC e.target=0:=⟨(qu h).source,(qu h).target⟩
theorem Re.small{e:En}(h:Re e):e.small:=by
 have:=C1 h.ok;have h1:=h.FJ;have h2:=h.Ba;have h3:=h.FE;have h4:=h.A6;have h5:=h.prev;have h6:=h.next;refine⟨by omega,by omega,by omega,by omega,by omega,by omega,fun x hx=>?_⟩;rcases List.mem_append.1 hx with hx | hx
 ·have:=zS this.1 x hx;omega
 ·have:=zS this.2 x hx;omega
structure Rc (o:bc):Prop where
 ok:dQ o=0
 off:o.aT.bP<3
 src:bD [] o.entry.source=0
 FJ:o.entry.source.length≤40
 Ba:bp o.entry.source≤400
 small:o.small
 FE:o.entry.target.length≤100
 A6:bp o.entry.target≤1200
 ctx:o.entry.bN.length≤7∧o.entry.next.length≤7∧o.entry.cw.length≤3∧o.entry.bV.length≤3
theorem EI{f:List It}(h:bD [] f=0):(format f).1.length≤4*bp f+30*f.length:=by
 have hk:=lz f [] h
 have key:∀ f:List It,(∀ x∈f,bh none x=true)→(f.flatMap bT).length≤4*bp f+30*f.length:=by
  intro f
  induction f with
  | nil=>intro _;simp
  | cons x f ih =>
   intro h;have h1:=ih fun y hy=>h y (by simp[hy]);have h3:=Ii (h x (by simp));have h2:=l8 x (by omega);simp only[eV,List.length_append,bp,ag];omega
 have:=key f hk;simp only[format];split
 ·simp
 ·exact this
theorem PX{o:bc}(h:Rc o):(dV o).length≤20000:=by
 have h1:=EI h.src;have h2:=h.FJ;have h3:=h.Ba;have h4:=h.FE;have h5:=h.A6;have h6:=h.ctx;have F:=D2 h.ok;have WG:=F.Hg
 have vZ:∀ l:List Int,(l.flatMap pt).length=2*l.length:=by
  intro l
  induction l with
  | nil=>rfl
  | cons a r ih=>simp only[eV,List.length_append,eR,ih,ag];omega
 have h7:o.kind=1→(format o.entry.target).1.length≤8000:=by
  intro hk;have e:looked o=o.entry:=by simp[looked,hk]
  have hl:=F.looked;rw[e]at hl;have hv:=(qu hl).target;simp only[bC]at hv;split at hv
  ·simp at hv
  ·have:=EI hv;omega
 simp only[dV,cY,List.length_append,dA,eR,ag,ai,vZ];split
 ·have:=h7 (by assumption);simp only[List.length_append,dA,ag,ai];omega
 ·simp only[ai];omega
theorem tY{a b:bc}:eJ a b<0↔a.aT.bP<b.aT.bP∨(a.aT.bP=b.aT.bP∧a.aT.number<b.aT.number):=by
 simp only[eJ,qN,eT]
 (repeat' split)<;>omega
theorem xp{a b:bc}:eJ a b=0↔a.aT.bP=b.aT.bP∧a.aT.number=b.aT.number:=by
 simp only[eJ,qN,eT]
 (repeat' split)<;>omega
abbrev Ir(l:List bc):Prop:=l.Pairwise fun a b=>eJ a b<0
def rV(l:List bc)(x:bc):Nat:=(l.takeWhile fun y=>decide (eJ y x<0)).length
def JE(l:List bc)(x:bc):List bc:=l.take (rV l x)++x::l.drop (rV l x)
theorem Po(l:List bc)(x:bc):rV l x≤l.length:=List.Sublist.length_le (List.takeWhile_sublist _)
theorem JI{l:List bc}(h:Ir l)(x:bc):∀ (k:Nat) (y:bc),l[k]?=some y→(0≤eJ y x↔rV l x≤k):=by
 induction l with
 | nil=>intro k y h;simp at h
 | cons a l ih =>
  replace h:=dE.1 h
  intro k y hk
  by_cases ha:eJ a x<0
  ·have e:rV (a::l) x=rV l x+1:=by simp[rV,iF,ha]
   cases k with
   | zero=>simp only[ax,aa]at hk;subst hk;omega
   | succ k =>
    have:=ih h.2 k y (by simpa using hk);omega
  ·have e:rV (a::l) x=0:=by simp[rV,iF,ha]
   rw[e];refine⟨fun _=>gF _,fun _=>?_⟩;cases k with
   | zero=>simp only[ax,aa]at hk;subst hk;omega
   | succ k =>
    have hy:y∈l:=aN (by simpa using hk);have h1:=h.1 y hy;refine bd fun hn=>ha ?_;have h2:eJ y x<0:=by omega
    rw[tY]at h1 h2 ⊢;omega
theorem qb{l:List bc}{x y:bc}:y∈JE l x↔y=x∨y∈l:=by
 have:y∈l↔y∈l.take (rV l x)∨y∈l.drop (rV l x):=by rw[← List.mem_append,List.take_append_drop]
 simp only[JE,List.mem_append,aY,this];constructor
 ·rintro(h | h | h)
  ·exact .inr (.inl h)
  ·exact .inl h
  ·exact .inr (.inr h)
 ·rintro(h | h | h)
  ·exact .inr (.inl h)
  ·exact .inl h
  ·exact .inr (.inr h)
theorem Ma(l:List bc)(x:bc):(JE l x).length=l.length+1:=by
 have:=Po l x;simp only[JE,List.length_append,ba,ag,bB];omega
theorem JD{l:List bc}(h:Ir l){x:bc}(hx:∀ y∈l,eJ y x≠0):Ir (JE l x):=by
 have hs:=JI h x;refine List.pairwise_append.2 ?_;rw[dE];refine⟨h.sublist (List.take_sublist _ _),⟨fun y hy=>?_,h.sublist (List.drop_sublist _ _)⟩,fun a ha b hb=>?_⟩
 ·obtain⟨k,hk⟩:=ee.1 hy;rw[dp]at hk;have h1:=(hs _ y hk).2 (by omega);have h2:=hx y (ff hy);have h3:¬ eJ y x<0:=by omega
  rw[tY]at h3 ⊢;rw[ne_eq,xp]at h2;omega
 ·have h1:eJ a x<0:=by
   obtain⟨k,hk⟩:=ee.1 ha;rw[fT]at hk;split at hk
   ·have:=hs k a hk;omega
   ·cases hk
  rcases aY.1 hb with rfl | hb
  ·exact h1
  ·obtain⟨k,hk⟩:=ee.1 hb;rw[dp]at hk;have h2:=(hs _ b hk).2 (by omega);have h3:¬ eJ b x<0:=by omega
   rw[tY]at h1 h3 ⊢;omega
theorem Ak{α:Type}:∀ {l m:List α},l.Nodup→(∀ x∈l,x∈m)→l.length≤m.length
 | [],_,_,_=>gF _
 | a::l,m,hn,h=>by
  rw[List.nodup_cons]at hn;obtain⟨s,t,rfl⟩:=List.append_of_mem (h a (by simp))
  have:=Ak (m:=s++t) hn.2 fun x hx=>by
   have h1:=h x (by simp[hx]);simp only[List.mem_append,aY]at h1 ⊢;rcases h1 with h1 | h1 | h1
   ·exact .inl h1
   ·subst h1;exact absurd hx hn.1
   ·exact .inr h1
  simp only[List.length_append,ag]at this ⊢;omega
structure Nx (M:List bc):Prop where
 gen:∀ x∈M,Rc x
 off:∀ x∈M,x.aT.bP≠0
 one:∀ x∈M,∀ y∈M,eJ x y=0→x=y
 len:M.length≤10
structure Recv (M:List bc) (o:cp):Prop where
 num:o.number=0
 down:o.down=false
 sub:∀ x∈o.ops,x∈M
 sort:Ir o.ops
 top:∀ x∈o.ops,x.aT.time≤o.clock
 clk:o.clock=0∨∃ x∈o.ops,o.clock=x.aT.time
 log:o.log.length≤60008*o.ops.length
theorem Ol{x:bc}(h:dQ x=0):1≤x.aT.time∧0≤x.aT.bP∧x.aT.number≤128:=by
 simp only[dQ]at h;split at h
 ·simp at h
 ·rename_i hs;simp only[gH,tJ,decide_eq_true_eq]at hs;omega
theorem rR(x:bc):eJ x x=0:=xp.2 ⟨rfl,rfl⟩
theorem Recv.len{M:List bc}{o:cp}(h:Recv M o):o.ops.length≤M.length:=by
 refine Ak ?_ h.sub;refine h.sort.imp fun {a b} rH e=>?_;subst e;rw[rR]at rH;omega
theorem Recv.small{M:List bc}{o:cp}(hM:Nx M)(h:Recv M o):o.small:=by
 have h1:=h.len;have h2:=hM.len;have h3:=h.log;exact⟨fun x hx=>(hM.gen x (h.sub x hx)).small,by omega,by omega⟩
def hY(o:cp)(x:bc):cp:=if o.ops.any (fun y=>eJ y x==0)then o else gJ o x (rV o.ops x)
theorem Ap{M:List bc}{o:cp}(hM:Nx M)(h:Recv M o){x:bc}(hx:x∈M):o.ops.any (fun y=>eJ y x==0)=true↔x∈o.ops:=by
 rw[wi];constructor
 ·rintro⟨y,hy,he⟩;have:=hM.one y (h.sub y hy) x hx (by simpa using he);exact this▸hy
 ·exact fun hx=>⟨x,hx,by simp[rR]⟩
theorem K9{M:List bc}{o:cp}(hM:Nx M)(h:Recv M o){x y:bc}(hx:x∈M):y∈(hY o x).ops↔y=x∨y∈o.ops:=by
 by_cases hk:o.ops.any (fun y=>eJ y x==0)=true
 ·rw[hY,if_pos hk];have:=(Ap hM h hx).1 hk;exact⟨.inr,fun h=>h.elim (fun e=>e▸this) id⟩
 ·rw[hY,if_neg hk];exact qb
theorem La{M:List bc}{o:cp}(hM:Nx M)(h:Recv M o){x:bc}(hx:x∈M):Recv M (hY o x):=by
 by_cases hk:o.ops.any (fun y=>eJ y x==0)=true
 ·rw[hY,if_pos hk];exact h
 ·rw[hY,if_neg hk];have hn:x ∉ o.ops:=fun hh=>hk ((Ap hM h hx).2 hh);have ht:=(Ol (hM.gen x hx).ok).1;refine⟨h.num,h.down,fun y hy=>?_,JD h.sort fun y hy he=>hn (hM.one y (h.sub y hy) x hx he▸hy),fun y hy=>?_,?_,?_⟩
  ·rcases qb.1 hy with rfl | hy
   ·exact hx
   ·exact h.sub y hy
  ·simp only[gJ];rcases qb.1 hy with rfl | hy
   ·split<;>omega
   ·have:=h.top y hy;split<;>omega
  ·right;simp only[gJ]
   by_cases hc:o.clock<x.aT.time
   ·rw[if_pos hc];exact⟨x,qb.2 (.inl rfl),rfl⟩
   ·rw[if_neg hc];rcases h.clk with h0 | ⟨y,hy,he⟩
    ·omega
    ·exact⟨y,qb.2 (.inr hy),he⟩
  ·have h1:=PX (hM.gen x hx);have h2:=h.log;have h3:=Ma o.ops x;simp only[JE,List.length_append]at h3;simp only[gJ,List.length_append,sH];omega
theorem od{M:List bc}(hM:Nx M):∀ (xs:List bc) {o:cp},Recv M o→(∀ x∈xs,x∈M)→Recv M (xs.foldl hY o)∧∀ y,y∈(xs.foldl hY o).ops↔y∈xs∨y∈o.ops
 | [],o,h,_=>⟨h,fun y=>by simp⟩
 | x::xs,o,h,hs=>by
  have hx:=hs x (by simp);have:=od hM xs (La hM h hx) fun y hy=>hs y (by simp[hy]);refine⟨this.1,fun y=>?_⟩;rw[cj,this.2,K9 hM h hx,aY];constructor
  ·rintro(h | h | h)
   ·exact .inl (.inr h)
   ·exact .inl (.inl h)
   ·exact .inr h
  ·rintro((h | h) | h)
   ·exact .inr (.inl h)
   ·exact .inl h
   ·exact .inr (.inr h)
theorem F5(x:bc):jo x x=0:=by
 have h:∀ l:List UInt8,fa l l=0:=by
  intro l
  induction l with
  | nil=>rfl
  | cons a l ih=>simp[fa,ih]
 simp[jo,qN,eT,h]
structure OpG (x:bc):Prop where
 ok:dQ x=0
 small:x.small
 enc:(dV x).length≤20000
structure Arr (n:Int) (arr:List bc):Prop where
 op:∀ x∈arr,OpG x
 one:arr.Pairwise fun a b=>eJ a b≠0
 own:∀ (j:Nat) (y:bc),(arr.filter fun x=>x.aT.bP==n)[j]?=some y→y.aT.number=j+1
theorem Arr.take{n:Int}{arr:List bc}(h:Arr n arr)(k:Nat):Arr n (arr.take k):=by
 refine⟨fun x hx=>h.op x (dd hx),h.one.sublist (List.take_sublist _ _),fun j y hj=>h.own j y ?_⟩;have e:arr=arr.take k++arr.drop k:=(List.take_append_drop k arr).symm;rw[e,si,az (ab.1 hj).1];exact hj
def KA(l:List (List UInt8)):Prop:=l.Pairwise fun a b=>fa a b<0
structure ac0 (m:List En):Prop where
 len:m.length≤1024
 ok:∀ e∈m,cM e=0
 asc:KA (m.map sZ)
def nr(l:List bc)(v:List Int):List bc:=l.filter fun x=>!M9 v x.aT
end Go.Bt
namespace Go.Bt
def jK{α:Type}(q:α→α→Bool):α→List α→List α
 | _,[]=>[]
 | p,y::r=>if q y p then jK q y r else y::jK q y r
def iS{α:Type}(q:α→α→Bool):List α→List α
 | []=>[]
 | x::r=>x::jK q x r
theorem M3{α:Type}(q:α→α→Bool)(l:List α):∀ p,(jK q p l).length≤l.length:=by
 induction l with
 | nil=>intro p;simp[jK]
 | cons y r ih=>intro p;have:=ih y;simp only[jK];split<;>simp<;>omega
theorem LB{α:Type}(q:α→α→Bool){x:α}(l:List α):∀ p,x∈jK q p l→x∈l:=by
 induction l with
 | nil=>intro p h;simp[jK]at h
 | cons y r ih =>
  intro p h;simp only[jK]at h;split at h
  ·exact bz _ (ih y h)
  ·rcases aY.1 h with rfl | h
   ·exact dn ..
   ·exact bz _ (ih y h)
theorem Cd{α:Type}{q:α→α→Bool}{x:α}{l:List α}(h:x∈iS q l):x∈l:=by
 cases l with
 | nil=>simp[iS]at h
 | cons y r =>
  rcases aY.1 h with rfl | h
  ·exact dn ..
  ·exact bz _ (LB q r y h)
theorem CT{α:Type}(q:α→α→Bool)(l:List α):(iS q l).length≤l.length:=by
 cases l with
 | nil=>simp[iS]
 | cons y r=>have:=M3 q r y;simp[iS];omega
theorem II{α:Type}(out junk rest:List α)(p y:α):(out++(junk++p::y::rest)).set out.length y=(out++[y])++((junk++[p]).tail++y::rest):=by
 rw[ed _ _ (aw _),eU];cases junk<;>simp
theorem Qs{α:Type}(out junk rest:List α)(p:α):(out++(junk++p::rest))[out.length+junk.length]?=some p:=by
 rw[← List.append_assoc,aM (by simp)];simp
theorem Qt{α:Type}(out junk rest:List α)(p y:α):(out++(junk++p::y::rest))[out.length+junk.length+1]?=some y:=by
 rw[← List.append_assoc,aM (by simp)];simp
end Go.Bt
namespace Go.Bt
open Go Go.Pm
theorem Lq{x y:bc}(hx:dQ x=0)(hy:dQ y=0)(sx:x.small)(sy:y.small)(h:jo x y=0):x=y:=by
 have h1:=congrFun (congrFun Ai x) y;rw[h]at h1
 have h2:fa (encode x).1 (encode y).1=0:=by
  simp only[Cf]at h1
  (repeat' split at h1)<;>omega
 have h3:=kn.1 h2;rw[GJ hx,GJ hy]at h3;have hd:=yh sx hx;have h3:dV x=dV y:=h3;rw[h3,yh sy hy]at hd;exact(congrArg Prod.fst hd).symm
def nZ(l:List bc):List bc:=l.mergeSort fun a b=>decide (jo a b≤0)
def gL(bf:List cp):List bc:=bf.flatMap cp.ops
def ka(bf:List cp):List bc:=iS (fun a b=>jo a b==0) (nZ (gL bf))
theorem oK{l l':List bc}(hv:∀ x∈l,dQ x=0∧x.small)(hp:l'.Perm l)(hs:l'.Pairwise fun x y=>¬ jo y x<0):l'=nZ l:=by
 have h1:(nZ l).Pairwise fun x y=>¬ jo y x<0:=by
  have:=Yh (le:=fun a b=>decide (jo a b≤0)) (fun a b c h1 h2=>by
   simp only[decide_eq_true_eq]at *;have k1:=gT.jL a b;have k2:=gT.jL b c;have k3:=gT.jL a c;have k4:=gT.trans c b a (by omega) (by omega);omega) (fun a b=>by
   have k1:=gT.jL a b;simp only[fN,decide_eq_true_eq];omega) l
  refine this.imp fun {a b} h=>?_;have k1:=gT.jL a b;simp only[decide_eq_true_eq]at h;omega
 have zk:(nZ l).Perm l:=lQ ..;refine List.Perm.eq_of_pairwise (fun a b ha hb x y=>?_) hs h1 (hp.trans zk.symm);have va:=hv a (hp.mem_iff.1 ha);have vb:=hv b (zk.mem_iff.1 hb);have k1:=gT.jL a b;exact Lq va.1 vb.1 va.2 vb.2 (by omega)
theorem Am{l:List bc}{x:bc}:x∈nZ l↔x∈l:=(lQ ..).mem_iff
theorem zX(l:List bc):(nZ l).length=l.length:=(lQ ..).length_eq
theorem Gc{bf:List cp}{x:bc}(h:x∈ka bf):∃ o∈bf,x∈o.ops:=by
 have:=Am.1 (Cd h);simpa[gL]using this
theorem Gi(bf:List cp):(ka bf).length≤(gL bf).length:=by
 have:=CT (fun a b=>jo a b==0) (nZ (gL bf));rw[zX]at this;exact this
theorem G2{bf:List cp}{m:Nat}(h:∀ o∈bf,o.ops.length≤m):(gL bf).length≤bf.length*m:=by
 induction bf with
 | nil=>simp[gL]
 | cons o r ih =>
  have h1:=ih fun o ho=>h o (bz _ ho);have h2:=h o (dn ..);simp only[gL,eV,List.length_append,ag,Nat.add_mul,fA]at *;omega
structure gE where
 qn:cp→Prop
 ok:bc→Prop
 fR:cp→cp×Int
 fV:cp→bc→cp×Int
 fS:cp→cp×Int
 ops:∀ o,qn o→∀ x∈o.ops,ok x
 val:∀ x,ok x→dQ x=0∧x.small
 sml:∀ o,qn o→o.small
 len:∀ o,qn o→o.ops.length≤2^16
 gR:∀ o,qn o→(fR o).2=0→qn (fR o).1
 gV:∀ o x,qn o→ok x→(fV o x).2=0→qn (fV o x).1
 gS:∀ o,qn o→(fS o).2=0→qn (fS o).1
def kj(p:cp×Int)(o:cp):cp:=if p.2=0 then p.1 else o
namespace gE
def up(E:gE)(bf:List cp):List cp:=bf.map fun o=>kj (E.fR o) o
def sync(E:gE)(bf:List cp):List cp:=bf.map fun o=>kj (E.fS o) o
def rZ(E:gE)(bf:List cp)(i:Nat)(x:bc):List cp :=
 match bf[i]? with
 | some o=>if(E.fV o x).2=0 then bf.set i (E.fV o x).1 else bf
 | none=>bf
def rI(E:gE)(i:Nat)(xs:List bc)(bf:List cp):List cp:=xs.foldl (fun o x=>E.rZ o i x) bf
def bw(E:gE)(ls:List Let)(bf:List cp):List cp:=ls.foldl (fun o x=>E.rZ o x.dst.toNat x.op) bf
def all(E:gE)(is:List Nat)(bf:List cp):List cp:=is.foldl (fun o i=>E.rI i (ka o) o) bf
def settle(E:gE)(n:Net):List cp:=E.sync (E.all (List.range n.aV.length) (E.bw n.bw (E.up n.aV)))
def kp(E:gE)(bf:List cp):Prop:=∀ o∈bf,E.qn o
theorem JA{E:gE}{o:cp}{p:cp×Int}(h:E.qn o)(hp:p.2=0→E.qn p.1):E.qn (kj p o):=by
 unfold kj;split
 ·exact hp ‹_›
 ·exact h
theorem NZ{E:gE}{bf:List cp}(h:E.kp bf):E.kp (E.up bf):=by
 intro o ho;obtain⟨o',h1,rfl⟩:=dI.1 ho;exact JA (h o' h1) (E.gR o' (h o' h1))
theorem qS{E:gE}{bf:List cp}{i:Nat}{x:bc}(h:E.kp bf)(hx:E.ok x):E.kp (E.rZ bf i x):=by
 unfold rZ;split
 ·rename_i o ho;have hg:=h o (aN ho);split
  ·rename_i he;intro y hy;rcases Ug hy with hy | rfl
   ·exact h y hy
   ·exact E.gV o x hg hx he
  ·exact h
 ·exact h
theorem s9{E:gE}{bf:List cp}{i:Nat}{x:bc}:(E.rZ bf i x).length=bf.length:=by
 unfold rZ;split
 ·split<;>simp
 ·rfl
theorem x7{E:gE}{i:Nat}(xs:List bc):∀ {bf:List cp},E.kp bf→(∀ x∈xs,E.ok x)→E.kp (E.rI i xs bf):=by
 induction xs with
 | nil=>intro bf h _;exact h
 | cons x r ih=>intro bf h hx;exact ih (qS h (hx x (dn ..))) fun y hy=>hx y (bz _ hy)
theorem AA{E:gE}{i:Nat}(xs:List bc):∀ {bf:List cp},(E.rI i xs bf).length=bf.length:=by
 induction xs with
 | nil=>intro bf;rfl
 | cons x r ih=>intro bf;exact ih.trans s9
theorem xH{E:gE}{bf:List cp}(h:E.kp bf){x:bc}(hx:x∈ka bf):E.ok x:=by
 obtain⟨o,ho,hx⟩:=Gc hx;exact E.ops o (h o ho) x hx
theorem Cg{E:gE}(ls:List Let):∀ {bf:List cp},E.kp bf→(∀ x∈ls,E.ok x.op)→E.kp (E.bw ls bf):=by
 induction ls with
 | nil=>intro bf h _;exact h
 | cons x r ih=>intro bf h hx;exact ih (qS h (hx x (dn ..))) fun y hy=>hx y (bz _ hy)
theorem Eh{E:gE}(ls:List Let):∀ {bf:List cp},(E.bw ls bf).length=bf.length:=by
 induction ls with
 | nil=>intro bf;rfl
 | cons x r ih=>intro bf;exact ih.trans s9
theorem Nv{E:gE}(is:List Nat):∀ {bf:List cp},E.kp bf→E.kp (E.all is bf):=by
 induction is with
 | nil=>intro bf h;exact h
 | cons i r ih=>intro bf h;exact ih (x7 _ h fun x hx=>xH h hx)
theorem Qv{E:gE}(is:List Nat):∀ {bf:List cp},(E.all is bf).length=bf.length:=by
 induction is with
 | nil=>intro bf;rfl
 | cons i r ih=>intro bf;exact ih.trans (AA _)
end gE
end Go.Bt

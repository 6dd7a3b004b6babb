/- A part of the proof of the statement of the last text of this claim; its conditions stand there. -/
import Derived.Test.YtkkjfegefckehaaGreatDoorB20
set_option linter.all false

namespace Go.Bt
open Go Go.Pm
def dz(arr:List aJ):List aJ:=arr.foldl qn []
def yW(c:Int)(x:aJ):Int:=if c<x.aA.time then x.aA.time else c
def fh(arr:List aJ):Int:=arr.foldl yW 0
def eD(arr:List aJ):List UInt8:=bM (arr.map bX)
def cp(n:Int)(arr:List aJ)(k:Nat):cc:=⟨n,fh arr,dz arr,eD arr,(eD (arr.take k)).length,false⟩
def oL(n:Int)(arr:List aJ)(tl:List UInt8):cc:=⟨n,0,[],eD arr++tl,(eD arr++tl).length,true⟩
theorem nT(arr:List aJ)(x:aJ):dz (arr++[x])=qn (dz arr) x:=by simp[dz]
theorem qY(arr:List aJ)(x:aJ):fh (arr++[x])=yW (fh arr) x:=by simp[fh]
theorem Of(c:Int)(x:aJ):c≤yW c x∧x.aA.time≤yW c x∧(yW c x=c∨yW c x=x.aA.time):=by
 unfold yW;split<;>omega
theorem rY(a b:List aJ):eD (a++b)=eD a++eD b:=by simp[eD,bM]
theorem AF(x:aJ):eD [x]=ni (bX x):=by simp[eD,bM]
structure Ln (x:aJ):Prop where
 ok:cw x=0
 small:x.small
 enc:(bX x).length≤20000
structure yd (n:Int) (arr:List aJ):Prop where
 op:∀ x∈arr,Ln x
 one:arr.Pairwise fun a b=>da a b≠0
 own:∀ (j:Nat) (y:aJ),(arr.filter fun x=>x.aA.aS==n)[j]?=some y→y.aA.number=j+1
theorem dA{arr:List aJ}{x:aJ}:x∈dz arr↔x∈arr:=by
 have key:∀ (arr l:List aJ),x∈arr.foldl qn l↔x∈arr∨x∈l:=by
  intro arr
  induction arr with
  | nil=>simp
  | cons a arr ih =>
   intro l;rw[bd,ih,Sr,aU];exact⟨fun h=>h.elim (fun h=>.inl (.inr h)) (fun h=>h.elim (fun h=>.inl (.inl h)) .inr),fun h=>h.elim (fun h=>h.elim (fun h=>.inr (.inl h)) .inl) (fun h=>.inr (.inr h))⟩
 simpa[dz]using key arr []
theorem Mg{a b:aJ}(h:da a b=0):da b a=0:=by
 rw[ja]at h ⊢;exact⟨h.1.symm,h.2.symm⟩
theorem B4{arr:List aJ}{x:aJ}:(arr++[x]).Pairwise (fun a b=>da a b≠0)↔arr.Pairwise (fun a b=>da a b≠0)∧∀ y∈arr,da y x≠0:=by
 rw[fy];simp
theorem nU(arr:List aJ):(dz arr).length=arr.length:=by
 have key:∀ (arr l:List aJ),(arr.foldl qn l).length=arr.length+l.length:=by
  intro arr
  induction arr with
  | nil=>simp
  | cons a arr ih=>intro l;rw[bd,ih,SV,ab];omega
 simpa[dz]using key arr []
theorem nS{arr:List aJ}(h:arr.Pairwise fun a b=>da a b≠0):tF (dz arr):=by
 have key:∀ (r:List aJ) (s:List aJ),(s++r).Pairwise (fun a b=>da a b≠0)→tF (dz s)→tF (r.foldl qn (dz s)):=by
  intro r
  induction r with
  | nil=>intro s _ h;exact h
  | cons x r ih =>
   intro s h1 h2;have h3:(s++[x]).Pairwise fun a b=>da a b≠0:=h1.sublist (by simp);rw[bd,← nT];refine ih (s++[x]) (by simpa using h1) ?_;rw[nT];exact Qc h2 fun y hy=>(B4.1 h3).2 y (dA.1 hy)
 have:=key arr [] (by simpa using h) (by simp[dz,tF]);simpa[dz]using this
theorem nz{arr:List aJ}(h:∀ x∈arr,cw x=0):0≤fh arr∧fh arr≤2^30:=by
 have key:∀ (arr:List aJ) (c:Int),(∀ x∈arr,cw x=0)→0≤c∧c≤2^30→0≤arr.foldl yW c∧arr.foldl yW c≤2^30:=by
  intro arr
  induction arr with
  | nil=>intro c _ h;exact h
  | cons a arr ih =>
   intro c h1 h2;rw[bd];refine ih _ (fun x hx=>h1 x (by simp[hx])) ?_;have h3:=h1 a (by simp)
   have:1≤a.aA.time∧a.aA.time≤2^30:=by
    simp only[cw]at h3;split at h3
    ·simp at h3
    ·rename_i hs;simp only[gf,zT,decide_eq_true_eq]at hs;omega
   have:=Of c a;omega
 exact key arr 0 h (by decide)
theorem mR{arr:List aJ}(h:∀ x∈arr,Ln x):(eD arr).length≤20008*arr.length:=by
 induction arr with
 | nil=>simp[eD,bM]
 | cons a arr ih =>
  have h1:=ih fun x hx=>h x (by simp[hx]);have h2:=(h a (by simp)).enc;rw[show a::arr=[a]++arr from rfl,rY,AF,List.length_append,ig];simp only[List.length_append,ab,ah];omega
theorem yd.take{n:Int}{arr:List aJ}(h:yd n arr)(k:Nat):yd n (arr.take k):=by
 refine⟨fun x hx=>h.op x (ct hx),h.one.sublist (List.take_sublist _ _),fun j y hj=>h.own j y ?_⟩;have e:arr=arr.take k++arr.drop k:=(List.take_append_drop k arr).symm;rw[e,List.filter_append,aH (ae.1 hj).1];exact hj
def lq(n:Int)(arr:List aJ):Nat:=(arr.filter fun x=>x.aA.aS==n).length
theorem yd.Jo{n:Int}{arr:List aJ}(h:yd n arr){x:aJ}(hx:Ln x)(ho:x.aA.aS=n)(hn:x.aA.number=lq n arr+1):yd n (arr++[x]):=by
 have lQ:∀ y∈arr,da y x≠0:=fun y hy he=>by
  rw[ja]at he;have ZD:y∈arr.filter fun x=>x.aA.aS==n:=cV.2 ⟨hy,by simp[he.1,ho]⟩;obtain⟨j,hj⟩:=dr.1 ZD;have h1:=h.own j y hj;have h2:=(ae.1 hj).1;simp only[lq]at hn;omega
 refine⟨fun y hy=>?_,B4.2 ⟨h.one,lQ⟩,fun j y hj=>?_⟩
 ·rcases List.mem_append.1 hy with hy | hy
  ·exact h.op y hy
  ·simp only[cv]at hy;exact hy▸hx
 ·rw[List.filter_append,List.getElem?_append]at hj;split at hj
  ·exact h.own j y hj
  ·have e:[x].filter (fun x=>x.aA.aS==n)=[x]:=by simp[ho]
   rw[e]at hj;have h3:=(ae.1 hj).1;simp only[ab,ah]at h3;have h0:j - (arr.filter fun x=>x.aA.aS==n).length=0:=by omega
   rw[h0]at hj;simp only[ao,aa]at hj;rw[← hj,hn,lq];omega
theorem yd.ym{n:Int}{arr:List aJ}(h:yd n arr){x:aJ}(hx:Ln x)(ho:x.aA.aS≠n)(lQ:∀ y∈arr,da y x≠0):yd n (arr++[x]):=by
 refine⟨fun y hy=>?_,B4.2 ⟨h.one,lQ⟩,fun j y hj=>h.own j y ?_⟩
 ·rcases List.mem_append.1 hy with hy | hy
  ·exact h.op y hy
  ·simp only[cv]at hy;exact hy▸hx
 ·rw[List.filter_append,show[x].filter (fun x=>x.aA.aS==n)=[]by simp[ho],bf]at hj;exact hj
theorem OO(n:Int):yd n []:=⟨by simp,by simp,by simp⟩
theorem FM{n:Int}{arr:List aJ}{k:Nat}(hk:k≤arr.length)(x:aJ):fR (cp n arr k) x (k9 (dz arr) x)=cp n (arr++[x]) k:=by
 simp only[fR,cp,qY,nT,qn,rY,AF,fx hk];rfl
theorem xd{n:Int}{arr:List aJ}{k:Nat}(x:aJ):{ fR (cp n arr k) x (k9 (dz arr) x)with synced:=(fR (cp n arr k) x (k9 (dz arr) x)).log.length }=cp n (arr++[x]) (arr.length+1):=by
 have e:(arr++[x]).take (arr.length+1)=arr++[x]:=bJ (by simp);simp only[fR,cp,qY,nT,qn,rY,AF,e];rfl
theorem fC{n:Int}{arr:List aJ}{k:Nat}(h:yd n arr)(hl:arr.length≤1000):(cp n arr k).small:=by
 have:=mR h.op;refine⟨fun x hx=>(h.op x (dA.1 hx)).small,?_,?_⟩
 ·simp only[cp,nU];omega
 ·simp only[cp];omega
theorem UR(o:Int):je [] o=0:=by
 simp only[je,ah];rw[if_pos (by omega)]
theorem Dr(v:List Int)(n:Int):(let x:=je v n;let y:=je [] n;if x<y then y else x)=je v n:=by
 have:=vC v n;simp only[UR];split<;>omega
theorem za(v:List Int)(n:Nat):jh v [] n=(List.range n).map fun i:Nat=>je v i:=by
 simp only[jh];exact dE fun i _=>Dr v i
theorem wG(v:List Int):∀ (n i:Nat),i<n→fq v [] n≤i→je v i=0
 | 0,i,h,_=>by omega
 | n+1,i,h,h2=>by
  simp only[fq,Dr]at h2;split at h2
  ·omega
  ·rename_i h3;rcases Nat.lt_or_eq_of_le (Nat.le_of_lt_succ h)with h4 | rfl
   ·exact wG v n i h4 h2
   ·simpa using h3
theorem vB(v:List Int):(eJ v).length=fq v [] 8:=by
 have:=lP v [] 8;simp only[eJ,nc,aR,lr];omega
theorem Fv(v:List Int)(i:Nat)(h:i<fq v [] 8):(eJ v)[i]?=some (je v i):=by
 have:=lP v [] 8;simp only[eJ,nc,za];rw[bz h,aZ,ky (by omega)];rfl
theorem I9(v:List Int)(o:Int):je (eJ v) o=je v o:=by
 have hle:=lP v [] 8
 by_cases h:o<0∨8≤o
 ·simp only[je];rw[if_pos (by omega),if_pos (by omega)]
 ·obtain⟨i,rfl⟩:∃ i:Nat,o=i:=⟨o.toNat,by omega⟩;have hr:=vC v i
  by_cases hi:i<fq v [] 8
  ·have hg:=Fv v i hi;have e:(eJ v).getD i 0=je v i:=by rw[List.getD_eq_getElem?_getD,hg];rfl
   rw[je,if_neg (by rw[vB];omega),an,e,if_neg (by omega)]
  ·rw[je,if_pos (by rw[vB];omega)];exact(wG v 8 i (by omega) (by omega)).symm
theorem uI{v w:List Int}(h:∀ o:Int,je v o=je w o):∀ n,fq v [] n=fq w [] n
 | 0=>rfl
 | n+1=>by simp only[fq,Dr,h,uI h n]
theorem I8{v w:List Int}(h:∀ o:Int,je v o=je w o):eJ v=eJ w:=by
 simp only[eJ,nc,za,uI h,h]
theorem LB(v:List Int):eJ (eJ v)=eJ v:=I8 (I9 v)
theorem OR{v:List Int}{n:Int}(h:n∈eJ v):∃ o:Int,n=je v o:=by
 obtain⟨i,hi⟩:=dr.1 h;have h1:=(ae.1 hi).1;rw[vB]at h1;rw[Fv v i h1]at hi;exact⟨i,by simpa using hi.symm⟩
theorem yd.XL{n:Int}{arr:List aJ}(h:yd n arr)(j:Nat):(∃ x∈arr,x.aA.aS=n∧x.aA.number=(j:Int)+1)↔j<lq n arr:=by
 constructor
 ·rintro⟨x,hx,h1,h2⟩;have hm:x∈arr.filter fun x=>x.aA.aS==n:=cV.2 ⟨hx,by simp[h1]⟩;obtain⟨i,hi⟩:=dr.1 hm;have h3:=h.own i x hi;have h4:=(ae.1 hi).1;simp only[lq];omega
 ·intro hj;refine⟨(arr.filter fun x=>x.aA.aS==n)[j],?_,?_,?_⟩
  ·exact(cV.1 (cK hj)).1
  ·have:=(cV.1 (cK hj)).2;simpa using this
  ·exact h.own j _ (aw hj)
theorem mh(arr:List aJ)(n:Int):(arr.filter fun x=>x.aA.aS==n).length=((dz arr).filter fun x=>x.aA.aS==n).length:=by
 have key:∀ (arr l:List aJ),((arr.foldl qn l).filter fun x=>x.aA.aS==n).length=(arr.filter fun x=>x.aA.aS==n).length+(l.filter fun x=>x.aA.aS==n).length:=by
  intro arr
  induction arr with
  | nil=>simp
  | cons a arr ih =>
   intro l
   have e:l.filter (fun x=>x.aA.aS==n)=(l.take (k9 l a)).filter (fun x=>x.aA.aS==n)++(l.drop (k9 l a)).filter (fun x=>x.aA.aS==n):=by
    rw[← List.filter_append,List.take_append_drop]
   rw[bd,ih,e];simp only[qn,List.filter_append,List.length_append,fQ];split<;>simp only[ab]<;>omega
 have:=key arr [];simpa[dz]using this.symm
structure o6 {α:Type} (c:α→α→Int):Prop where
 mI:∀ a b,c b a = - c a b
 trans:∀ a b d,0≤c a b→0≤c b d→0≤c a d
theorem o6.self{α:Type}{c:α→α→Int}(h:o6 c)(a:α):c a a=0:=by have:=h.mI a a;omega
theorem o6.gt{α:Type}{c:α→α→Int}(h:o6 c){a b d:α}(h1:0<c a b)(h2:0<c b d):0<c a d:=by
 have h3:=h.trans a b d (by omega) (by omega);rcases(by omega:0<c a d∨c a d=0)with h4 | h4
 ·exact h4
 ·have h5:=h.mI a d;have h6:=h.trans d a b (by omega) (by omega);have h7:=h.mI d b;omega
theorem o6.on{α β:Type}{c:β→β→Int}(h:o6 c)(f:α→β):o6 fun a b=>c (f a) (f b) :=
 ⟨fun _ _=>h.mI _ _,fun _ _ _=>h.trans _ _ _⟩
def wh{α:Type}(c d:α→α→Int)(a b:α):Int:=if c a b≠0 then c a b else d a b
theorem Ck{a b:UInt8}:a<b↔a.toNat<b.toNat:=IT
theorem eI:o6 fS:=by
 have mI:∀ a b,fS b a = - fS a b:=by
  intro a
  induction a with
  | nil=>intro b;cases b<;>simp[fS]
  | cons x a ih =>
   intro b;cases b with
   | nil=>simp[fS]
   | cons y b =>
    simp only[fS,ih]
    by_cases h1:x<y
    ·have h2:¬ y<x:=by rw[Ck]at *;omega
     simp[h1,h2]
    ·by_cases h2:y<x<;>simp[h1,h2]
 refine⟨mI,?_⟩;intro a
 induction a with
 | nil =>
  intro b d h1 h2;cases b with
  | nil=>exact h2
  | cons y b=>simp[fS]at h1
 | cons x a ih =>
  intro b d h1 h2;cases d with
  | nil=>simp[fS]
  | cons z d =>
   cases b with
   | nil=>simp[fS]at h2
   | cons y b =>
    simp only[fS]at h1 h2 ⊢
    by_cases hxy:x<y
    ·simp[hxy]at h1
    ·by_cases hyz:y<z
     ·simp[hyz]at h2
     ·rw[if_neg hxy]at h1;rw[if_neg hyz]at h2;have hxz:¬ x<z:=by rw[Ck]at *;omega
      rw[if_neg hxz]
      by_cases hzx:z<x
      ·rw[if_pos hzx];decide
      ·rw[if_neg hzx];have h3:¬ y<x:=by rw[Ck]at *;omega
       have h4:¬ z<y:=by rw[Ck]at *;omega
       rw[if_neg h3]at h1;rw[if_neg h4]at h2;exact ih b d h1 h2
theorem lZ:∀ {a b:List UInt8},fS a b=0↔a=b:=by
 intro a
 induction a with
 | nil=>intro b;cases b<;>simp[fS]
 | cons x a ih =>
  intro b;cases b with
  | nil=>simp[fS]
  | cons y b =>
   simp only[fS]
   by_cases h1:x<y
   ·have:x≠y:=by rintro rfl;rw[Ck]at h1;omega
    simp[h1,this]
   ·by_cases h2:y<x
    ·have:x≠y:=by rintro rfl;rw[Ck]at h2;omega
     simp[h1,h2,this]
    ·have:x=y:=by
      rw[Ck]at h1 h2;exact mY.1 (by omega)
     simp[h1,h2,this,ih]
theorem Ak:mP=wh (fun a b=>eV a.aA.aS b.aA.aS) (wh (fun a b=>eV a.aA.number b.aA.number) (wh (fun a b=>eV a.aA.time b.aA.time)
  (wh (fun a b=>eV a.kind b.kind) fun a b=>fS (encode a).1 (encode b).1))):=by
 funext a b;simp only[mP,rz,wh]
 (repeat' split)<;>omega
theorem gL:∀ (x y:List UInt8),Op.bytesLess x y=decide (fS x y<0)
 | [],[]=>rfl
 | [],_::_=>rfl
 | _::_,[]=>rfl
 | a::x,b::y=>by
  simp only[Op.bytesLess,fS]
  by_cases h1:a<b
  ·simp[h1]
  ·by_cases h2:b<a
   ·have:a≠b:=by rintro rfl;exact h1 h2
    simp[h1,h2,this]
   ·have h3:a=b:=UInt8.le_antisymm (QX.1 h2) (QX.1 h1);subst h3;simp[h1,gL x y]
theorem qO:∀ {x y:List UInt8},x<y↔fS x y<0
 | [],[]=>by simp[fS]
 | [],_::_=>by simp[fS]
 | _::_,[]=>by simp[fS]
 | a::x,b::y=>by
  rw[List.cons_lt_cons_iff,qO (x:=x) (y:=y)];simp only[fS]
  by_cases h1:a<b
  ·simp[h1]
  ·by_cases h2:b<a
   ·have:a≠b:=by rintro rfl;exact h1 h2
    simp[h1,h2,this]
   ·have h3:a=b:=UInt8.le_antisymm (QX.1 h2) (QX.1 h1);subst h3;simp[h1]
theorem yY(x y:List UInt8):leB x y=decide (fS x y≤0):=by
 have h:(x≤y)↔¬ (y<x):=IT;have ha:=eI.mI x y;simp only[leB,decide_eq_decide,h,qO];omega
theorem jA{x y z:List UInt8}(h1:fS x y<0)(h2:fS y z<0):fS x z<0:=by
 have a1:=eI.mI x y;have a2:=eI.mI y z;have a3:=eI.mI x z;have:=eI.gt (a:=z) (b:=y) (d:=x) (by omega) (by omega);omega
def lu(l:List aJ):Prop:=l.Pairwise fun a b=>fS (bE a) (bE b)<0
def ko(k:List UInt8):List aJ→Option aJ
 | []=>none
 | x::r=>if bE x=k then some x else ko k r
theorem pQ{k:List UInt8}:∀ {l:List aJ},(∀ x∈l,bE x≠k)→ko k l=none
 | [],_=>rfl
 | x::r,h=>by
  simp only[ko];rw[if_neg (h x (by simp))];exact pQ fun y hy=>h y (by simp[hy])
theorem Gx:∀ {a b:List aJ},lu a→lu b→(∀ k,ko k a=ko k b)→a=b
 | [],[],_,_,_=>rfl
 | [],y::b,_,_,h=>by have:=h (bE y);simp[ko]at this
 | x::a,[],_,_,h=>by have:=h (bE x);simp[ko]at this
 | x::a,y::b,ha,hb,h=>by
  have ha':=ha;have hb':=hb;simp only[lu,ck]at ha hb
  have hk:bE x=bE y:=by
   rw[← lZ];have a1:=eI.mI (bE x) (bE y)
   by_cases h1:fS (bE x) (bE y)<0
   ·have e1:=h (bE x)
    have e2:ko (bE x) (y::b)=none:=pQ fun z hz e=>by
     rcases aU.1 hz with rfl | hz
     ·rw[e,eI.self]at h1;omega
     ·have:=jA h1 (hb.1 z hz);rw[e,eI.self]at this;omega
    rw[e2]at e1;simp[ko]at e1
   ·by_cases h2:fS (bE y) (bE x)<0
    ·have e1:=h (bE y)
     have e2:ko (bE y) (x::a)=none:=pQ fun z hz e=>by
      rcases aU.1 hz with rfl | hz
      ·rw[e,eI.self]at h2;omega
      ·have:=jA h2 (ha.1 z hz);rw[e,eI.self]at this;omega
     rw[e2]at e1;simp[ko]at e1
    ·omega
  have hxy:x=y:=by
   have e1:=h (bE x);simp only[ko,if_true,hk]at e1;exact dJ e1
  subst hxy;congr 1;refine Gx ha.2 hb.2 fun k=>?_
  by_cases hkx:bE x=k
  ·subst hkx;rw[pQ fun z hz e=>?_,pQ fun z hz e=>?_]
   ·have:=hb.1 z hz;rw[e,eI.self]at this;omega
   ·have:=ha.1 z hz;rw[e,eI.self]at this;omega
  ·have:=h k;simpa only[ko,if_neg hkx]using this
theorem u3{m:List (List UInt8×aJ)}(k:List UInt8):∀ (ks:List (List UInt8)),(∀ k∈ks,∃ o,gz k m=some o∧bE o=k)→ko k (ks.filterMap fun k=>gz k m)=if k∈ks then gz k m else none
 | [],_=>by simp[ko]
 | x::ks,h=>by
  obtain⟨o,h1,h2⟩:=h x (by simp);have ih:=u3 k ks fun y hy=>h y (by simp[hy]);simp only[kz,h1,ko,h2]
  by_cases hx:x=k
  ·subst hx;simp[h1]
  ·rw[if_neg hx,ih];have:¬ k=x:=fun e=>hx e.symm;simp[this]
theorem IZ{l:List aJ}{k:List UInt8}{o:aJ}(h:gz k (fA l)=some o):bE o=k:=(tP (F7 h)).1.symm
theorem AW{l:List aJ}:∀ k∈iZ l,∃ o,gz k (fA l)=some o∧bE o=k:=by
 intro k hk;obtain⟨o,ho⟩:=tq hk;exact⟨o,ho,IZ ho⟩
theorem sR(k:List UInt8)(l:List aJ):ko k (current l)=gz k (fA l):=by
 have e:current l=(iZ l).filterMap fun k=>gz k (fA l):=rfl;rw[e,u3 k _ AW]
 by_cases h:k∈iZ l
 ·rw[if_pos h]
 ·rw[if_neg h];have:k ∉ (fA l).map (·.1):=fun hm=>h ((mw l).mem_iff.2 hm);exact(F6.2 this).symm
theorem Ex(l:List aJ):(iZ l).Pairwise fun a b=>fS a b<0:=by
 have h1:(iZ l).Pairwise fun a b=>leB a b=true:=List.pairwise_mergeSort (le:=leB) (fun a b c h1 h2=>by
  rw[yY,decide_eq_true_eq]at h1 h2 ⊢;have a1:=eI.mI a b;have a2:=eI.mI b c;have a3:=eI.mI a c
  by_cases e1:fS a b=0
  ·rw[lZ]at e1;subst e1;exact h2
  ·by_cases e2:fS b c=0
   ·rw[lZ]at e2;subst e2;exact h1
   ·have:=jA (x:=a) (y:=b) (z:=c) (by omega) (by omega);omega) (fun a b=>by
  rw[yY,yY,gm,decide_eq_true_eq,decide_eq_true_eq];have:=eI.mI a b;omega) _
 have h2:(iZ l).Nodup:=(mw l).nodup_iff.2 (wq l);refine(h1.and h2).imp fun {a b} h=>?_;obtain⟨h3,h4⟩:=h;rw[yY,decide_eq_true_eq]at h3;have:fS a b≠0:=fun e=>h4 (lZ.1 e);omega
theorem pairwise_filterMap{m:List (List UInt8×aJ)}:∀ (ks:List (List UInt8)),(∀ k∈ks,∃ o,gz k m=some o∧bE o=k)→ks.Pairwise (fun a b=>fS a b<0)→lu (ks.filterMap fun k=>gz k m)
 | [],_,_=>by simp[lu]
 | x::ks,h,hp=>by
  obtain⟨o,h1,h2⟩:=h x (by simp);rw[ck]at hp;have h':∀ k∈ks,∃ o,gz k m=some o∧bE o=k:=fun y hy=>h y (by simp[hy]);have ih:=pairwise_filterMap ks h' hp.2;simp only[kz,h1];simp only[lu,ck]at ih ⊢;refine⟨fun z hz=>?_,ih⟩;obtain⟨k,hk,hz⟩:=No.1 hz;obtain⟨o',h3,h4⟩:=h' k hk;rw[h3]at hz;simp only[aa]at hz;subst hz;rw[h2,h4];exact hp.1 k hk
theorem xU(l:List aJ):lu (current l):=pairwise_filterMap _ AW (Ex l)
def rU(o:aJ):List aJ→List aJ
 | []=>[o]
 | x::r=>if fS (bE x) (bE o)<0 then x::rU o r else if bE x=bE o then(if l8 o x=true then o::r else x::r)else o::x::r
def qK(out:List aJ)(o:aJ):List aJ:=if bE o=[]then out else rU o out
def uh(l:List aJ):List aJ:=if 1024<l.length then[]else l.foldl qK []
theorem Dy{o z:aJ}:∀ {l:List aJ},z∈rU o l→z=o∨z∈l
 | [],h=>by simp[rU]at h;exact .inl h
 | x::r,h=>by
  simp only[rU]at h;split at h
  ·rcases aU.1 h with rfl | h
   ·exact .inr (by simp)
   ·rcases Dy h with h | h
    ·exact .inl h
    ·exact .inr (by simp[h])
  ·split at h
   ·split at h
    ·rcases aU.1 h with h | h
     ·exact .inl h
     ·exact .inr (by simp[h])
    ·exact .inr h
   ·rcases aU.1 h with h | h
    ·exact .inl h
    ·exact .inr h
theorem Oo{o:aJ}:∀ {l:List aJ},lu l→lu (rU o l)
 | [],_=>by simp[rU,lu]
 | x::r,h=>by
  have h0:=h;simp only[lu,ck]at h;have ha:=eI.mI (bE x) (bE o);simp only[rU];split
  ·rename_i h1;have ih:=Oo (o:=o) (l:=r) h.2;simp only[lu,ck]at ih ⊢;refine⟨fun z hz=>?_,ih⟩;rcases Dy hz with rfl | hz
   ·exact h1
   ·exact h.1 z hz
  ·rename_i h1;split
   ·rename_i h2;split
    ·simp only[lu,ck];exact⟨fun z hz=>by rw[← h2];exact h.1 z hz,h.2⟩
    ·exact h0
   ·rename_i h2;simp only[lu,ck]
    have h3:fS (bE o) (bE x)<0:=by
     have:fS (bE x) (bE o)≠0:=fun e=>h2 (lZ.1 e);omega
    refine⟨fun z hz=>?_,h.1,h.2⟩;rcases aU.1 hz with rfl | hz
    ·exact h3
    ·exact jA h3 (h.1 z hz)
def better(was:Option aJ)(o:aJ):Option aJ:=match was with
 | none=>some o
 | some w=>if l8 o w=true then some o else some w
theorem Kz{o:aJ}(k:List UInt8):∀ {l:List aJ},lu l→ko k (rU o l)=if bE o=k then better (ko k l) o else ko k l
 | [],_=>by simp only[rU,ko,better]
 | x::r,h=>by
  have h0:=h;simp only[lu,ck]at h;have ha:=eI.mI (bE x) (bE o);simp only[rU];split
  ·rename_i h1;have ih:=Kz (o:=o) k h.2;simp only[ko]
   by_cases hx:bE x=k
   ·have:¬ bE o=k:=fun e=>by rw[e,hx,eI.self]at h1;omega
    rw[if_pos hx,if_neg this,if_pos hx]
   ·rw[if_neg hx,ih,if_neg hx]
  ·rename_i h1;split
   ·rename_i h2
    by_cases hk:bE o=k
    ·have hx:bE x=k:=h2.trans hk;simp only[ko,hx,if_pos hk,better,if_true];split
     ·simp only[ko,if_pos hk]
     ·simp only[ko,if_pos hx]
    ·have hx:¬ bE x=k:=fun e=>hk (h2.symm.trans e);simp only[ko,if_neg hx,if_neg hk];split
     ·simp only[ko,if_neg hk]
     ·simp only[ko,if_neg hx]
   ·rename_i h2
    have h3:fS (bE o) (bE x)<0:=by
     have:fS (bE x) (bE o)≠0:=fun e=>h2 (lZ.1 e);omega
    by_cases hk:bE o=k
    ·have hn:ko k (x::r)=none:=pQ fun z hz e=>by
      rcases aU.1 hz with rfl | hz
      ·exact h2 (e.trans hk.symm)
      ·have:=jA h3 (h.1 z hz);rw[hk,e,eI.self]at this;omega
     rw[if_pos hk,hn];simp only[ko,if_pos hk,better]
    ·rw[if_neg hk];simp only[ko,if_neg hk]
theorem tQ(m:List (List UInt8×aJ))(o:aJ)(k:List UInt8):gz k (gu m o)=if bE o=[]then gz k m else if bE o=k then better (gz k m) o else gz k m:=by
 simp only[gu];split
 ·rfl
 ·by_cases hk:bE o=k
  ·subst hk;rw[if_pos rfl];cases hg:gz (bE o) m with
   | none=>simp[rW,better]
   | some w =>
    simp only[better];split
    ·simp[rW]
    ·exact hg
  ·rw[if_neg hk];have hk':¬ k=bE o:=fun e=>hk e.symm;split
   ·rw[rW,if_neg hk']
   ·split
    ·rw[rW,if_neg hk']
    ·rfl
theorem Ag:∀ (l:List aJ) (out:List aJ) (m:List (List UInt8×aJ)),lu out→(∀ k,ko k out=gz k m)→lu (l.foldl qK out)∧∀ k,ko k (l.foldl qK out)=gz k (l.foldl gu m)
 | [],_,_,h1,h2=>⟨h1,h2⟩
 | o::l,out,m,h1,h2=>by
  simp only[bd];refine Ag l _ _ ?_ fun k=>?_
  ·simp only[qK];split
   ·exact h1
   ·exact Oo h1
  ·rw[tQ];simp only[qK];split
   ·exact h2 k
   ·rw[Kz k h1,h2 k]
theorem JG(l:List aJ):uh l=current l:=by
 refine Gx ?_ (xU l) fun k=>?_
 ·simp only[uh];split
  ·simp[lu]
  ·exact(Ag l [] [] (by simp[lu]) fun k=>by simp[ko,nw]).1
 ·rw[sR];simp only[uh,fA];split
  ·simp[ko,nw]
  ·exact(Ag l [] [] (by simp[lu]) fun k=>by simp[ko,nw]).2 k
theorem Gk:∀ (x y:List UInt8),fS x y = -1∨fS x y=0∨fS x y=1
 | [],[]=>by simp[fS]
 | [],_::_=>by simp[fS]
 | _::_,[]=>by simp[fS]
 | a::x,b::y=>by
  simp only[fS];split
  ·simp
  ·split
   ·simp
   ·exact Gk x y
def xa(x:aJ):List aJ→Nat
 | []=>0
 | y::r=>if mP y x<0 then xa x r+1 else 0
theorem NG(x:aJ):∀ l:List aJ,xa x l≤l.length
 | []=>aB _
 | y::r=>by have:=NG x r;simp only[xa,ab];split<;>omega
def R7(l:List aJ)(x:aJ):List aJ:=l.take (xa x l)++x::l.drop (xa x l)
theorem Sf{a b:aJ}(h:da a b≠0):mP a b<0↔da a b<0:=by
 rw[ne_eq,ja]at h;rw[kD];simp only[mP,rz,eV]
 by_cases h1:a.aA.aS<b.aA.aS
 ·simp[h1]
 ·by_cases h2:b.aA.aS<a.aA.aS
  ·simp[h1,h2];omega
  ·have e:a.aA.aS=b.aA.aS:=by omega
   by_cases h3:a.aA.number<b.aA.number
   ·simp[e,h3]
   ·have h4:b.aA.number<a.aA.number:=by omega
    simp[e,h3,h4]
theorem JO{x:aJ}:∀ {l:List aJ},(∀ y∈l,da y x≠0)→xa x l=k9 l x
 | [],_=>rfl
 | y::r,h=>by
  have ih:=JO (l:=r) fun z hz=>h z (by simp[hz]);have e:=Sf (h y (by simp))
  by_cases hc:da y x<0
  ·simp only[xa,if_pos (e.2 hc),ih,k9,eg,hc,decide_true,if_true,ab]
  ·simp only[xa,if_neg (fun h=>hc (e.1 h)),k9,eg,hc,decide_false,aD,if_false,ah]
theorem CN{l:List aJ}{x:aJ}(h:∀ y∈l,da y x≠0):R7 l x=qn l x:=by
 simp only[R7,qn,JO h]
theorem Sg{x y:aJ}(hx:cw x=0)(hy:cw y=0)(sx:x.small)(sy:y.small)(h:mP x y=0):x=y:=by
 have h1:=congrFun (congrFun Ak x) y;rw[h]at h1
 have h2:fS (encode x).1 (encode y).1=0:=by
  simp only[wh]at h1
  (repeat' split at h1)<;>omega
 have h3:=lZ.1 h2;rw[DU hx,DU hy]at h3;have hd:=sX sx hx;have h3:bX x=bX y:=h3;rw[h3,sX sy hy]at hd;exact(congrArg Prod.fst hd).symm
theorem SZ{x y:aJ}(h:da y x=0)(l:List aJ):k9 l x=k9 l y:=by
 obtain⟨h1,h2⟩:=ja.1 h;have:∀ z,da z x=da z y:=fun z=>by simp only[da,h1,h2]
 simp only[k9,this]
theorem MG{l:List aJ}(h:tF l){x y:aJ}(hy:y∈l)(he:da y x=0):l[k9 l x]?=some y:=by
 rw[SZ he];exact Wl h hy
def uH(out:List (List UInt8))(k:List UInt8):Bool :=
 match out.getLast? with
 | none=>false
 | some x=>!Op.bytesLess x k
def jP:List En→List (List UInt8)→List (List UInt8)×Bool
 | [],out=>(out,true)
 | e::r,out=>if cy e≠0 then([],false)else if uH out (cf e)=true then([],false)else jP r (out++[cf e])
def keysOf(m:List En):List (List UInt8)×Bool:=if 1024<m.length then([],false)else jP m []
def KA(l:List (List UInt8)):Prop:=l.Pairwise fun a b=>fS a b<0
theorem XC{out:List (List UInt8)}{k:List UInt8}(h:KA out)(h2:uH out k=false):KA (out++[k]):=by
 simp only[KA,fy,ck,bD,List.Pairwise.nil,aU,or_false]at h ⊢;refine⟨h,⟨fun _ h=>h.elim,trivial⟩,?_⟩;rintro a ha b rfl;rcases dQ out with rfl | ⟨o,x,rfl⟩
 ·simp at ha
 ·simp only[uH,dt,iH,gd,ma,Bool.not_eq_eq_eq_not,jS,gL,decide_eq_true_eq]at h2;simp only[dt,List.mem_append,aU,bD,or_false]at ha;rcases ha with ha | rfl
  ·rw[dt,fy]at h;exact jA (h.2.2 a ha x (by simp)) h2
  ·exact h2
theorem Dn:∀ (m:List En) (out:List (List UInt8)),KA out→KA (jP m out).1
 | [],_,h=>h
 | e::r,out,h=>by
  simp only[jP];split
  ·simp[KA]
  ·split
   ·simp[KA]
   ·rename_i h2;exact Dn r _ (XC h (by simpa using h2))
theorem MA(m:List En):KA (keysOf m).1:=by
 simp only[keysOf];split
 ·simp[KA]
 ·exact Dn m [] (by simp[KA])
theorem Dm:∀ (m:List En) (out:List (List UInt8)),(jP m out).1.length≤out.length+m.length∧((jP m out).2=true→(jP m out).1.length=out.length+m.length)
 | [],_=>by simp[jP]
 | e::r,out=>by
  simp only[jP];split
  ·simp
  ·split
   ·simp
   ·have:=Dm r (out++[cf e]);simp only[List.length_append,ab,ah]at this ⊢;exact⟨by omega,fun h=>by have:=this.2 h;omega⟩
theorem Mz(m:List En):(keysOf m).1.length≤1024∧((keysOf m).2=true→(keysOf m).1.length=m.length):=by
 simp only[keysOf];split
 ·simp
 ·have:=Dm m [];simp only[ah,aK]at this;exact⟨by omega,this.2⟩
theorem FT:∀ (m:List En) (out:List (List UInt8)),(∀ e∈m,cy e=0)→KA (out++m.map cf)→jP m out=(out++m.map cf,true)
 | [],out,_,_=>by simp[jP]
 | e::r,out,h,ha=>by
  simp only[jP];rw[if_neg (by simp[h e (by simp)]),if_neg ?_,FT r _ (fun x hx=>h x (by simp[hx])) (by simpa using ha)]
  ·simp
  ·simp only[uH];rcases dQ out with rfl | ⟨o,x,rfl⟩
   ·simp
   ·simp only[dt,iH,gd,ma,gL];simp only[KA,ay,dt,fy]at ha;have:=ha.2.2 x (by simp) (cf e) (by simp);simp[this]
def ka(k:List UInt8)(l:List (List UInt8)):Nat:=l.countP fun y=>decide (y<k)
def find(m:List En)(k:List UInt8):Int :=
 if(keysOf m).2=false∨ka k (keysOf m).1=(keysOf m).1.length∨(keysOf m).1.getD (ka k (keysOf m).1) []≠k then -1 else ka k (keysOf m).1
theorem DY(k:List UInt8)(l:List (List UInt8)):ka k l≤l.length:=List.countP_le_length
structure wP (m:List En):Prop where
 len:m.length≤1024
 ok:∀ e∈m,cy e=0
 asc:KA (m.map cf)
theorem wP.keys{m:List En}(h:wP m):keysOf m=(m.map cf,true):=by
 have hl:=h.len;simp only[keysOf];rw[if_neg (by omega),FT m [] h.ok (by simpa using h.asc)];simp
theorem zA{o:aJ}(h:cw o=0)(hk:o.kind=1):cy o.entry=0∧bE o=cf o.entry:=by
 have hl:=(mi h).looked;have e:looked o=o.entry:=by simp[looked,hk]
 rw[e]at hl;refine⟨hl,?_⟩;simp[bE,h,e,dL,hl]
theorem nn{m:List aJ}(hm:∀ o∈m,cw o=0):wP (cq m):=by
 have hc:∀ o∈(current m).filter (fun o=>o.kind==1),cy o.entry=0∧bE o=cf o.entry:=fun o ho=>by
  rw[cV]at ho;exact zA (hm o (mU ho.1)) (by simpa using ho.2)
 refine⟨HW m,fun e he=>?_,?_⟩
 ·simp only[cq,bK]at he;obtain⟨o,ho,rfl⟩:=he;exact(hc o ho).1
 ·have hs:lu ((current m).filter fun o=>o.kind==1):=tN _ (xU m)
  have e:(cq m).map cf=((current m).filter fun o=>o.kind==1).map bE:=by
   simp only[cq,jM];exact dE fun o ho=>((hc o ho).2).symm
  rw[e];rw[KA,Q1];exact hs
def k8(k:List UInt8):List aJ→Nat
 | []=>0
 | y::r=>if Op.bytesLess (bE y) k=true then k8 k r+1 else 0
theorem FU(k:List UInt8):∀ l:List aJ,k8 k l≤l.length
 | []=>by simp[k8]
 | y::r=>by
  have:=FU k r;simp only[k8,ab];split<;>omega
theorem Ky{o:aJ}:∀ {l:List aJ},(∀ y,l[k8 (bE o) l]?=some y→bE y≠bE o)→rU o l=l.take (k8 (bE o) l)++o::l.drop (k8 (bE o) l)
 | [],_=>by simp[rU,k8]
 | y::r,h=>by
  simp only[rU,k8,gL,decide_eq_true_eq]at h ⊢
  by_cases h1:fS (bE y) (bE o)<0
  ·simp only[h1,if_true,bQ,cC,gN,aq]at h ⊢;rw[Ky h]
  ·simp only[h1,if_false,ao,aa,forall_eq',fJ,mg,ak]at h ⊢;rw[if_neg h]
theorem Kx{o y:aJ}:∀ {l:List aJ},l[k8 (bE o) l]?=some y→bE y=bE o→rU o l=if l8 o y=true then l.set (k8 (bE o) l) o else l
 | [],h,_=>by simp at h
 | z::r,h,hk=>by
  simp only[rU,k8,gL,decide_eq_true_eq]at h ⊢
  by_cases h1:fS (bE z) (bE o)<0
  ·simp only[h1,if_true,bQ,fb]at h ⊢;rw[Kx h hk];split<;>rfl
  ·simp only[h1,if_false,ao,aa,dU]at h ⊢;subst h;rw[if_pos hk]
theorem Pk(out:List aJ)(o:aJ):(qK out o).length≤out.length+1:=by
 have key:∀ l:List aJ,(rU o l).length≤l.length+1:=by
  intro l
  induction l with
  | nil=>simp[rU]
  | cons x l ih =>
   simp only[rU]
   repeat' split
   all_goals simp only[ab]at ih ⊢
   all_goals omega
 simp only[qK];split
 ·omega
 ·exact key out
theorem Pj{out:List aJ}{o z:aJ}(h:z∈qK out o):z=o∨z∈out:=by
 simp only[qK]at h;split at h
 ·exact .inr h
 ·exact Dy h
end Go.Bt

/- A part of a proof; the claim's last text says of what. -/
import Derived.Test.YtlakkaamfadipaaGreatDoorS21
import Derived.Test.YtlakkaamfadipaaGreatDoorS24
import Derived.Test.YtlakkaamfadipaaGreatDoorS27
import Derived.Test.YtlakkaamfadipaaGreatDoorS33
set_option linter.all false

set_option maxRecDepth 4000
namespace Go.Proofs.Tryz
open Go Go.Pm Go.Bt
theorem KT{J:ae}{K:Exit→St→Prop}(a b:List It)(t:It)(i:Nat)(M:Int)(hM:M<2^50)(bj:bG J)(hlen:b.length<2^38):∀ (rest pre:List It) (ns old:List Int) (diag left:Int),b=pre++rest→ns.length=pre.length→old.length=rest.length→BR M old→0≤diag∧diag≤M→0≤left∧left≤M+4 →
  ((fh (.sl 3 (a.map It.ah7)) (fh (.sl 3 (b.map It.ah7)) (fj 3 (fh (.own J.length 0) (fj 33 (fh (.sl 3 (a.map It.ah7)) (fh (.i .i64 a.length) (fh (.i .i64 i) (fj 69 fo))))))))) fun ZZ=>K (.exit 4) ⟨ZZ,J++[.row 3 1 8 0 false ((ns++left::gT t diag left rest old).map bR),.box 150 t.ah7]⟩) →
  fp J.length prog CK K (rest.length+1) ⟨(.sl 3 (a.map It.ah7)::.sl 3 (b.map It.ah7)::uu 3 (.own J.length 0::uu 3 (.ptr (J.length+1) 0::.i .i64 diag::uu 28 (.sl 3 (a.map It.ah7)::.i .i64 a.length::.i .i64 i::uu 13 (.sl 3 (b.map It.ah7)::.i .i64 b.length::.i .i64 pre.length::uu 53 []))))),J++[.row 3 1 8 0 false ((ns++left::old).map bR),.box 150 t.ah7]⟩:=by
 intro rest
 induction rest with
 | nil =>
  intro pre ns old diag left he Mi s7 hB hd hl h1;have he:b=pre:=by simpa using he
  subst he;have ho:old=[]:=aG (by simpa using s7);subst ho;have e:gT t diag left [] []=[]:=rfl;rw[e]at h1;refine aB fun R hR=>?_;simp only[CK,VV,seval];exact⟨fun h=>by simp at h,fun _=>h1 ..⟩
 | cons u rest ih =>
  intro pre ns old diag left he Mi s7 hB hd hl h1;subst he;cases old with
  | nil=>simp at s7
  | cons up old =>
   have hlen':pre.length+1+rest.length<2^38:=by simp at hlen;omega
   have hw:IntKind.i64.wrap ((pre.length:Int)+1)=(((pre++[u]).length:Nat):Int):=by
    rw[bd (by omega)];simp
   have nW:=hB up (by simp);have st:=dE t;have su:=dE u;have e1:IntKind.i64.wrap (up+single t)=up+single t:=IntWalk.i64_in _ (by omega);have e2:IntKind.i64.wrap (left+single u)=left+single u:=IntWalk.i64_in _ (by omega);have hx:ns++left::up::old=(ns++[left])++up::old:=by simp
   have Ri:(((pre++[u]).length:Nat):Int)=(((ns++[left]).length:Nat):Int):=by simp[Mi]
   have af3:((pre.length:Nat):Int)=((ns.length:Nat):Int):=by rw[Mi]
   have r1:eS ((ns++left::up::old).map bR) (ns++[left]).length 0=some (.i .i64 up):=by rw[hx];exact xE _ _ _
   have r2:eS ((ns++left::up::old).map bR) pre.length 0=some (.i .i64 left):=by rw[← Mi];exact xE _ _ _
   have r3:∀ v,((ns++left::up::old).map bR).set (ns++[left]).length [.i .i64 v]=(ns++left::v::old).map bR:=fun v=>by rw[hx,yV];simp
   have r4:((ns++left::up::old).map bR).getD (ns++[left]).length []=[.i .i64 up]:=by rw[hx];exact vc _ _ _
   refine aB fun R hR=>?_;simp only[CK,It.ah7,VV,seval];refine⟨fun _=>⟨by simp;omega,?_⟩,fun h=>by simp at h;omega⟩;simp only[hw,Ri,aD,r1,VV,seval];refine⟨by simp[s7];omega,?_⟩;refine⟨by simp[Mi];omega,?_⟩;simp only[aD,r2,VV,seval];refine az (rf t _) rfl ?_;simp only[e1,VV,seval];have b1:(0:Int)≤((ns++[left]).length:Nat)∧(((ns++[left]).length:Nat):Int)<(((ns++left::up::old).map bR).length:Nat):=⟨by omega,by simp;omega⟩;have b2:(0:Int)≤(pre.length:Nat)∧((pre.length:Nat):Int)<(((ns++left::up::old).map bR).length:Nat):=⟨by omega,by simp[Mi];omega⟩;simp only[r1,r2];refine⟨⟨b1,⟨True,rfl,trivial⟩,b2,⟨True,rfl,trivial⟩⟩,?_⟩;refine az (rf u _) rfl ?_;simp only[e2,r1,r2,VV,seval];refine⟨⟨b1,b2⟩,?_⟩;have Rr:=wO (t:=t) (u:=u) hd hl nW;have fM:∀ l,bG (J++[.row 3 1 8 0 false (List.map bR l),.box 150 t.ah7]):=fun l=>cj bj (by simp[It.ah7,LW]);have k:=ih (pre++[u]) (ns++[left]) old up (mN t u diag left up) (by simp) (by simp[Mi]) (by simpa using s7) (fun x hx=>hB x (by simp[hx])) nW Rr (by simpa only[aR,bn,bk,gT,It.ah7]using h1);simp only[aR,bn,bk,It.ah7,Ri]at k;have Y9:∀ c,dj t u=some c→IntKind.i64.wrap (diag+c)=diag+c:=fun c hc=>IntWalk.i64_in _ (by have:=oH hc;omega);refine az (Sg t u _) rfl ?_;cases hc:dj t u with
   | none =>
    simp only[hw,Ri,aD,r1,r3,r4,Option.isSome,Option.getD,VV,seval];have vg:mN t u diag left up=if left+single u<up+single t then left+single u else up+single t:=by unfold mN;rw[hc];rfl
    refine⟨b1,b1,by have:=b1.2;omega,?_⟩;rw[← vg];exact hR _ (b5 [_,_] [_] (fM _) (by repeat' constructor) (by simp[LW]) k)
   | some c =>
    simp only[hw,Ri,aD,Y9 c hc,r1,r3,r4,Option.isSome,Option.getD,VV,seval];have vg:mN t u diag left up=(if diag+c<(if left+single u<up+single t then left+single u else up+single t)then diag+c else(if left+single u<up+single t then left+single u else up+single t)):=by unfold mN;rw[hc];rfl
    refine⟨b1,b1,by have:=b1.2;omega,?_⟩;rw[← vg];exact hR _ (b5 [_,_] [_] (fM _) (by repeat' constructor) (by simp[LW]) k)
theorem KS{J:ae}{K:Exit→St→Prop}(a b:List It)(bj:bG J)(hlen:b.length<2^38)(xc:a.length<2^38):∀ (rest pre:List It) (row:List Int) (M:Int),a=pre++rest→row.length=b.length+1→BR M row→M+4*rest.length<2^50 →
  ((fh (.sl 3 (a.map It.ah7)) (fh (.sl 3 (b.map It.ah7)) (fj 3 (fh (.own J.length 0) (fj 105 fo))))) fun ZZ=>K (.exit 2) ⟨ZZ,J++[.row 3 1 8 0 false ((rest.foldl (fun row t=>fZ t b row) row).map bR)]⟩) →
  fp J.length prog CJ K (rest.length+1) ⟨(.sl 3 (a.map It.ah7)::.sl 3 (b.map It.ah7)::uu 3 (.own J.length 0::uu 33 (.sl 3 (a.map It.ah7)::.i .i64 a.length::.i .i64 pre.length::uu 69 []))),J++[.row 3 1 8 0 false (row.map bR)]⟩:=by
 intro rest
 induction rest with
 | nil =>
  intro pre row M he hr hB hM h1;have he:a=pre:=by simpa using he
  subst he;refine aB fun R hR=>?_;simp only[CJ,VV,seval];exact⟨fun h=>by simp at h,fun _=>h1 ..⟩
 | cons x rest ih =>
  intro pre row M he hr hB hM h1;subst he
  obtain⟨r0,old,rfl⟩:∃ r0 old,row=r0::old:=by cases row with
   | nil=>simp at hr
   | cons r0 old=>exact⟨_,_,rfl⟩
  have hlen':pre.length+1+rest.length<2^38:=by simp at xc;omega
  have hw:IntKind.i64.wrap ((pre.length:Int)+1)=(((pre++[x]).length:Nat):Int):=by
   rw[bd (by omega)];simp
  have h0:=hB r0 (by simp);have sx:=dE x;have e1:IntKind.i64.wrap (r0+single x)=r0+single x:=IntWalk.i64_in _ (by omega);have r1:eS (bR r0::old.map bR) 0 0=some (.i .i64 r0):=xE [] _ _;have r3:∀ v,(bR r0::old.map bR).set 0 [.i .i64 v]=bR v::old.map bR:=fun v=>yV [] _ _ _;have r4:(bR r0::old.map bR).getD 0 []=[.i .i64 r0]:=vc [] _ _;refine aB fun R hR=>?_;simp only[CJ,It.ah7,VV,seval];refine⟨fun _=>⟨by simp;omega,?_⟩,fun h=>by simp at h;omega⟩;refine⟨by omega,?_⟩;simp only[r1,VV,seval];refine⟨by omega,?_⟩;refine az (rf x _) rfl ?_;simp only[e1,r1,r3,r4,ag,VV,seval];have hB':BR (M+4) (fZ x b (r0::old)):=hB.new b;have hl:(fZ x b (r0::old)).length=b.length+1:=by rw[wc,hr]
  simp only[ai]at hM;have fM:∀ l,bG (J++[.row 3 1 8 0 false (List.map bR l)]):=fun l=>cj bj (by simp);refine⟨by omega,by omega,by omega,?_⟩;refine b6.aZ (fr':=(.sl 3 ((pre++x::rest).map It.ah7)::.sl 3 (b.map It.ah7)::uu 3 (.own J.length 0::uu 3 (.ptr (J.length+1) 0::.i .i64 r0::uu 28 (.sl 3 ((pre++x::rest).map It.ah7)::.i .i64 (pre++x::rest).length::.i .i64 pre.length::uu 13 (.sl 3 (b.map It.ah7)::.i .i64 b.length::.i .i64 (([]:List It).length:Nat)::uu 53 [])))))) (by repeat' constructor) (b.length+1) (KT (pre++x::rest) b x pre.length M (by omega) bj hlen b [] [] old r0 (r0+single x) rfl rfl (by simpa using hr) (fun y hy=>hB y (by simp[hy])) h0 (by omega) ?_);simp only[JE];intros;simp only[VV,seval];simp only[hw];refine hR _ (b5 [_] [_] (fM (fZ x b (r0::old))) (by repeat' constructor) (by simp[LW]) (ih (pre++[x]) _ (M+4) (by simp) hl hB' (by omega) h1))
theorem KU{J:ae}{K:Exit→St→Prop}(a b:List It)(bj:bG J)(hlen:b.length<2^38):∀ (rest pre:List It) (xs:List Int) (s:Int) (old:List Int),b=pre++rest→xs.length=pre.length→old.length=rest.length→0≤s∧s≤4*(pre.length:Int) →
  ((fh (.sl 3 (a.map It.ah7)) (fh (.sl 3 (b.map It.ah7)) (fj 3 (fh (.own J.length 0) (fj 105 fo))))) fun ZZ=>K (.exit 0) ⟨ZZ,J++[.row 3 1 8 0 false ((xs++s::jM s rest).map bR)]⟩) →
  fp J.length prog CL K (rest.length+1) ⟨(.sl 3 (a.map It.ah7)::.sl 3 (b.map It.ah7)::uu 3 (.own J.length 0::uu 14 (.sl 3 (b.map It.ah7)::.i .i64 b.length::.i .i64 pre.length::uu 88 []))),J++[.row 3 1 8 0 false ((xs++s::old).map bR)]⟩:=by
 intro rest
 induction rest with
 | nil =>
  intro pre xs s old he hx s7 hs h1;have he:b=pre:=by simpa using he
  subst he;have ho:old=[]:=aG (by simpa using s7);subst ho;refine aB fun R hR=>?_;simp only[CL,VV,seval];exact⟨fun h=>by simp at h,fun _=>h1 ..⟩
 | cons u rest ih =>
  intro pre xs s old he hx s7 hs h1;subst he;cases old with
  | nil=>simp at s7
  | cons w old =>
   have hlen':pre.length+1+rest.length<2^38:=by simp at hlen;omega
   have hw:IntKind.i64.wrap ((pre.length:Int)+1)=(((pre++[u]).length:Nat):Int):=by
    rw[bd (by omega)];simp
   have su:=dE u;have e1:IntKind.i64.wrap (s+single u)=s+single u:=IntWalk.i64_in _ (by omega);have r2:eS ((xs++s::w::old).map bR) pre.length 0=some (.i .i64 s):=by rw[← hx];exact xE _ _ _
   have hx':xs++s::w::old=(xs++[s])++w::old:=by simp
   have r3:∀ v,((xs++s::w::old).map bR).set (pre++[u]).length [.i .i64 v]=(xs++s::v::old).map bR:=fun v=>by
    have:(pre++[u]).length=(xs++[s]).length:=by simp[hx]
    rw[this,hx',yV];simp
   have r4:((xs++s::w::old).map bR).getD (pre++[u]).length []=[.i .i64 w]:=by
    have:(pre++[u]).length=(xs++[s]).length:=by simp[hx]
    rw[this,hx'];exact vc _ _ _
   have b1:(0:Int)≤((pre++[u]).length:Nat)∧(((pre++[u]).length:Nat):Int)<(((xs++s::w::old).map bR).length:Nat):=⟨by omega,by simp[hx];omega⟩;have k:=ih (pre++[u]) (xs++[s]) (s+single u) old (by simp) (by simp[hx]) (by simpa using s7) (by simp;omega) (by simpa only[aR,bn,bk,jM]using h1);simp only[aR,bn,bk]at k;refine aB fun R hR=>?_;simp only[CL,It.ah7,VV,seval];refine⟨fun _=>⟨by simp;omega,?_⟩,fun h=>by simp at h;omega⟩;simp only[aD,r2,VV,seval];have b2:(0:Int)≤(pre.length:Nat)∧((pre.length:Nat):Int)<(((xs++s::w::old).map bR).length:Nat):=⟨by omega,by simp[hx];omega⟩;refine⟨b2,?_⟩;refine az (rf u _) rfl ?_;simp only[e1,hw,aD,r2,r3,r4,VV,seval];have fM:bG (J++[.row 3 1 8 0 false (List.map bR (xs++s::(s+single u)::old))]):=cj bj (by simp);exact⟨b2,b1,by have:=b1.2;omega,hR _ (b5 [_] [_] fM (by repeat' constructor) (by simp[LW]) k)⟩
theorem x7(a b:List It)(ha:a.length<2^27)(hb:b.length<2^27):0≤iw a b∧iw a b≤2^60:=by
 have hC1:=CB.nil.count 1 (by omega) a;have hC:=hC1.count (-1) (by omega) b;have hK:iN (oS a b):=iN.count (-1) b (iN.count 1 a (by simp[iN]));have hS:=BZ (C:=oS a b) hC hK
 have hle:((0+a.length+b.length:Nat):Int)*((oS a b).length:Int)≤2^28*2^28:=by
  have h1:((oS a b).length:Int)≤2^28:=by have:=hC.1;unfold oS;omega
  exact s4 (by omega) h1 (by omega) (by omega)
 have:=dq hS.2 hle;have:=hS.1;unfold iw;omega
theorem FP(a b:List It)(ha:a.length<2^27)(hb:b.length<2^27)(J:ae):PC prog 166 [.sl 3 (a.map It.ah7),.sl 3 (b.map It.ah7)] J (fun r J'=>r=.i .i64 (gi a b)∧J'=J):=by
 refine PC.intro func166 adk fun bj dx=>ax ?_;simp only[Xz,SS,seval];have hw:IntKind.i64.wrap ((b.length:Int)+1)=((b.length+1:Nat):Int):=bd (by omega);have Ll:((b.length+1:Nat):Int)≤maxLen:=dq (show _≤(2^62:Int)by omega) (by decide);have UF:List.replicate (b.length+1) [V.i .i64 0]=(([]:List Int)++0::List.replicate b.length 0).map bR:=by simp[rF,bR]
 simp only[ag,hw,aD,UF,VV,seval];have hR:=El a b;refine⟨⟨by omega,Or.inl trivial,by omega,by omega,Ll⟩,?_⟩;refine b6.aZ (fr':=(.sl 3 (a.map It.ah7)::.sl 3 (b.map It.ah7)::uu 3 (.own J.length 0::uu 14 (.sl 3 (b.map It.ah7)::.i .i64 b.length::.i .i64 (([]:List It).length:Nat)::uu 88 [])))) (by repeat' constructor) (b.length+1) (KU a b bj (by omega) b [] [] 0 _ rfl rfl (by simp) (by simp) ?_);simp only[JE];intros;simp only[ag,VV,seval];refine b6.aZ (fr':=(.sl 3 (a.map It.ah7)::.sl 3 (b.map It.ah7)::uu 3 (.own J.length 0::uu 33 (.sl 3 (a.map It.ah7)::.i .i64 a.length::.i .i64 (([]:List It).length:Nat)::uu 69 [])))) (by repeat' constructor) (a.length+1) (KS a b bj (by omega) (by omega) a [] (tn b) (4*b.length) rfl (Eo b) (BR.tn b) (by omega) ?_);simp only[JE];intros;simp only[ag,VV,seval];have hlen:(List.foldl (fun row t=>fZ t b row) (tn b) a).length=b.length+1:=hR.2;obtain⟨x,hx⟩:∃ x,(yl a b)[b.length]?=some x:=⟨_,ak (by rw[hR.2];omega)⟩;have jr:=hR.1 x (aT hx);have BD:=x7 a b ha hb;have hd:gi a b=x+iw a b:=by simp only[gi,an,hx,Option.getD]
 have s5:IntKind.i64.wrap (x+iw a b)=x+iw a b:=IntWalk.i64_in _ (by omega)
 have eA:eS (List.map bR (List.foldl (fun row t=>fZ t b row) (tn b) a)) b.length 0=some (.i .i64 x):=by
  have:(List.foldl (fun row t=>fZ t b row) (tn b) a)[b.length]?=some x:=hx;simp[eS,this,bR]
 refine⟨by omega,?_⟩;simp only[aD,eA,VV,seval];refine az (GF a b ha hb _) rfl ?_;simp only[s5,eA,hlen,aD,VV,seval];refine⟨⟨by rw[ag],by omega,by rw[ag];omega⟩,?_⟩;exact jz bj (by rw[hd];simp only[RS,seval]) (by simp only[LW])
end Go.Proofs.Tryz
namespace Go.Pm
theorem og{P:Program}{c:bD}{K:Exit→St→Prop}{N:Nat}{fr fr':List V}{J:ae}(loc:ae)(bj:bG J)(hc:nU fr fr')(hl:eI J.length fr')(k:fp J.length P c K N ⟨fr',J⟩):fp J.length P c K N ⟨fr,J++loc⟩ :=
 sy ((Wk.gA hc).trans (Wk.wF (aq _) bj (dS.1 hl))) k
end Go.Pm
namespace Go.Proofs.Tryz
open Go Go.Pm Go.Bt
theorem zA(a b:List It)(ha:a.length<2^27)(hb:b.length<2^27):0≤gi a b∧gi a b≤2^61:=by
 have hR:=El a b;obtain⟨x,hx⟩:∃ x,(yl a b)[b.length]?=some x:=⟨_,ak (by rw[hR.2];omega)⟩;have jr:=hR.1 x (aT hx);have BD:=x7 a b ha hb;have hd:gi a b=x+iw a b:=by simp only[gi,an,hx,Option.getD]
 omega
theorem Sp(a b:List It)(ha:a.length<2^27)(hb:b.length<2^27)(J:ae):PC prog 165 [.sl 3 (a.map It.ah7),.sl 3 (b.map It.ah7)] J (fun r J'=>r=.i .i64 (fE a b)∧J'=J):=by
 refine PC.intro func165 adl fun bj dx=>ax ?_;simp only[XA,SS,seval];simp only[VV,seval];refine az (xT a (by omega) _) rfl ?_;simp only[VV,seval];refine az (xT b (by omega) _) rfl ?_;simp only[VV,seval];exact aU (.inr rfl) rfl ⟨rfl,rfl⟩
theorem GZ(a b:List It)(ha:a.length<2^27)(hb:b.length<2^27)(J:ae):PC prog 106 [.sl 3 (a.map It.ah7),.sl 3 (b.map It.ah7)] J (fun r J'=>r=.i .i64 (cL a b)∧J'=J):=by
 refine PC.intro func106 adP fun bj dx=>ax ?_;simp only[Yb,SS,seval];simp only[VV,seval];refine az (Sp a b ha hb _) rfl ?_;simp only[VV,seval];have zd:=um a b;have hd:=zA a b ha hb;refine⟨fun h=>?_,fun h=>?_⟩
 ·have h0:fE a b=0:=by simpa using h
  exact aU (.inr rfl) rfl ⟨by simp[cL,h0,one],rfl⟩
 ·have h0:fE a b≠0:=by simpa using h
  have e1:IntKind.i64.wrap (fE a b - gi a b)=fE a b - gi a b:=IntWalk.i64_in _ (by omega);have e2:IntKind.i64.wrap (100*if fE a b - gi a b<0 then 0 else fE a b - gi a b)=100*if fE a b - gi a b<0 then 0 else fE a b - gi a b:=IntWalk.i64_in _ (by split<;>omega)
  refine az (FP a b ha hb _) rfl ?_;simp only[e1,e2,VV,seval];have hp:=qk a b hd.1;have YM:cL a b=(100*if fE a b - gi a b<0 then 0 else fE a b - gi a b).tdiv (fE a b):=by simp only[cL,h0,aK,mx]
  refine⟨h0,?_⟩;rw[← YM,IntWalk.i64_in _ (by omega)];exact aU (.inr rfl) rfl ⟨rfl,rfl⟩
theorem HW(e:En)(q:Qr)(J:ae):PC prog 108 [.agg e.ah7,.agg q.ah7] J (fun r J'=>r=.i .i64 (fV e q)∧J'=J):=by
 refine PC.intro func108 adN fun bj dx=>ax ?_;simp only[X9,SS,seval];simp only[En.ah7,Qr.ah7,VV,seval];have w1:IntKind.i64.wrap 1=1:=by decide
 have w2:IntKind.i64.wrap (1+1)=2:=by decide
 simp only[w1,w2]
 refine⟨fun h1=>⟨fun h2=>?_,fun h2=>?_⟩,fun h1=>⟨fun h2=>?_,fun h2=>?_⟩⟩ <;>
  exact bF bj (.inr rfl) (by simp only[RS,seval];rfl) (by simp only[LW]) ⟨by have h1:=(show BP _ _=_ from h1);have h2:=(show BP _ _=_ from h2);simp[fV,h1,h2,one],rfl⟩
end Go.Proofs.Tryz
set_option maxRecDepth 4000
namespace Go.Proofs.Tryz
open Go Go.Pm Go.Bt
theorem KP{J:ae}{K:Exit→St→Prop}(a b:List It)(bj:bG J)(ha:a.length<2^27)(hb:b.length<2^27):∀ (rest pre:List It) (n:Int),a=pre++rest→0≤n∧n+nG a b pre rest≤2^60 →
  ((fh (.sl 3 (a.map It.ah7)) (fh (.sl 3 (b.map It.ah7)) (fj 3 (fh (.i .i64 (n+nG a b pre rest)) (fj 66 fo))))) fun ZZ=>K (.exit 0) ⟨ZZ,J⟩) →
  fp J.length prog CG K (rest.length+1) ⟨(.sl 3 (a.map It.ah7)::.sl 3 (b.map It.ah7)::uu 3 (.i .i64 n::uu 5 (.sl 3 (a.map It.ah7)::.i .i64 a.length::.i .i64 pre.length::uu 58 []))),J⟩:=by
 intro rest
 induction rest with
 | nil =>
  intro pre n he hn h1;have he:a=pre:=by simpa using he
  subst he;simp only[nG,rO]at h1;refine aB fun R hR=>?_;simp only[CG,VV,seval];exact⟨fun h=>by simp at h,fun _=>h1 ..⟩
 | cons t rest ih =>
  intro pre n he hn h1;subst he;have hlen':pre.length+1+rest.length<2^27:=by simp at ha;omega
  have hw:IntKind.i64.wrap ((pre.length:Int)+1)=(((pre++[t]).length:Nat):Int):=by
   rw[bd (by omega)];simp
  have hm:(((pre++t::rest).map It.ah7).take pre.length)=pre.map It.ah7:=by rw[← List.map_take];simp
  refine aB fun R hR=>?_;simp only[CG,It.ah7,VV,seval];refine⟨fun _=>⟨by simp;omega,?_⟩,fun h=>by simp at h;omega⟩;refine az (qh t _) rfl ?_;simp only[hm,VV,seval];refine⟨fun _=>⟨by omega,by simp;omega⟩,?_⟩;refine cu (by simp only[VV,seval]<;>rfl) (fun _=>kf pre t (by omega) _) rfl ?_;simp only[VV,seval];refine⟨fun h=>?_,fun h=>?_⟩
  ·have q1:=kN (pre++t::rest) t;have q2:=kN b t
   have hs:nG (pre++t::rest) b pre (t::rest)=kB (cG (pre++t::rest) t - cG b t)+nG (pre++t::rest) b (pre++[t]) rest:=by
    simp only[nG,h,aL]
   have hsr:=xx (pre++t::rest) b rest (pre++[t]);have Ow:=JI (d:=cG (pre++t::rest) t - cG b t) (n:=(((pre++t::rest).length:Nat):Int)+b.length) (by omega);rw[hs]at h1 hn;refine az (kf _ t (by omega) _) rfl ?_;simp only[VV,seval];refine az (kf b t (by omega) _) rfl ?_;have w1:IntKind.i64.wrap (cG (pre++t::rest) t - cG b t)=cG (pre++t::rest) t - cG b t:=IntWalk.i64_in _ (by omega);have w2:IntKind.i64.wrap (0 - (cG (pre++t::rest) t - cG b t)) = -(cG (pre++t::rest) t - cG b t):=by rw[IntWalk.i64_in _ (by omega)];omega
   have w3:IntKind.i64.wrap (n+kB (cG (pre++t::rest) t - cG b t))=n+kB (cG (pre++t::rest) t - cG b t):=IntWalk.i64_in _ (by omega);simp only[w1,w2,VV,seval];simp only[hw];change R ⟨_::_::_::_::_::V.i .i64 (IntKind.i64.wrap (n+kB (cG (pre++t::rest) t - cG b t)))::_,_⟩;rw[w3];exact hR _ (og [_] bj (by repeat' constructor) (by simp[LW]) (ih (pre++[t]) (n+kB (cG (pre++t::rest) t - cG b t)) (by simp) (by omega) (by rw[Gt];exact h1)))
  ·have hs:nG (pre++t::rest) b pre (t::rest)=nG (pre++t::rest) b (pre++[t]) rest:=by
    simp only[nG,h,aF,aK,dL]
   rw[hs]at h1 hn;simp only[hw];exact hR _ (og [_] bj (by repeat' constructor) (by simp[LW]) (ih (pre++[t]) n (by simp) hn h1))
theorem KO{J:ae}{K:Exit→St→Prop}(a b:List It)(bj:bG J)(ha:a.length<2^27)(hb:b.length<2^27):∀ (rest pre:List It) (n:Int),b=pre++rest→0≤n∧n+oT a b pre rest≤2^60 →
  ((fj 5 (fh (.i .i64 (n+oT a b pre rest)) (fj 66 fo))) fun ZZ=>K (.exit 2) ⟨ZZ,J⟩) →
  fp J.length prog CF K (rest.length+1) ⟨(.sl 3 (a.map It.ah7)::.sl 3 (b.map It.ah7)::uu 3 (.i .i64 n::uu 36 (.sl 3 (b.map It.ah7)::.i .i64 b.length::.i .i64 pre.length::uu 27 []))),J⟩:=by
 intro rest
 induction rest with
 | nil =>
  intro pre n he hn h1;have he:b=pre:=by simpa using he
  subst he;simp only[oT,rO]at h1;refine aB fun R hR=>?_;simp only[CF,VV,seval];exact⟨fun h=>by simp at h,fun _=>h1 ..⟩
 | cons t rest ih =>
  intro pre n he hn h1;subst he;have hlen':pre.length+1+rest.length<2^27:=by simp at hb;omega
  have hw:IntKind.i64.wrap ((pre.length:Int)+1)=(((pre++[t]).length:Nat):Int):=by
   rw[bd (by omega)];simp
  have hm:(((pre++t::rest).map It.ah7).take pre.length)=pre.map It.ah7:=by rw[← List.map_take];simp
  refine aB fun R hR=>?_;simp only[CF,It.ah7,VV,seval];refine⟨fun _=>⟨by simp;omega,?_⟩,fun h=>by simp at h;omega⟩;refine az (qh t _) rfl ?_;simp only[hm,VV,seval];refine⟨fun _=>⟨by omega,by simp;omega⟩,?_⟩;refine cu (by simp only[VV,seval]<;>rfl) (fun _=>kf pre t (by omega) _) rfl ?_;simp only[VV,seval];refine cu (by simp only[VV,seval]<;>rfl) (fun _=>kf a t (by omega) _) rfl ?_;simp only[VV,seval];refine⟨fun h=>?_,fun h=>?_⟩
  ·have q2:=kN (pre++t::rest) t
   have hs:oT a (pre++t::rest) pre (t::rest)=cG (pre++t::rest) t+oT a (pre++t::rest) (pre++[t]) rest:=by
    simp only[oT,h,aL]
   have hsr:=xw a (pre++t::rest) rest (pre++[t]);rw[hs]at h1 hn;refine az (kf _ t (by omega) _) rfl ?_;have w3:IntKind.i64.wrap (n+cG (pre++t::rest) t)=n+cG (pre++t::rest) t:=IntWalk.i64_in _ (by omega);simp only[w3,hw,VV,seval];exact hR _ (og [_] bj (by repeat' constructor) (by simp[LW]) (ih (pre++[t]) (n+cG (pre++t::rest) t) (by simp) (by omega) (by rw[Gt];exact h1)))
  ·have hs:oT a (pre++t::rest) pre (t::rest)=oT a (pre++t::rest) (pre++[t]) rest:=by
    simp only[oT,h,aF,aK,dL]
   rw[hs]at h1 hn;simp only[hw];exact hR _ (og [_] bj (by repeat' constructor) (by simp[LW]) (ih (pre++[t]) n (by simp) hn h1))
theorem Iu(a b:List It)(ha:a.length<2^27)(hb:b.length<2^27):0≤nG a b [] a∧nG a b [] a≤2^58∧0≤oT a b [] b∧oT a b [] b≤2^58:=by
 have h1:=xx a b a [];have h2:=xw a b b [];have h3:(a.length:Int)*((a.length:Int)+b.length)≤2^28*2^28:=s4 (by omega) (by omega) (by omega) (by omega);have h4:(b.length:Int)*((a.length:Int)+b.length)≤2^28*2^28:=s4 (by omega) (by omega) (by omega) (by omega);omega
theorem Ay(a b:List It)(ha:a.length<2^27)(hb:b.length<2^27)(J:ae):PC prog 174 [.sl 3 (a.map It.ah7),.sl 3 (b.map It.ah7)] J (fun r J'=>r=.i .i64 (mY a b)∧J'=J):=by
 refine PC.intro func174 ada fun bj dx=>ax ?_;simp only[Xq,SS,seval];simp only[ag,VV,seval];have hB:=Iu a b ha hb;refine b6.aZ (fr':=(.sl 3 (a.map It.ah7)::.sl 3 (b.map It.ah7)::uu 3 (.i .i64 0::uu 5 (.sl 3 (a.map It.ah7)::.i .i64 a.length::.i .i64 ([]:List It).length::uu 58 [])))) (by repeat' constructor) (a.length+1) (KP a b bj ha hb a [] 0 rfl (by omega) ?_);simp only[JE];intros;simp only[ag,VV,seval];refine b6.aZ (fr':=(.sl 3 (a.map It.ah7)::.sl 3 (b.map It.ah7)::uu 3 (.i .i64 (0+nG a b [] a)::uu 36 (.sl 3 (b.map It.ah7)::.i .i64 b.length::.i .i64 ([]:List It).length::uu 27 [])))) (by repeat' constructor) (b.length+1) (KO a b bj ha hb b [] (0+nG a b [] a) rfl (by omega) ?_);simp only[JE];intros;simp only[ag,VV,seval];exact aU (.inr rfl) (by simp only[RS,seval];rfl) ⟨by simp[mY,one],rfl⟩
def Tj(a b:List It):Int:=tv a b+2*mY a b
theorem yp(a b:List It)(ha:a.length<2^27)(hb:b.length<2^27)(J:ae):PC prog 111 [.sl 3 (a.map It.ah7),.sl 3 (b.map It.ah7)] J (fun r J'=>r=.i .i64 (Tj a b)∧J'=J):=by
 refine PC.intro func111 adL fun bj dx=>ax ?_;simp only[X6,SS,seval];simp only[VV,seval];refine cm (Eu a b (by omega) (by omega) _) rfl ?_;rintro _ _ ⟨rfl,rfl⟩;have t0:(A7 a b J.length)[0]?=some (.box 25 (jB (J.length+1) (a.length+1))):=rfl;have c0:(jB (J.length+1) (a.length+1))[0]?=some (.own (J.length+1+a.length) 0):=rfl
 have t1:(J++A7 a b J.length)[J.length+1+a.length]?=some (fT (fg a b 0 0)):=by
  rw[aA (by omega)];have e:J.length+1+a.length - J.length=a.length+1:=by omega
  rw[e];simp[A7,sv,ka,aA]
 have q0:eS ((fg a b 0 0).map bR) 0 0=some (.i .i64 (tv a b)):=by
  have:=ql (a:=a) (b:=b) (i:=0) (dT 0) (dT _);simpa[tIJ]using this
 have L0:((fg a b 0 0).map bR).length=b.length+1:=by rw[ag,uQ _ _ _ _ (by omega)]
 have htv:=vK a b;have hsr:=Iu a b ha hb;have w1:IntKind.i64.wrap (2*mY a b)=2*mY a b:=IntWalk.i64_in _ (by unfold mY;omega);have w2:IntKind.i64.wrap (tv a b+2*mY a b)=tv a b+2*mY a b:=IntWalk.i64_in _ (by unfold mY;omega);simp only[t0,c0,t1,q0,L0,fT,VV,seval];refine⟨by omega,by omega,?_⟩;refine az (Ay a b ha hb _) rfl ?_;simp only[t0,c0,t1,q0,L0,w1,w2,fT,VV,seval];refine⟨⟨by omega,by omega⟩,?_⟩;exact jz bj (by simp only[RS,seval];rfl) (by simp only[LW])
theorem xQ(n:Int)(hn : -9223372036854775808≤n∧n≤9223372036854775807)(J:ae):PC prog 252 [.i .i64 n] J (fun r J'=>r=.agg [.i .i64 (if n<0 then -1 else 0),.i .u64 (if n<0 then n+18446744073709551616 else n)]∧J'=J):=by
 refine PC.intro func252 acv fun bj dx=>ax ?_;simp only[WK,SS,seval];simp only[VV,seval]
 have e1:n.fdiv (2^min 63 IntKind.i64.bits)=if n<0 then -1 else 0:=by
  have:(2:Int)^min 63 IntKind.i64.bits=9223372036854775808:=by decide
  rw[this,VS _ (by omega)];split<;>omega
 have e2:IntKind.u64.wrap n=if n<0 then n+18446744073709551616 else n:=by
  rw[IntKind.wrap_u64];split<;>omega
 simp only[e1,e2];exact jz bj (by simp only[RS,seval]) (by simp only[LW])
theorem Su(now aif dR:Int)(hn : -9223372036854775808≤now∧now≤9223372036854775807)(hc : -9223372036854775808≤aif∧aif≤9223372036854775807)(ho : -9223372036854775808≤dR∧dR≤9223372036854775807)(J:ae):
  PC prog 216 [.i .i64 now,.i .i64 aif,.i .i64 dR] J (fun r J'=>r=.b (decide (dR≤now - aif))∧J'=J):=by
 refine PC.intro func216 acL fun bj dx=>ax ?_;simp only[W1,SS,seval];simp only[VV,seval];refine az (xQ now hn _) rfl ?_;simp only[VV,seval];refine az (xQ aif hc _) rfl ?_;simp only[VV,seval];refine az (xQ dR ho _) rfl ?_;simp only[VV,seval];refine⟨⟨by split<;>omega,by split<;>omega,by split<;>omega⟩,?_⟩;refine bF bj (.inr rfl) (by simp only[RS,seval];rfl) (by simp only[LW]) ⟨?_,rfl⟩;simp only[one,V.b.injEq];rw[gP];simp only[da,aO,aY,bT,IntKind.wrap_i64]
 by_cases h1:now<0<;>by_cases h2:aif<0<;>by_cases h3:dR<0<;>simp only[h1,h2,h3,aL,aK]<;>split<;>omega
theorem Cp(p:Pn)(e:En)(now:Int)(hn : -9223372036854775808≤now∧now≤9223372036854775807)(hc : -9223372036854775808≤e.aif∧e.aif≤9223372036854775807)(hp : -9223372036854775808≤p.dR∧p.dR≤9223372036854775807)(J:ae):PC prog 167 [.agg p.ah7,.agg e.ah7,.i .i64 now] J (fun r J'=>r=.b (jI p e now)∧J'=J):=by
 refine PC.intro func167 adj fun bj dx=>ax ?_;simp only[Xy,SS,seval];simp only[Pn.ah7,En.ah7,VV,seval];refine⟨fun h1=>?_,fun h1=>⟨fun h2=>?_,fun h2=>?_⟩⟩
 ·exact bF bj (.inr rfl) (by simp only[RS,seval];rfl) (by simp only[LW]) ⟨by simp only[jI,h1,one,aL],rfl⟩
 ·have h2:=(show((p.cJ != []&&p.cJ != e.cJ)||(p.b8 != []&&p.b8 != e.b8))=true from h2);exact bF bj (.inr rfl) (by simp only[RS,seval];rfl) (by simp only[LW]) ⟨by simp only[jI,h1,h2,one];rfl,rfl⟩
 ·have h2:=(show((p.cJ != []&&p.cJ != e.cJ)||(p.b8 != []&&p.b8 != e.b8))=false from h2);refine cu (by simp only[VV,seval]<;>rfl) (fun _=>Su now e.aif p.dR hn hc hp _) rfl ?_;simp only[VV,seval];exact bF bj (.inr rfl) (by simp only[RS,seval];rfl) (by simp only[LW]) ⟨by simp only[jI,h1,h2,one];rfl,rfl⟩
theorem QO{J:ae}{K:Exit→St→Prop}(e:En)(now:Int)(bj:bG J)(hn : -9223372036854775808≤now∧now≤9223372036854775807)(hc : -9223372036854775808≤e.aif∧e.aif≤9223372036854775807)
  (l:List Pn) (hlen:l.length<2^40) (hl:∀ p∈l,-9223372036854775808≤p.dR∧p.dR≤9223372036854775807):∀ (rest pre:List Pn) (s:Int),l=pre++rest→0≤s∧s≤100 →
  ((fj 7 (fh (.i .i64 (kq e now s rest)) (fj 25 fo))) fun ZZ=>K (.exit 0) ⟨ZZ,J++[.box 37 e.ah7]⟩) →
  fp J.length prog CX K (rest.length+1) ⟨(uu 2 (.i .i64 now::uu 1 (.ptr J.length 0::uu 2 (.i .i64 s::uu 2 (.sl 5 (l.map Pn.ah7)::.i .i64 l.length::.i .i64 pre.length::uu 20 []))))),J++[.box 37 e.ah7]⟩:=by
 intro rest
 induction rest with
 | nil =>
  intro pre s he hs h1;have he:l=pre:=by simpa using he
  subst he;refine aB fun R hR=>?_;simp only[CX,VV,seval];exact⟨fun h=>by simp at h,fun _=>h1 ..⟩
 | cons p rest ih =>
  intro pre s he hs h1;subst he;have hlen':pre.length+1+rest.length<2^40:=by simp at hlen;omega
  have hw:IntKind.i64.wrap ((pre.length:Int)+1)=(((pre++[p]).length:Nat):Int):=by
   rw[bd (by omega)];simp
  have fM:bG (J++[.box 37 e.ah7]):=cj bj (by simp[En.ah7,LW]);refine aB fun R hR=>?_;simp only[CX,Pn.ah7,En.ah7,VV,seval];refine⟨fun _=>⟨by simp;omega,?_⟩,fun h=>by simp at h;omega⟩;refine cu (by simp only[VV,seval]<;>rfl) (fun _=>Cp p e now hn hc (hl p (by simp)) _) rfl ?_;simp only[hw,VV,seval];refine⟨fun h2=>?_,fun h2=>?_⟩
  ·have xb:0<p.points:=by simp only[aO,aY]at h2;exact h2.1
   have e1:IntKind.i64.wrap (s+if 100<p.points then 100 else p.points)=s+mn p.points 100:=IntWalk.i64_in _ (by split<;>omega);have Jh:0≤mn (s+mn p.points 100) 100∧mn (s+mn p.points 100) 100≤100:=by unfold mn;(repeat' split)<;>omega
   rw[e1];exact hR _ (b5 [_] [_] fM (by repeat' constructor) (by simp[LW]) (ih (pre++[p]) (mn (s+mn p.points 100) 100) (by simp) Jh (by simpa only[kq,h2,aL]using h1)))
  ·exact hR _ (b5 [_] [_] fM (by repeat' constructor) (by simp[LW]) (ih (pre++[p]) s (by simp) hs (by simpa only[kq,h2,aF,aK]using h1)))
theorem Kx(l:List Pn)(e:En)(now:Int)(hn : -9223372036854775808≤now∧now≤9223372036854775807)(hc : -9223372036854775808≤e.aif∧e.aif≤9223372036854775807)
  (hlen:l.length<2^40) (hl:∀ p∈l,-9223372036854775808≤p.dR∧p.dR≤9223372036854775807) (J:ae):PC prog 107 [.sl 5 (l.map Pn.ah7),.agg e.ah7,.i .i64 now] J (fun r J'=>r=.i .i64 (gC l e now)∧J'=J):=by
 refine PC.intro func107 adO fun bj dx=>ax ?_;simp only[Ya,SS,seval];simp only[En.ah7,ag,VV,seval];refine b6.aZ (fr':=(uu 2 (.i .i64 now::uu 1 (.ptr J.length 0::uu 2 (.i .i64 0::uu 2 (.sl 5 (l.map Pn.ah7)::.i .i64 l.length::.i .i64 ([]:List Pn).length::uu 20 [])))))) (by repeat' constructor) (l.length+1) (QO e now bj hn hc l hlen hl l [] 0 rfl (by omega) ?_);simp only[JE];intros;simp only[VV,seval];exact jz bj (by simp only[RS,seval];rfl) (by simp only[LW])
theorem Um{J:ae}{K:Exit→St→Prop}(bj:bG J)(l:List Pn)(hlen:l.length<2^40):∀ (rest pre:List Pn),l=pre++rest →
  (lO rest≠0→∀ loc,((fj 2 (fh (.i .i64 (lO rest)) (fj 60 fo))) fun ZZ=>K .ret ⟨ZZ,J++loc⟩))→(lO rest=0→((fj 63 fo) fun ZZ=>K (.exit 0) ⟨ZZ,J⟩)) →
  fp J.length prog II K (rest.length+1) ⟨(uu 8 (.sl 5 (l.map Pn.ah7)::.i .i64 l.length::.i .i64 pre.length::uu 52 [])),J⟩:=by
 intro rest
 induction rest with
 | nil =>
  intro pre he hx h1;have he:l=pre:=by simpa using he
  subst he;refine aB fun R hR=>?_;simp only[II,VV,seval];exact⟨fun h=>by simp at h,fun _=>h1 rfl ..⟩
 | cons p rest ih =>
  intro pre he hx h1;subst he;have hlen':pre.length+1+rest.length<2^40:=by simp at hlen;omega
  have hw:IntKind.i64.wrap ((pre.length:Int)+1)=(((pre++[p]).length:Nat):Int):=by
   rw[bd (by omega)];simp
  refine aB fun R hR=>?_;simp only[II,Pn.ah7,VV,seval];refine⟨fun _=>⟨by simp;omega,?_⟩,fun h=>by simp at h;omega⟩;refine⟨fun h2=>?_,fun h2=>?_⟩
  ·have he:nL p=1:=by
    simp only[da,aY]at h2;unfold nL;rw[bf (by omega)]
   have hp:lO (p::rest)=1:=by simp[lO,he]
   rw[hp]at hx;exact hx (by decide) _ ..
  ·have hn1:¬ (p.ail<0∨3<p.ail∨p.dR<0∨1073741824<p.dR∨p.points<0∨100<p.points):=by
    simp only[ll,b7]at h2;omega
   refine cu (by simp only[VV,seval]<;>rfl) (fun _=>jq p.cJ _) rfl ?_;simp only[VV,seval];refine cu (by simp only[VV,seval]<;>rfl) (fun _=>jq p.b8 _) rfl ?_;simp only[hw,VV,seval]
   have hb:((!p.cJ==[]&&!ain p.cJ)||(!p.b8==[]&&!ain p.b8))=!(named p.cJ&&named p.b8):=by
    simp only[named];cases p.cJ==[]<;>cases ain p.cJ<;>cases p.b8==[]<;>cases ain p.b8<;>rfl
   rw[hb];refine⟨fun h3=>?_,fun h3=>?_⟩
   ·have hp:lO (p::rest)=4:=by
     have:nL p=4:=by
      unfold nL;rw[aI hn1,bf (by cases hq:named p.cJ&&named p.b8<;>simp[hq]at h3 ⊢)]
     simp[lO,this]
    rw[hp]at hx;exact hx (by decide) _ ..
   ·have hp:lO (p::rest)=lO rest:=by
     have:nL p=0:=by
      unfold nL;rw[aI hn1,aI (by cases hq:named p.cJ&&named p.b8<;>simp[hq]at h3 ⊢)]
     simp[lO,this]
    rw[hp]at hx h1;exact hR _ (og [_] bj (by repeat' constructor) (by simp[LW]) (ih (pre++[p]) (by simp) hx h1))
theorem AF(l:List Pn)(hlen:l.length<2^40)(J:ae):PC prog 57 [.sl 5 (l.map Pn.ah7)] J (fun r J'=>r=.i .i64 (qj l)∧J'=J):=by
 refine PC.intro func57 c57 fun bj dx=>ax ?_;simp only[p57,SS,seval];simp only[ag,VV,seval];refine⟨fun h=>?_,fun h=>?_⟩
 ·exact aU (.inr rfl) rfl ⟨by simp only[aY]at h;simp[qj,h,one],rfl⟩
 ·have hh:¬ ((16:Int)<l.length):=by simpa using h
  refine b6.aZ (fr':=(uu 8 (.sl 5 (l.map Pn.ah7)::.i .i64 l.length::.i .i64 ([]:List Pn).length::uu 52 []))) (by repeat' constructor) (l.length+1) (Um bj l hlen l [] rfl (fun gv loc=>?_) (fun h0=>?_))
  ·simp only[JE];intros;simp only[VV,seval];exact jz bj (by simp only[RS,seval,qj,hh,aK]) (by simp only[LW])
  ·simp only[JE];intros;simp only[VV,seval];exact aU (.inr rfl) (by simp only[RS,seval];rfl) ⟨by simp only[qj,hh,aK,h0,one],rfl⟩
theorem Ex(q:Qr)(h1:q.bQ.length<2^39)(h2:q.next.length<2^39)(J:ae):PC prog 15 [.agg q.ah7] J (fun r J'=>r=.i .i64 (ef q)∧J'=J):=by
 refine PC.intro func15 c15 fun bj dx=>ax ?_;simp only[p15,SS,seval];simp only[Qr.ah7,VV,seval];refine az (jO q.aia _) rfl ?_;simp only[VV,seval];refine⟨fun h=>?_,fun h=>?_⟩
 ·have h0:bX q.aia≠0:=by simpa using h
  exact bF bj (.inr rfl) (by simp only[RS,seval];rfl) (by simp only[LW]) ⟨by simp[ef,h0,one],rfl⟩
 have h0:bX q.aia=0:=by simpa using h
 refine⟨fun h=>?_,fun h=>?_⟩
 ·have h3:q.aia=[]:=by simpa using h
  exact bF bj (.inr rfl) (by simp only[RS,seval];rfl) (by simp only[LW]) ⟨by rw[h3]at h0;simp[ef,h0,h3,one],rfl⟩
 have h3:¬ q.aia.length=0:=by simpa using h
 refine az (jo q.bQ h1 _) rfl ?_;simp only[VV,seval];refine⟨fun h=>?_,fun h=>?_⟩
 ·have h4:(parse q.bQ).2.2≠0:=by simpa using h
  exact bF bj (.inr rfl) (by simp only[RS,seval];rfl) (by simp only[LW]) ⟨by simp only[ef,h0,h3,h4,one,gm,jw,eQ,aL,aK],rfl⟩
 have h4:(parse q.bQ).2.2=0:=by simpa using h
 refine az (jo q.next h2 _) rfl ?_;simp only[VV,seval];refine⟨fun h=>?_,fun h=>?_⟩
 ·have h5:(parse q.next).2.2≠0:=by simpa using h
  exact bF bj (.inr rfl) (by simp only[RS,seval];rfl) (by simp only[LW]) ⟨by simp only[ef,h0,h3,h4,h5,one,gm,jw,eQ,aL,aK],rfl⟩
 have h5:(parse q.next).2.2=0:=by simpa using h
 refine⟨fun h=>?_,fun h=>?_⟩
 ·have h6:q.now<0∨1073741824<q.now∨q.threshold<1∨102<q.threshold∨q.nO<1∨100<q.nO:=by
   simp only[da,aY]at h;omega
  exact bF bj (.inr rfl) (by simp only[RS,seval];rfl) (by simp only[LW]) ⟨by simp only[ef,h0,h3,h4,h5,h6,one,gm,jw,eQ,aL,aK],rfl⟩
 ·have h6:¬ (q.now<0∨1073741824<q.now∨q.threshold<1∨102<q.threshold∨q.nO<1∨100<q.nO):=by
   simp only[ll,b7]at h;omega
  exact bF bj (.inr rfl) (by simp only[RS,seval];rfl) (by simp only[LW]) ⟨by simp only[ef,h0,h3,h4,h5,h6,one,gm,jw,eQ,aL,aK],rfl⟩
structure L4 (e:En) (l:List Pn) (q:Qr):Prop where
 now : -9223372036854775808≤q.now∧q.now≤9223372036854775807
 aif : -9223372036854775808≤e.aif∧e.aif≤9223372036854775807
 len:l.length<2^40
 dR:∀ p∈l,-9223372036854775808≤p.dR∧p.dR≤9223372036854775807
theorem zF(e:En)(a b:List It)(l:List Pn)(q:Qr)(ha:a.length<2^27)(hb:b.length<2^27)(h:L4 e l q)(J:ae):
  PC prog 50 [.agg e.ah7,.sl 3 (a.map It.ah7),.sl 3 (b.map It.ah7),.sl 5 (l.map Pn.ah7),.agg q.ah7] J (fun r J'=>r=.agg (gN e a b l q).ah7∧J'=J):=by
 refine PC.intro func50 c50 fun bj dx=>ax ?_;simp only[p50,SS,seval];simp only[Qr.ah7,En.ah7,VV,seval];intro X;refine az (GZ a b ha hb _) rfl ?_;simp only[VV,seval];intro Y;refine az (Kx l e q.now h.now h.aif h.len h.dR _) rfl ?_;have hp:=qk a b (zA a b ha hb).1;have hs:=oZ e q.now l 0 (by omega);have hs:0≤gC l e q.now∧gC l e q.now≤100:=hs;have hc:=wJ e q;simp only[VV,seval];refine⟨fun HD=>?_,fun HD=>?_⟩
 ·have h1:cL a b=100:=by simpa using HD
  refine az (HW e q _) (by simp only[En.ah7,Qr.ah7,VV,seval]) ?_;have w1:IntKind.i64.wrap (cL a b+fV e q)=cL a b+fV e q:=IntWalk.i64_in _ (by omega);have w2:IntKind.i64.wrap (cL a b+fV e q - gC l e q.now)=cL a b+fV e q - gC l e q.now:=IntWalk.i64_in _ (by omega);simp only[w1,w2,VV,seval];exact bF bj (.inr rfl) (by simp only[RS,seval];rfl) (by simp only[LW]) ⟨by simp only[gN,Mt.ah7,h1,one,mx,aL],rfl⟩
 ·have h1:¬ cL a b=100:=by simpa using HD
  have w1:IntKind.i64.wrap (cL a b+0)=cL a b+0:=IntWalk.i64_in _ (by omega);have w2:IntKind.i64.wrap (cL a b+0 - gC l e q.now)=cL a b+0 - gC l e q.now:=IntWalk.i64_in _ (by omega);simp only[w1,w2,VV,seval];exact bF bj (.inr rfl) (by simp only[RS,seval];rfl) (by simp only[LW]) ⟨by simp only[gN,Mt.ah7,h1,one,mx,aK],rfl⟩
theorem Ei(e:En)(l:List Pn)(q:Qr)(h:L4 e l q)(h1:e.aia.length<2^38)(h2:aH e.aia<2^38)(h3:q.aia.length<2^38)(h4:aH q.aia<2^38)(ha:(cR e.aia).length<2^27)(hb:(cR q.aia).length<2^27)(J:ae):
  PC prog 20 [.agg e.ah7,.sl 5 (l.map Pn.ah7),.agg q.ah7] J (fun r J'=>r=.agg (sr e l q).ah7∧J'=J):=by
 refine PC.intro func20 c20 fun bj dx=>ax ?_;simp only[p20,SS,seval];simp only[Qr.ah7,En.ah7,VV,seval];refine az (qV e.aia h1 h2 _) rfl ?_;simp only[VV,seval];refine az (qV q.aia h3 h4 _) rfl ?_;simp only[VV,seval];refine az (zF e _ _ l q ha hb h _) rfl ?_;simp only[Mt.ah7,VV,seval];exact jz bj (by simp only[RS,seval];rfl) (by simp only[LW])
theorem GY(a b:List It)(ha:a.length<2^27)(hb:b.length<2^27)(J:ae):PC prog 110 [.sl 3 (a.map It.ah7),.sl 3 (b.map It.ah7)] J (fun r J'=>r=.i .i64 (fE a b)∧J'=J):=by
 refine PC.intro func110 AU fun bj dx=>ax ?_;simp only[X7,SS,seval];simp only[VV,seval];refine az (vW a (by omega) _) rfl ?_;simp only[VV,seval];refine az (vW b (by omega) _) rfl ?_;simp only[VV,seval];exact aU (.inr rfl) rfl ⟨rfl,rfl⟩
theorem JX{t z:Int}(ht:0<t):(-(100*max z (-z))≤(100*z).tdiv t∧(100*z).tdiv t≤100*max z (-z))∧(if 0<(100*z).tdiv t then(100*z).tdiv t else 0)=(100*mx z 0).tdiv t:=by
 by_cases hz:z<0
 ·have hy:(100*z) = -(100 * -z):=by omega
  have h1:(100*z).tdiv t = -((100 * -z) / t):=by
   rw[hy,Int.neg_tdiv,dN (by omega)]
  have h2:0≤(100 * -z) / t:=qR (by omega) (by omega);have h3:(100 * -z) / t≤100 * -z:=xr _ (by omega);have hm:mx z 0=0:=by unfold mx;rw[bf hz]
  rw[hm,h1];refine⟨by omega,?_⟩;rw[aI (by omega)];simp
 ·have hm:mx z 0=z:=by unfold mx;rw[aI hz]
  have h1:(100*z).tdiv t=(100*z) / t:=dN (by omega);have h2:0≤(100*z) / t:=qR (by omega) (by omega);have h3:(100*z) / t≤100*z:=xr _ (by omega);rw[hm,h1];refine⟨by omega,?_⟩;split<;>omega
theorem AA(a b:List It)(ha:a.length<2^27)(hb:b.length<2^27)(J:ae):PC prog 52 [.sl 3 (a.map It.ah7),.sl 3 (b.map It.ah7)] J (fun r J'=>r=.i .i64 (cL a b)∧J'=J):=by
 refine PC.intro func52 c52 fun bj dx=>ax ?_;simp only[p52,SS,seval];simp only[VV,seval];refine az (GY a b ha hb _) rfl ?_;simp only[VV,seval];have zd:=um a b;have Y8:Tj a b=gi a b:=(zz a b).symm;have hd:=FQ a b;refine⟨fun h=>?_,fun h=>?_⟩
 ·have h0:fE a b=0:=by simpa using h
  exact aU (.inr rfl) rfl ⟨by simp[cL,h0,one],rfl⟩
 ·have h0:fE a b≠0:=by simpa using h
  refine az (yp a b ha hb _) rfl ?_;rw[Y8];have e1:IntKind.i64.wrap (fE a b - gi a b)=fE a b - gi a b:=IntWalk.i64_in _ (by omega);have e2:IntKind.i64.wrap (100*(fE a b - gi a b))=100*(fE a b - gi a b):=IntWalk.i64_in _ (by omega);simp only[e1,e2,VV,seval];have hq:=JX (t:=fE a b) (z:=fE a b - gi a b) (by omega);refine⟨h0,?_⟩;rw[IntWalk.i64_in ((100*(fE a b - gi a b)).tdiv (fE a b)) (by omega),hq.2];exact aU (.inr rfl) (by simp only[RS,seval];rfl) ⟨by simp only[one,cL,h0,aK],rfl⟩
theorem AB(e:En)(q:Qr)(J:ae):PC prog 55 [.agg e.ah7,.agg q.ah7] J (fun r J'=>r=.i .i64 (fV e q)∧J'=J):=by
 refine PC.intro func55 c55 fun bj dx=>ax ?_;simp only[p55,SS,seval];simp only[En.ah7,Qr.ah7,VV,seval];have w1:IntKind.i64.wrap 1=1:=by decide
 have w2:IntKind.i64.wrap (1+1)=2:=by decide
 simp only[w1,w2]
 refine⟨fun h1=>⟨fun h2=>?_,fun h2=>?_⟩,fun h1=>⟨fun h2=>?_,fun h2=>?_⟩⟩ <;>
  exact bF bj (.inr rfl) (by simp only[RS,seval];rfl) (by simp only[LW]) ⟨by have h1:=(show BP _ _=_ from h1);have h2:=(show BP _ _=_ from h2);simp[fV,h1,h2,one],rfl⟩
theorem Kp(now aif dR:Int)(hn : -9223372036854775808≤now∧now≤9223372036854775807)(hc : -9223372036854775808≤aif∧aif≤9223372036854775807)(ho : -9223372036854775808≤dR∧dR≤9223372036854775807)(J:ae):
  PC prog 178 [.i .i64 now,.i .i64 aif,.i .i64 dR] J (fun r J'=>r=.b (decide (dR≤0)||decide (dR≤now - aif))∧J'=J):=by
 refine PC.intro func178 ac6 fun bj dx=>ax ?_;simp only[Xm,SS,seval];simp only[VV,seval];refine aU (.inr rfl) (by simp only[RS,seval];rfl) ⟨?_,rfl⟩;simp only[one,V.b.injEq]
 by_cases h:dR≤0
 ·simp[h]
 ·have w1:IntKind.i64.wrap (-9223372036854775808+dR) = -9223372036854775808+dR:=IntWalk.i64_in _ (by omega);have hd:decide (dR≤0)=false:=by simpa using h
  rw[gP];simp only[hd,w1,im,aO,aY,IntKind.wrap_i64];omega
theorem Pu(a b c d e f g:Bool):((a||b)&&(c||d)&&(e||f)&&g)=if(!a&&!b)=true then false else if((!c&&!d)||(!e&&!f))=true then false else g:=by
 cases a<;>cases b<;>cases c<;>cases d<;>cases e<;>cases f<;>cases g<;>rfl
theorem Ax(p:Pn)(e:En)(now:Int)(hn : -9223372036854775808≤now∧now≤9223372036854775807)(hc : -9223372036854775808≤e.aif∧e.aif≤9223372036854775807)(hp : -9223372036854775808≤p.dR∧p.dR≤9223372036854775807)(J:ae):
  PC prog 113 [.agg p.ah7,.agg e.ah7,.i .i64 now] J (fun r J'=>r=.b (jI p e now)∧J'=J):=by
 refine PC.intro func113 adJ fun bj dx=>ax ?_;simp only[X0,SS,seval];simp only[Pn.ah7,En.ah7,VV,seval];refine cu (by simp only[VV,seval]<;>rfl) (fun _=>Kp now e.aif p.dR hn hc hp _) rfl ?_;simp only[VV,seval];refine bF bj (.inr rfl) (by simp only[RS,seval];rfl) (by simp only[LW]) ⟨?_,rfl⟩;simp only[one,V.b.injEq];exact Pu _ _ _ _ _ _ _
theorem Un{J:ae}{K:Exit→St→Prop}(e:En)(now:Int)(bj:bG J)(hn : -9223372036854775808≤now∧now≤9223372036854775807)(hc : -9223372036854775808≤e.aif∧e.aif≤9223372036854775807)
  (l:List Pn) (hlen:l.length<2^40) (hl:∀ p∈l,-9223372036854775808≤p.dR∧p.dR≤9223372036854775807):∀ (rest pre:List Pn) (s:Int),l=pre++rest→0≤s∧s≤100 →
  ((fj 7 (fh (.i .i64 (kq e now s rest)) (fj 21 fo))) fun ZZ=>K (.exit 0) ⟨ZZ,J++[.box 37 e.ah7]⟩) →
  fp J.length prog IJ K (rest.length+1) ⟨(uu 2 (.i .i64 now::uu 1 (.ptr J.length 0::uu 2 (.i .i64 s::uu 2 (.sl 5 (l.map Pn.ah7)::.i .i64 l.length::.i .i64 pre.length::uu 16 []))))),J++[.box 37 e.ah7]⟩:=by
 intro rest
 induction rest with
 | nil =>
  intro pre s he hs h1;have he:l=pre:=by simpa using he
  subst he;refine aB fun R hR=>?_;simp only[IJ,VV,seval];exact⟨fun h=>by simp at h,fun _=>h1 ..⟩
 | cons p rest ih =>
  intro pre s he hs h1;subst he;have hlen':pre.length+1+rest.length<2^40:=by simp at hlen;omega
  have hw:IntKind.i64.wrap ((pre.length:Int)+1)=(((pre++[p]).length:Nat):Int):=by
   rw[bd (by omega)];simp
  have fM:bG (J++[.box 37 e.ah7]):=cj bj (by simp[En.ah7,LW]);refine aB fun R hR=>?_;simp only[IJ,Pn.ah7,En.ah7,VV,seval];refine⟨fun _=>⟨by simp;omega,?_⟩,fun h=>by simp at h;omega⟩;refine az (Ax p e now hn hc (hl p (by simp)) _) (by simp only[Pn.ah7,En.ah7,VV,seval]) ?_;simp only[hw,VV,seval];have nW:0≤(if(if 0<p.points then p.points else 0)<100 then(if 0<p.points then p.points else 0)else 100)∧(if(if 0<p.points then p.points else 0)<100 then(if 0<p.points then p.points else 0)else 100)≤100:=by(repeat' split)<;>omega
  refine⟨fun h2=>?_,fun h2=>?_⟩
  ·have e1:IntKind.i64.wrap (s+if(if 0<p.points then p.points else 0)<100 then(if 0<p.points then p.points else 0)else 100)=s+if(if 0<p.points then p.points else 0)<100 then(if 0<p.points then p.points else 0)else 100:=IntWalk.i64_in _ (by omega)
   have e2:(if(s+if(if 0<p.points then p.points else 0)<100 then(if 0<p.points then p.points else 0)else 100)<100 then(s+if(if 0<p.points then p.points else 0)<100 then(if 0<p.points then p.points else 0)else 100)else 100) =
     if(decide (0<p.points)&&jI p e now)=true then mn (s+mn p.points 100) 100 else s:=by
    rw[h2,fH]
    by_cases hp:0<p.points
    ·simp only[hp,aL,PS,mn];(repeat' split)<;>omega
    ·simp only[hp,aK,rM,aF];(repeat' split)<;>omega
   have Jh:0≤(if(decide (0<p.points)&&jI p e now)=true then mn (s+mn p.points 100) 100 else s)∧(if(decide (0<p.points)&&jI p e now)=true then mn (s+mn p.points 100) 100 else s)≤100:=by
    rw[← e2];(repeat' split)<;>omega
   rw[e1,e2];exact hR _ (b5 [_] [_] fM (by repeat' constructor) (by simp[LW]) (ih (pre++[p]) _ (by simp) Jh (by simpa only[kq]using h1)))
  ·have e2:(if(decide (0<p.points)&&jI p e now)=true then mn (s+mn p.points 100) 100 else s)=s:=by rw[h2,iG];simp
   exact hR _ (b5 [_] [_] fM (by repeat' constructor) (by simp[LW]) (ih (pre++[p]) s (by simp) hs (by simpa only[kq,e2]using h1)))
theorem Cj(l:List Pn)(e:En)(now:Int)(hn : -9223372036854775808≤now∧now≤9223372036854775807)(hc : -9223372036854775808≤e.aif∧e.aif≤9223372036854775807)
  (hlen:l.length<2^40) (hl:∀ p∈l,-9223372036854775808≤p.dR∧p.dR≤9223372036854775807) (J:ae):PC prog 54 [.sl 5 (l.map Pn.ah7),.agg e.ah7,.i .i64 now] J (fun r J'=>r=.i .i64 (gC l e now)∧J'=J):=by
 refine PC.intro func54 c54 fun bj dx=>ax ?_;simp only[p54,SS,seval];simp only[En.ah7,ag,VV,seval];refine b6.aZ (fr':=(uu 2 (.i .i64 now::uu 1 (.ptr J.length 0::uu 2 (.i .i64 0::uu 2 (.sl 5 (l.map Pn.ah7)::.i .i64 l.length::.i .i64 ([]:List Pn).length::uu 16 [])))))) (by repeat' constructor) (l.length+1) (Un e now bj hn hc l hlen hl l [] 0 rfl (by omega) ?_);simp only[JE];intros;simp only[VV,seval];exact jz bj (by simp only[RS,seval];rfl) (by simp only[LW])
theorem Et(e:En)(l:List Pn)(q:Qr)(h:L4 e l q)(h1:e.aia.length<2^38)(h2:aH e.aia<2^38)(h3:q.aia.length<2^38)(h4:aH q.aia<2^38)(ha:(cR e.aia).length<2^27)(hb:(cR q.aia).length<2^27)(J:ae):
  PC prog 21 [.agg e.ah7,.sl 5 (l.map Pn.ah7),.agg q.ah7] J (fun r J'=>r=.agg (sr e l q).ah7∧J'=J):=by
 refine PC.intro func21 c21 fun bj dx=>ax ?_;simp only[p21,SS,seval];simp only[Qr.ah7,En.ah7,VV,seval];intro X1;refine az (tx e.aia h1 h2 _) rfl ?_;simp only[VV,seval];intro X2;refine az (tx q.aia h3 h4 _) rfl ?_;simp only[VV,seval];intro X3;refine az (AA _ _ ha hb _) rfl ?_;simp only[VV,seval];intro X4;refine az (Cj l e q.now h.now h.aif h.len h.dR _) (by simp only[En.ah7,VV,seval]) ?_;have hp:=qk (cR e.aia) (cR q.aia) (zA _ _ ha hb).1;have hs:0≤gC l e q.now∧gC l e q.now≤100:=oZ e q.now l 0 (by omega);have hc:=wJ e q;have Ll:∀ x:Int,(if 0<x then x else 0)=mx x 0:=fun x=>by unfold mx;(repeat' split)<;>omega
 simp only[VV,seval];refine⟨fun HD=>?_,fun HD=>?_⟩
 ·have h1:cL (cR e.aia) (cR q.aia)=100:=by simpa using HD
  refine az (AB e q _) (by simp only[En.ah7,Qr.ah7,VV,seval]) ?_;have w1:IntKind.i64.wrap (cL (cR e.aia) (cR q.aia)+fV e q)=cL (cR e.aia) (cR q.aia)+fV e q:=IntWalk.i64_in _ (by omega);have w2:IntKind.i64.wrap (cL (cR e.aia) (cR q.aia)+fV e q - gC l e q.now)=cL (cR e.aia) (cR q.aia)+fV e q - gC l e q.now:=IntWalk.i64_in _ (by omega);simp only[w1,w2,Ll,VV,seval];exact bF bj (.inr rfl) (by simp only[RS,seval];rfl) (by simp only[LW]) ⟨by simp only[sr,gN,Mt.ah7,h1,one,aL],rfl⟩
 ·have h1:¬ cL (cR e.aia) (cR q.aia)=100:=by simpa using HD
  have w1:IntKind.i64.wrap (cL (cR e.aia) (cR q.aia)+0)=cL (cR e.aia) (cR q.aia)+0:=IntWalk.i64_in _ (by omega);have w2:IntKind.i64.wrap (cL (cR e.aia) (cR q.aia)+0 - gC l e q.now)=cL (cR e.aia) (cR q.aia)+0 - gC l e q.now:=IntWalk.i64_in _ (by omega);simp only[w1,w2,Ll,VV,seval];exact bF bj (.inr rfl) (by simp only[RS,seval];rfl) (by simp only[LW]) ⟨by simp only[sr,gN,Mt.ah7,h1,one,aK],rfl⟩
theorem BB(a:List UInt8)(J:ae):PC prog 200 [.s a] J (fun r J'=>r=.b false∧J'=J):=by
 refine PC.intro func200 acV fun bj dx=>ax ?_;simp only[Xb,SS,seval];simp only[VV,seval];exact aU (.inr rfl) rfl ⟨by simp[one],rfl⟩
theorem Dt(a b:List UInt8)(J:ae):PC prog 133 [.s a,.s b] J (fun r J'=>r=.i .i64 (fW a b)∧J'=J):=by
 refine PC.intro func133 adx fun bj dx=>ax ?_;simp only[XM,SS,seval];simp only[VV,seval];refine az (BB a _) rfl ?_;simp only[VV,seval];refine az (BB b _) rfl ?_;simp only[VV,seval];have hv:=JA a b;rw[qL];refine⟨fun h=>?_,fun h=>⟨fun h2=>?_,fun h2=>?_⟩⟩
 ·have e:fW a b = -1:=by simp only[aY]at h;omega
  exact aU (.inr rfl) rfl ⟨by rw[e];rfl,rfl⟩
 ·have e:fW a b=1:=by
   simp only[b7]at h;have h3:¬ fW a b=0:=fun h0=>by rw[oI]at h0;subst h0;simp at h2
   omega
  exact aU (.inr rfl) rfl ⟨by rw[e];rfl,rfl⟩
 ·have e:fW a b=0:=by
   rw[h,im]at h2;rw[oI];simpa using h2
  exact aU (.inr rfl) rfl ⟨by rw[e];rfl,rfl⟩
theorem QB{J:ae}{K:Exit→St→Prop}(l:List It)(bj:bG J)(hlen:l.length<2^40):∀ (rest pre:List It) (g:Nat),l=pre++rest →
  (∀ g,((fj 3 (fh (.own J.length g) (fj 18 fo))) fun ZZ=>K (.exit 0) ⟨ZZ,J++[.row 9 1 16 g false ((aP l).map Ap)]⟩)) →
  fp J.length prog CC K (rest.length+1) ⟨(uu 3 (.own J.length g::uu 2 (.sl 3 (l.map It.ah7)::.i .i64 l.length::.i .i64 pre.length::uu 13 []))),J++[.row 9 1 16 g false ((aP pre).map Ap)]⟩:=by
 intro rest
 induction rest with
 | nil =>
  intro pre g he h1;have he:l=pre:=by simpa using he
  subst he;refine aB fun R hR=>?_;simp only[CC,VV,seval];exact⟨fun h=>by simp at h,fun _=>h1 g ..⟩
 | cons x rest ih =>
  intro pre g he h1;subst he;have hlen':pre.length+1+rest.length<2^40:=by simp at hlen;omega
  have hw:IntKind.i64.wrap ((pre.length:Int)+1)=(((pre++[x]).length:Nat):Int):=by
   rw[bd (by omega)];simp
  have fM:∀ g o,bG (J++[.row 9 1 16 g false o]):=fun g o=>cj bj (by simp);have VZ:(aP pre).length≤pre.length:=by unfold aP;rw[ag];exact eU _ _
  refine aB fun R hR=>?_;simp only[CC,It.ah7,VV,seval];refine⟨fun _=>⟨by simp;omega,?_⟩,fun h=>by simp at h;omega⟩;refine⟨fun h=>?_,fun h=>?_⟩
  ·refine az (qW x _) rfl ?_;simp only[hw,VV,seval];have e:(aP pre).map Ap++[[.s (dB x)]]=(aP (pre++[x])).map Ap:=by simp[aP,jW,h,Ap]
   rw[e];refine⟨by simp only[ag,maxLen];omega,hR _ (b5 [_] [_] (fM _ _) (by repeat' constructor) (by simp[LW]) (ih (pre++[x]) (g+1) (by simp) h1))⟩
  ·have e:aP (pre++[x])=aP pre:=by simp[aP,jW,h]
   simp only[hw];have k:=ih (pre++[x]) g (by simp) h1;rw[e]at k;exact hR _ (b5 [_] [_] (fM _ _) (by repeat' constructor) (by simp[LW]) k)
theorem TH:Ti prog 9 1 16:=lN (by kernel_rfl)
theorem Mz(l:List It)(hlen:l.length<2^38)(J:ae):PC prog 180 [.sl 3 (l.map It.ah7)] J (fun r J'=>r=.sl 1 ((aP l).map Ap)∧J'=J):=by
 refine PC.closed fun bj=>PC.fz bj (g:=0) (E:=9) (by':=16) (sh:=false) ?_;refine PC.intro func180 ac4 fun bj dx=>ax ?_;simp only[Xk,SS,seval];simp only[ag,VV,seval];refine b6.wk ((Wk.iy (J:=J) (k:=3) TH rfl).trans (Wk.gA ?_)) (b6.vP (l.length+1) (QB l bj (by omega) l [] 0 rfl ?_))
 ·simp only[VV,seval]
  repeat' constructor
 ·intro g;simp only[JE];intros;simp only[VV,seval];exact oX 0 bj (.inr rfl) rfl rfl rfl (by simp[wY,Ob.gen]) (by simp[one,Nr,Ob.fresh])
end Go.Proofs.Tryz
set_option maxRecDepth 4000
set_option maxHeartbeats 1000000
namespace Go.Proofs.Tryz
open Go Go.Pm Go.Bt
theorem Te(n:Nat)(hn:n<2^60):IntKind.i64.wrap ((IntKind.u64.wrap (n:Int)).fdiv (2^min 1 IntKind.u64.bits))=((n / 2:Nat):Int):=by
 have h1:IntKind.u64.wrap (n:Int)=n:=by
  simp only[IntKind.wrap,IntKind.bits,IntKind.signed];simp only[eY,aF,aK];omega
 have h2:(2:Int)^min 1 IntKind.u64.bits=2:=by decide
 rw[h1,h2,VS _ (by decide)];rw[show(n:Int) / 2=((n / 2:Nat):Int)by omega,xP (by omega)]
def jm(g:Nat)(M:List kn):Ob:=.row 108 11 176 g false (M.map kn.ah7)
theorem FJ(s:kn)(k:List UInt8)(J:ae):PC prog 132 [.agg s.ah7,.s k] J (fun r J'=>r=.i .i64 (fW s.key k)∧J'=J):=by
 refine PC.intro func132 ady fun bj dx=>ax ?_;simp only[XN,SS,seval];simp only[kn.ah7,VV,seval];refine az (Dt s.key k _) rfl ?_;simp only[VV,seval];exact bF bj (.inr rfl) rfl (by simp[LW]) ⟨rfl,rfl⟩
theorem QJ{J:ae}{K:Exit→St→Prop}(l:List kn)(hs:zZ l)(p:List UInt8)(c g:Nat)(hl:l.length<2^30)(hq:J[c]?=some (jm g l)):∀ (N i j:Nat),j - i≤N→i≤lY l p→lY l p≤j→j≤l.length →
  ((fh (.own c g) (fh (.s p) (fh (.fn 132 []) (fj 5 (fh (.i .i64 l.length) (fh (.i .i64 (lY l p)) (fj 39 fo))))))) fun ZZ=>K (.exit 0) ⟨ZZ,J⟩) →
  fp J.length prog yD K (N+1) ⟨(.own c g::.s p::.fn 132 []::uu 5 (.i .i64 l.length::.i .i64 i::.i .i64 j::uu 38 [])),J⟩:=by
 intro N
 induction N with
 | zero =>
  intro i j h1 h2 h3 h4 h5;obtain rfl:i=lY l p:=by omega
  have hd:decide ((lY l p:Int)<(j:Int))=false:=by simp;omega
  refine aB fun R hR=>?_;simp only[yD,hd,VV,seval];exact h5 ..
 | succ N ih =>
  intro i j h1 h2 h3 h4 h5
  by_cases Hw:i<j
  ·have hd:decide ((i:Int)<(j:Int))=true:=by simp;omega
   have e1:IntKind.i64.wrap ((i:Int)+(j:Int))=((i+j:Nat):Int):=by
    rw[show(i:Int)+(j:Int)=((i+j:Nat):Int)by omega,xP (by omega)]
   have e2:=Te (i+j) (by omega);have hm:(i+j) / 2<l.length:=by omega
   have hx:l[(i+j) / 2]?=some l[(i+j) / 2]:=ak hm;generalize NW:l[(i+j) / 2]=x at hx;have eA:(l.map kn.ah7).getD ((i+j) / 2) []=x.ah7:=by simp[an,hx]
   have BD:=K9 hs p _ x hx;clear NW;generalize Fs:(i+j) / 2=m at *;have h0:(0:Int)≤(m:Int):=by omega
   have dc:(m:Int)<(l.length:Int):=by omega
   have e3:IntKind.i64.wrap ((m:Int)+1)=((m+1:Nat):Int):=by rw[bd (by omega)]
   simp only[kn.ah7]at eA;simp only[jm]at hq;refine aB fun R hR=>?_;simp only[yD,hq,hd,e1,e2,e3,eA,h0,dc,ag,VV,Int.reduceBEq,Int.reduceBNe,Nat.reduceAdd,Nat.reduceSub,Nat.reduceLeDiff,Nat.reduceEqDiff,Int.reduceToNat,reduceIte,reduceCtorEq];refine⟨by decide,?_⟩;refine FZ rfl (by kernel_rfl) (FJ x p _) (by simp only[kn.ah7,VV,seval]) ?_;simp only[e3,VV,seval];refine⟨fun h=>?_,fun h=>?_⟩
   ·have h:fW x.key p<0:=by simpa using h
    have:=BD.1 h;refine hR _ (aZ ?_ (ih (m+1) j (by omega) (by omega) h3 h4 h5))
    repeat' constructor
   ·have h:¬ fW x.key p<0:=by simp at h;omega
    have:¬ m<lY l p:=fun hc=>h (BD.2 hc);refine hR _ (aZ ?_ (ih i m (by omega) h2 (by omega) (by omega) h5))
    repeat' constructor
  ·obtain rfl:i=lY l p:=by omega
   have hd:decide ((lY l p:Int)<(j:Int))=false:=by simp;omega
   refine aB fun R hR=>?_;simp only[yD,hd,VV,seval];exact h5 ..
theorem VJ(l:List kn)(hs:zZ l)(p:List UInt8)(c g:Nat)(hl:l.length<2^30)(J:ae)(hq:J[c]?=some (jm g l)):PC prog 131 [.own c g,.s p,.fn 132 []] J (fun r J'=>r=.fi [.i .i64 (lY l p),.b (decide (p∈l.map kn.key))]∧J'=J):=by
 refine PC.intro func131 adz fun bj dx=>ax ?_;have hle:=QY l p;have rH:=fun K=>QJ (K:=K) l hs p c g hl hq l.length 0 l.length (by omega) (dT _) hle (aq _);have eA:=QZ hs p;simp only[XO,SS,seval];simp only[jm]at hq;simp only[hq,ag,VV,seval];refine b6.wk (Wk.gA ?_) (b6.vP (l.length+1) (rH _ ?_))
 ·repeat' constructor
 simp only[JE];intros;generalize lY l p=m at *;have k1:(true==true)=true:=rfl;have k4:(false==true)=false:=rfl
 by_cases hm:m<l.length
 ·have hx:l[m]?=some l[m]:=ak hm;generalize l[m]=x at hx;have cq:(l.map kn.ah7).getD m []=x.ah7:=by simp[an,hx]
  have hd:decide ((m:Int)<(l.length:Int))=true:=by simp;omega
  have h0:(0:Int)≤(m:Int):=by omega
  have dc:(m:Int)<(l.length:Int):=by omega
  simp only[kn.ah7]at cq;simp only[hq,hd,h0,dc,cq,k1,k4,PS,ag,VV,seval];refine⟨_,rfl,?_⟩;refine rB (c:=true) (by simp only[k1,VV,seval]<;>rfl) (fun _=>⟨_,_,rfl,by kernel_rfl,FJ x p _⟩) ?_;simp only[k1,k4,VV,seval];refine aU (.inr rfl) rfl ⟨?_,rfl⟩
  have e:(fW x.key p==0)=decide (p∈l.map kn.key):=by
   rw[gP,bT,oI,decide_eq_true_iff,eA,hx];simp
  rw[e];rfl
 ·have hd:decide ((m:Int)<(l.length:Int))=false:=by simp;omega
  have hp:decide (p∈l.map kn.key)=false:=Ah (by rw[eA,bl (by omega)];simp);simp only[hq,hd,hp,k1,k4,rM,ag,VV,seval];refine⟨.u,rB (c:=false) (v:=.i .i64 0) (by simp only[k4,VV,seval]<;>rfl) (fun h=>by cases h) ?_⟩;simp only[k4,VV,seval];exact aU (.inr rfl) rfl ⟨rfl,rfl⟩
end Go.Proofs.Tryz
set_option maxRecDepth 4000
set_option maxHeartbeats 1000000
namespace Go.Proofs.Tryz
open Go Go.Pm Go.Bt
theorem Qc(a:Int)(J:ae):PC prog 124 [.i .i64 a] J (fun r J'=>r=.b false∧J'=J):=by
 refine PC.intro func124 adE fun bj dx=>ax ?_;simp only[XT,SS,seval];simp only[VV,seval];exact aU (.inr rfl) rfl ⟨by simp[one],rfl⟩
theorem QR(a b:Int)(J:ae):PC prog 123 [.i .i64 a,.i .i64 b] J (fun r J'=>r=.b (decide (a<b))∧J'=J):=by
 refine PC.intro func123 na fun bj dx=>ax ?_;simp only[XU,SS,seval];simp only[VV,seval];refine az (NS a _) rfl ?_;simp only[VV,seval];refine cu (c:=false) (by simp only[VV,seval]<;>rfl) (nofun) rfl (v:=.b false) ?_;simp only[VV,seval];exact aU (.inr rfl) rfl ⟨rfl,rfl⟩
theorem Uk{J:ae}{K:Exit→St→Prop}(l:List Int)(hs:l.Pairwise fun a b=>a<b)(t:Int)(hl:l.length<2^30):∀ (N i j:Nat),j - i≤N→i≤tP l t→tP l t≤j→j≤l.length →
  ((fh (.sl 1 (l.map bR)) (fh (.i .i64 t) (fj 4 (fh (.i .i64 l.length) (fh (.i .i64 (tP l t)) (fj 46 fo)))))) fun ZZ=>K (.exit 0) ⟨ZZ,J⟩) →
  fp J.length prog EL K (N+1) ⟨(.sl 1 (l.map bR)::.i .i64 t::uu 4 (.i .i64 l.length::.i .i64 i::.i .i64 j::uu 45 [])),J⟩:=by
 intro N
 induction N with
 | zero =>
  intro i j h1 h2 h3 h4 h5;obtain rfl:i=tP l t:=by omega
  have hd:decide ((tP l t:Int)<(j:Int))=false:=by simp;omega
  refine aB fun R hR=>?_;simp only[EL,hd,VV,seval];exact h5 ..
 | succ N ih =>
  intro i j h1 h2 h3 h4 h5
  by_cases Hw:i<j
  ·have hd:decide ((i:Int)<(j:Int))=true:=by simp;omega
   have e1:IntKind.i64.wrap ((i:Int)+(j:Int))=((i+j:Nat):Int):=by
    rw[show(i:Int)+(j:Int)=((i+j:Nat):Int)by omega,xP (by omega)]
   have e2:=Te (i+j) (by omega);have hm:(i+j) / 2<l.length:=by omega
   have hx:l[(i+j) / 2]?=some l[(i+j) / 2]:=ak hm;generalize NW:l[(i+j) / 2]=x at hx;have eA:eS (l.map bR) ((i+j) / 2) 0=some (.i .i64 x):=by simp[eS,hx,bR]
   have BD:=Lg hs t _ x hx;clear NW;generalize Fs:(i+j) / 2=m at *;have h0:(0:Int)≤(m:Int):=by omega
   have dc:(m:Int)<(l.length:Int):=by omega
   have e3:IntKind.i64.wrap ((m:Int)+1)=((m+1:Nat):Int):=by rw[bd (by omega)]
   refine aB fun R hR=>?_;simp only[EL,hd,e1,e2,e3,eA,h0,dc,ag,aD,VV,Int.reduceBEq,Int.reduceBNe,Nat.reduceAdd,Nat.reduceSub,Nat.reduceLeDiff,Nat.reduceEqDiff,Int.reduceToNat,reduceIte,reduceCtorEq];refine⟨by decide,?_⟩;refine az (QR x t _) rfl ?_;simp only[e3,VV,seval];refine⟨fun h=>?_,fun h=>?_⟩
   ·have h:x<t:=by simpa using h
    have:=BD.1 h;refine hR _ (aZ ?_ (ih (m+1) j (by omega) (by omega) h3 h4 h5))
    repeat' constructor
   ·have h:¬ x<t:=by simpa using h
    have:¬ m<tP l t:=fun hc=>h (BD.2 hc);refine hR _ (aZ ?_ (ih i m (by omega) h2 (by omega) (by omega) h5))
    repeat' constructor
  ·obtain rfl:i=tP l t:=by omega
   have hd:decide ((tP l t:Int)<(j:Int))=false:=by simp;omega
   refine aB fun R hR=>?_;simp only[EL,hd,VV,seval];exact h5 ..
theorem VK(l:List Int)(hs:l.Pairwise fun a b=>a<b)(t:Int)(hl:l.length<2^30)(J:ae):PC prog 59 [.sl 1 (l.map bR),.i .i64 t] J (fun r J'=>r=.fi [.i .i64 (tP l t),.b (decide (t∈l))]∧J'=J):=by
 refine PC.intro func59 c59 fun bj dx=>ax ?_;have hle:tP l t≤l.length:=Iy _ _;have rH:=fun K=>Uk (J:=J) (K:=K) l hs t hl l.length 0 l.length (by omega) (dT _) hle (aq _);have eA:=Q8 hs t;simp only[p59,SS,seval];simp only[ag,VV,seval];refine b6.wk (Wk.gA ?_) (b6.vP (l.length+1) (rH _ ?_))
 ·repeat' constructor
 simp only[JE];intros;generalize tP l t=m at *;have k1:(true==true)=true:=rfl;have k4:(false==true)=false:=rfl
 by_cases hm:m<l.length
 ·have hx:l[m]?=some l[m]:=ak hm;generalize l[m]=x at hx;have cq:eS (l.map bR) m 0=some (.i .i64 x):=by simp[eS,hx,bR]
  have hd:decide ((m:Int)<(l.length:Int))=true:=by simp;omega
  have h0:(0:Int)≤(m:Int):=by omega
  have dc:(m:Int)<(l.length:Int):=by omega
  by_cases SU:x=t
  ·subst SU;have e:decide (x∈l)=true:=decide_eq_true (eA.2 hx);simp only[hd,h0,dc,cq,e,k1,k4,PS,xl,ag,aD,VV,seval];refine⟨_,rfl,?_⟩;simp only[e,k1,k4,xl,VV,seval];refine⟨nofun,.i .i64 0,nofun,?_⟩;refine cu (c:=false) (by simp only[k1,VV,seval]<;>rfl) (nofun) rfl (v:=.b false) ?_;simp only[k1,k4,VV,seval];refine cu (c:=false) (by simp only[k1,VV,seval]<;>rfl) (nofun) rfl (v:=.b false) ?_;simp only[k1,k4,VV,seval];exact aU (.inr rfl) rfl ⟨rfl,rfl⟩
  ·have e:decide (t∈l)=false:=Ah (by rw[eA,hx];simpa using SU);have e2:(x==t)=false:=by simpa using SU
   simp only[hd,h0,dc,cq,e,e2,k1,k4,PS,ag,aD,VV,seval];refine⟨_,rfl,?_⟩;simp only[e,e2,k1,k4,VV,seval];refine⟨⟨by omega,by rw[ag];omega⟩,.i .i64 x,⟨True,by rw[cq],trivial⟩,?_⟩;refine cu (c:=true) (by simp only[k1,VV,seval]<;>rfl) (fun _=>Qc x _) rfl ?_;simp only[k1,k4,VV,seval];refine cu (c:=false) (by simp only[k1,VV,seval]<;>rfl) (nofun) rfl (v:=.b false) ?_;simp only[k1,k4,VV,seval];exact aU (.inr rfl) rfl ⟨rfl,rfl⟩
 ·have hd:decide ((m:Int)<(l.length:Int))=false:=by simp;omega
  have hp:decide (t∈l)=false:=Ah (by rw[eA,bl (by omega)];simp);simp only[hd,hp,k1,k4,rM,ag,VV,seval];refine⟨.i .i64 0,?_⟩;simp only[k1,k4,VV,seval];refine⟨.i .i64 0,?_⟩;refine cu (c:=false) (by simp only[k1,k4,VV,seval]<;>rfl) (nofun) rfl (v:=.b false) ?_;simp only[k1,k4,VV,seval];refine cu (c:=false) (by simp only[k1,k4,VV,seval]<;>rfl) (nofun) rfl (v:=.b false) ?_;simp only[k1,k4,VV,seval];exact aU (.inr rfl) rfl ⟨rfl,rfl⟩
end Go.Proofs.Tryz

/- A part of a proof; the claim's last text says of what. -/
import Derived.Test.YtlakkaamfadipaaGreatDoorL27
set_option linter.all false

namespace Go.Proofs.Tryz
open Go Go.Pm Go.Bt
theorem KU(c:UInt8)(J:ae):PC prog 207 [.i .u8 c.toNat] J (fun r J'=>r=.fa [.i .u8 (jd c).1.toNat,.b (jd c).2]∧J'=J):=by
 refine PC.intro func207 Zs fun bz er=>aB ?_;simp only[TA,SS,seval];simp only[W,seval];refine⟨fun h=>?_,fun h=>⟨fun h2=>?_,fun h2=>?_⟩⟩<;>refine a6 (.inr rfl) rfl ?_
 ·simp at h;have:=NZ c (by omega);simp[one,this]
 ·simp at h2;have:=NY c (by omega);simp[one,this]
 ·simp at h h2;have:=Q5 c (by omega) (by omega);simp[one,this]
theorem B8(c:UInt8)(J:ae):PC prog 159 [.i .u8 c.toNat] J (fun r J'=>r=.b (sK c)∧J'=J):=by
 refine PC.intro func159 ZP fun bz er=>aB ?_;simp only[TY,SS,seval];simp only[W,seval];refine cL (by simp only[W,seval];rfl) (fun _=>kt c _) rfl ?_;simp only[W,seval];refine a6 (.inr rfl) rfl ⟨?_,rfl⟩;simp only[one,sK,bd,bf,V.b.injEq];simp only[← P7];rfl
theorem IA(s:List UInt8)(J:ae):PC prog 156 [.s s] J (fun r J'=>r=.fa [.i .u8 (dt s).1.toNat,.i .i64 (dt s).2.1,.b (dt s).2.2]∧J'=J):=by
 refine PC.intro func156 ZS fun bz er=>aB ?_;simp only[T5,SS,seval]
 by_cases h2:s.length<2
 ·have d2:decide ((s.length:Int)<2)=true:=by simp;omega
  simp only[d2,W,seval];refine a6 (.inr rfl) rfl ⟨?_,rfl⟩;simp[one,dt,h2]
 have d2:decide ((s.length:Int)<2)=false:=by simp;omega
 have bnd:(0:Int)≤1∧(1:Int)<s.length:=by omega
 by_cases c92:s.getD 1 0=92
 ·simp only[d2,GY (k:=92) c92 rfl,W,seval,-Int.reduceLE]
  repeat refine And.intro bnd ?_
  refine a6 (.inr rfl) rfl ⟨?_,rfl⟩;have e:dt s=(s.getD 1 0,2,true):=by simp[dt,h2,← List.getD_eq_getElem?_getD,c92]
  rw[e];rfl
 by_cases c60:s.getD 1 0=60
 ·simp only[d2,mQ (k:=92) c92 rfl,GY (k:=60) c60 rfl,W,seval,-Int.reduceLE]
  repeat refine And.intro bnd ?_
  refine a6 (.inr rfl) rfl ⟨?_,rfl⟩;have e:dt s=(s.getD 1 0,2,true):=by simp[dt,h2,← List.getD_eq_getElem?_getD,c92,c60]
  rw[e];rfl
 by_cases ml:s.getD 1 0=123
 ·simp only[d2,mQ (k:=92) c92 rfl,mQ (k:=60) c60 rfl,GY (k:=123) ml rfl,W,seval,-Int.reduceLE]
  repeat refine And.intro bnd ?_
  refine a6 (.inr rfl) rfl ⟨?_,rfl⟩;have e:dt s=(s.getD 1 0,2,true):=by simp[dt,h2,← List.getD_eq_getElem?_getD,c92,c60,ml]
  rw[e];rfl
 by_cases c110:s.getD 1 0=110
 ·simp only[d2,mQ (k:=92) c92 rfl,mQ (k:=60) c60 rfl,mQ (k:=123) ml rfl,GY (k:=110) c110 rfl,W,seval,-Int.reduceLE]
  repeat refine And.intro bnd ?_
  refine a6 (.inr rfl) rfl ⟨?_,rfl⟩;have e:dt s=(10,2,true):=by simp[dt,h2,← List.getD_eq_getElem?_getD,c92,c60,ml,c110]
  rw[e];rfl
 by_cases c116:s.getD 1 0=116
 ·simp only[d2,mQ (k:=92) c92 rfl,mQ (k:=60) c60 rfl,mQ (k:=123) ml rfl,mQ (k:=110) c110 rfl,GY (k:=116) c116 rfl,W,seval,-Int.reduceLE]
  repeat refine And.intro bnd ?_
  refine a6 (.inr rfl) rfl ⟨?_,rfl⟩;have e:dt s=(9,2,true):=by simp[dt,h2,← List.getD_eq_getElem?_getD,c92,c60,ml,c110,c116]
  rw[e];rfl
 have all:∀ {c:UInt8},s.getD 1 0=c→c=120→dt s=if s.length<4 then(0,0,false)else(pF (s.getD 2 0) (s.getD 3 0),4,(jd (s.getD 2 0)).2&&(jd (s.getD 3 0)).2&&(pF (s.getD 2 0) (s.getD 3 0)==13||eE (pF (s.getD 2 0) (s.getD 3 0))==1)):=by
  rintro c h rfl;simp only[dt,h2,h,aO];rfl
 by_cases Fb:s.getD 1 0=120
 ·have e:=all Fb rfl
  by_cases h4:s.length<4
  ·have d4:decide ((s.length:Int)<4)=true:=by simp;omega
   simp only[d2,d4,mQ (k:=92) c92 rfl,mQ (k:=60) c60 rfl,mQ (k:=123) ml rfl,mQ (k:=110) c110 rfl,mQ (k:=116) c116 rfl,GY (k:=120) Fb rfl,W,seval,-Int.reduceLE]
   repeat refine And.intro bnd ?_
   refine a6 (.inr rfl) rfl ⟨?_,rfl⟩;rw[e,aQ h4];rfl
  have d4:decide ((s.length:Int)<4)=false:=by simp;omega
  rw[aC h4]at e;simp only[d2,d4,mQ (k:=92) c92 rfl,mQ (k:=60) c60 rfl,mQ (k:=123) ml rfl,mQ (k:=110) c110 rfl,mQ (k:=116) c116 rfl,GY (k:=120) Fb rfl,W,seval,-Int.reduceLE]
  repeat refine And.intro bnd ?_
  refine⟨by omega,?_⟩;refine aA (KU (s.getD 2 0) _) rfl ?_;simp only[Int.reduceToNat,W,seval];refine⟨by omega,?_⟩;refine aA (KU (s.getD 3 0) _) rfl ?_;simp only[EJ,W,seval,-Int.reduceLE];refine⟨by omega,?_⟩;refine cL (by simp only[W,seval];rfl) (fun _=>kt (pF (s.getD 2 0) (s.getD 3 0)) _) rfl ?_;simp only[W,seval];refine a6 (.inr rfl) rfl ⟨?_,rfl⟩;rw[e];simp only[one,bd,bf];rw[← zJ];rfl
 ·simp only[d2,mQ (k:=92) c92 rfl,mQ (k:=60) c60 rfl,mQ (k:=123) ml rfl,mQ (k:=110) c110 rfl,mQ (k:=116) c116 rfl,mQ (k:=120) Fb rfl,W,seval,-Int.reduceLE]
  repeat refine And.intro bnd ?_
  refine a6 (.inr rfl) rfl ⟨?_,rfl⟩;have e:dt s=(0,0,false):=by simp[dt,h2,← List.getD_eq_getElem?_getD,c92,c60,ml,c110,c116,Fb]
  rw[e];rfl
theorem Nf{J:ae}{K:Exit→St→Prop}(s:List UInt8)(hlen:s.length<4):∀ (rest pre:List UInt8) (n:Int),s=pre++rest→0≤n→n<10^pre.length →
  (rest.all ln=true→((fj 4 (fh (.i .i64 (kO n rest)) (fj 41 fo))) fun ZZ=>K (.exit 0) ⟨ZZ,J⟩)) →
  (rest.all ln=false→((fj 2 (fh (.i .i64 0) (fh (.b false) (fj 42 fo)))) fun ZZ=>K .ret ⟨ZZ,J⟩)) →
  gw J.length prog Ac K (rest.length+1) ⟨(.s s::uu 3 (.i .i64 n::.i .i64 pre.length::uu 40 [])),J⟩:=by
 intro rest
 induction rest with
 | nil =>
  intro pre n he hn CS h1 h2;have he:s=pre:=by simpa using he
  subst he;refine aH fun R hR=>?_;simp only[Ac,W,seval];exact⟨fun h=>by simp at h,fun _=>h1 rfl ..⟩
 | cons c rest ih =>
  intro pre n he hn CS h1 h2;subst he;refine aH fun R hR=>?_;simp only[Ac,W,seval]
  have hd:ln c=!(decide ((c.toNat:Int)<48)||decide (57<(c.toNat:Int))):=by
   rw[ir];simp[ln];omega
  refine⟨fun _=>⟨by simp;omega,fun _=>by simp;omega,fun h=>?_,fun h=>⟨by simp;omega,?_⟩⟩,fun h=>by simp at h<;>omega⟩
  ·rw[h]at hd;exact h2 (by simp[hd]) ..
  ·rw[h]at hd;have hd:ln c=true:=hd;have EB:pre.length<3:=by simp at hlen;omega
   have hp:(10:Int)^pre.length≤10^2:=by
    have:pre.length=0∨pre.length=1∨pre.length=2:=by omega
    rcases this with h | h | h<;>rw[h]<;>decide
   have hb:=hd;simp only[ln,aP,a8]at hb;have aa8:n<100:=Int.lt_of_lt_of_le CS (by simpa using hp)
   have e0:IntKind.i64.wrap (IntKind.i64.wrap (10*n)+IntKind.i64.wrap (IntKind.u8.wrap ((c.toNat:Int) - 48)))=10*n+(c.toNat - 48:Int):=by
    rw[Jk c hd,IntWalk.i64_in (10*n) (by omega),IntWalk.i64_in ((c.toNat:Int) - 48) (by omega),IntWalk.i64_in _ (by omega)]
   have e1:kO n (c::rest)=kO (10*n+(c.toNat - 48:Int)) rest:=rfl;have e2:(c::rest).all ln=rest.all ln:=by simp[hd]
   rw[e1,e2]at h1;rw[e2]at h2;refine hR _ (bk ?_ (ih (pre++[c]) (10*n+(c.toNat - 48:Int)) (by simp) (by omega) ?_ h1 h2))
   ·rw[e0,br (by simp at hlen;omega)];simp only[al,ai,aK]
    repeat' constructor
   ·simp only[al,ai,aK,Int.pow_succ];omega
theorem sO(s:List UInt8)(J:ae):PC prog 211 [.s s] J (fun r J'=>r=.fa [.i .i64 (aeE s).1,.b (aeE s).2]∧J'=J):=by
 refine PC.intro func211 Zp fun bz er=>aB ?_;simp only[Tx,SS,seval]
 by_cases h1:s.length<1∨3<s.length∨s.getD 0 0=48
 ·have e:aeE s=(0,false):=by simp only[aeE,h1,aR]
  have e2:((decide ((s.length:Int)<1)||decide (3<(s.length:Int)))||(((s.getD 0 0).toNat:Int)==48))=true:=by
   rcases h1 with h | h | h
   ·simp;omega
   ·simp;omega
   ·rw[GY (k:=48) h rfl];simp
  simp only[Int.reduceToNat,e2,W,seval];refine⟨fun h=>?_,a6 (.inr rfl) rfl ⟨by rw[e];rfl,rfl⟩⟩;simp at h;omega
 ·have hl:¬ s.length<1∧¬ 3<s.length∧¬ s.getD 0 0=48:=by
   refine⟨fun h=>h1 (.inl h),fun h=>h1 (.inr (.inl h)),fun h=>h1 (.inr (.inr h))⟩
  have e2:((decide ((s.length:Int)<1)||decide (3<(s.length:Int)))||(((s.getD 0 0).toNat:Int)==48))=false:=by
   rw[mQ (k:=48) hl.2.2 rfl];simp;omega
  simp only[e2,W,seval];refine⟨fun _=>by omega,?_⟩;refine cE.bk ?_ (s.length+1) (Nf s (by omega) s [] 0 rfl (bY _) (by decide) (fun ha=>?_) (fun ha=>?_))
  ·repeat' constructor
  ·simp only[JE];intros;simp only[W,seval];refine a6 (.inr rfl) rfl ⟨?_,rfl⟩;have h3:=E5 s 0 s.length rfl ha (bY _)
   have hp:(10:Int)^s.length≤10^3:=by
    have:s.length=1∨s.length=2∨s.length=3:=by omega
    rcases this with h | h | h<;>rw[h]<;>decide
   have h4:kO 0 s≤999:=by omega
   have e:aeE s=(kO 0 s,true):=by simp only[aeE,aC h1,ha,aR]
   rw[e];simp[one,h4]
  ·simp only[JE];intros;refine a6 (.inr rfl) rfl ⟨?_,rfl⟩;have e:aeE s=(0,false):=by simp only[aeE,aC h1,ha];rfl
   rw[e];rfl
theorem Qc(s:List UInt8)(J:ae):PC prog 158 [.s s] J (fun r J'=>r=.fa [.agg (jw s).1.aen,.b (jw s).2]∧J'=J):=by
 refine PC.intro func158 ZQ fun bz er=>aB ?_;have hlen:=DS (er 0 _ rfl).1;simp only[TZ,SS,seval];simp only[VV,seval];refine aA (AU s [47] _) rfl ?_;simp only[VV,seval];refine⟨fun hp=>?_,fun hp=>?_⟩
 ·have hl:1≤s.length:=by
   simp only[hasPrefix,aP,a8]at hp;simpa using hp.1
  have e0:(s.drop 1).take (s.length - 1)=s.drop 1:=by
   rw[ca];simp
  refine⟨by omega,?_⟩;refine aA (xd (s.drop 1) 58 _) (by simp only[az,dj,VV,seval];rw[e0]) ?_;simp only[VV,seval];generalize hq:cutAt (s.drop 1) 58=q;obtain⟨a,b,f⟩:=q;refine cL (c:=false) (v:=.b false) (by simp only[VV,seval]<;>rfl) (nofun) rfl ?_;simp only[VV,seval];refine aA (sO a _) rfl ?_;simp only[VV,seval];cases f with
  | false =>
   have e:jw s=(⟨0,[],0⟩,false):=by unfold jw;simp only[hp,aR,hq];simp
   simp only[VV,seval];rw[e];exact bu bz (.inr rfl) (by simp only[RS,seval];rfl) (by simp[LW]) ⟨rfl,rfl⟩
  | true =>
   simp only[VV,seval];refine⟨fun h=>?_,fun h=>?_⟩
   ·have h:(aeE a).2=false:=by simpa using h
    have e:jw s=(⟨0,[],0⟩,false):=by unfold jw;simp only[hp,aR,hq];simp[h]
    rw[e];exact bu bz (.inr rfl) (by simp only[RS,seval];rfl) (by simp[LW]) ⟨rfl,rfl⟩
   ·have h:(aeE a).2=true:=by simpa using h
    have e:jw s=(⟨3,b,(aeE a).1⟩,aeC b):=by unfold jw;simp only[hp,aR,hq];simp[h]
    rw[e];refine aA (iK b _) rfl ?_;simp only[VV,seval];exact bu bz (.inr rfl) (by simp only[RS,seval];rfl) (by simp[LW]) ⟨rfl,rfl⟩
 ·refine aA (xd s 58 _) rfl ?_;simp only[VV,seval];generalize hq:cutAt s 58=q;obtain⟨a,b,f⟩:=q;refine cL (c:=true) (by simp only[VV,seval]<;>rfl) (fun h=>AT b [47] _) rfl ?_;simp only[VV,seval]
  have tail:∀ (aep:Int) (content:List UInt8),aep≠3→jw s=(if f&&(aeE a).2 then(⟨aep,content,(aeE a).1⟩,if aep=3 then aeC content else gy content)else(⟨0,[],0⟩,false)) →
    (((f=false)∨(aeE a).2=false)→jw s=(⟨0,[],0⟩,false))∧(f=true→(aeE a).2=true→jw s=(⟨aep,content,(aeE a).1⟩,gy content)):=by
   intro aep content hk e;rw[e];refine⟨?_,?_⟩
   ·rintro(h | h)<;>rw[h]<;>simp
   ·intro h1 h2;simp[h1,h2,hk]
  refine⟨fun hs=>?_,fun hs=>?_⟩
  ·have hb:1≤b.length:=by
    simp only[hasSuffix,aP,a8]at hs;simpa using hs.1
   have YS:b.length<2^63:=by
    have:b=(cutAt s 58).2.1:=by rw[hq]
    have h2:b.length≤s.length:=by
     rw[this];simp only[cutAt];split<;>simp
    omega
   have e1:IntKind.i64.wrap ((b.length:Int) - 1)=((b.length - 1:Nat):Int):=by rw[IntWalk.i64_in _ (by omega)];omega
   have t:=tail 4 (b.take (b.length - 1)) (by decide) (by unfold jw;simp[hp,hq,hs]);simp only[e1,aX,VV,seval];refine⟨by omega,?_⟩;refine aA (sO a _) rfl ?_;simp only[VV,seval];cases f with
   | false =>
    simp only[VV,seval];rw[t.1 (.inl rfl)];exact bu bz (.inr rfl) (by simp only[RS,seval];rfl) (by simp[LW]) ⟨rfl,rfl⟩
   | true =>
    simp only[VV,seval];refine⟨fun h=>?_,fun h=>?_⟩
    ·have h:(aeE a).2=false:=by simpa using h
     rw[t.1 (.inr h)];exact bu bz (.inr rfl) (by simp only[RS,seval];rfl) (by simp[LW]) ⟨rfl,rfl⟩
    ·have h:(aeE a).2=true:=by simpa using h
     rw[t.2 rfl h];refine aA (lB _ _) rfl ?_;simp only[VV,seval];refine bu bz (.inr rfl) (by simp only[RS,seval];rfl) (by simp[LW]) ⟨rfl,rfl⟩
  ·have t:=tail 2 b (by decide) (by unfold jw;simp[hp,hq,hs]);refine aA (sO a _) rfl ?_;simp only[VV,seval];cases f with
   | false =>
    simp only[VV,seval];rw[t.1 (.inl rfl)];exact bu bz (.inr rfl) (by simp only[RS,seval];rfl) (by simp[LW]) ⟨rfl,rfl⟩
   | true =>
    simp only[VV,seval];refine⟨fun h=>?_,fun h=>?_⟩
    ·have h:(aeE a).2=false:=by simpa using h
     rw[t.1 (.inr h)];exact bu bz (.inr rfl) (by simp only[RS,seval];rfl) (by simp[LW]) ⟨rfl,rfl⟩
    ·have h:(aeE a).2=true:=by simpa using h
     rw[t.2 rfl h];refine aA (lB _ _) rfl ?_;simp only[VV,seval];refine bu bz (.inr rfl) (by simp only[RS,seval];rfl) (by simp[LW]) ⟨rfl,rfl⟩
theorem EZ(s:List UInt8)(hs:s≠[])(J:ae):PC prog 99 [.s s] J (fun r J'=>r=.fa [.agg (cm s).1.aen,.i .i64 (cm s).2.1,.b (cm s).2.2]∧J'=J):=by
 refine PC.intro func99 c99 fun bz er=>aB ?_;have hlen:=DS (er 0 _ rfl).1;have hl:0<s.length:=pO.2 hs;have bnd:(0:Int)≤0∧(0:Int)<s.length:=by omega
 simp only[p99,SS,seval]
 by_cases c92:s.getD 0 0=92
 ·have e:cm s=(⟨1,[(dt s).1],0⟩,(dt s).2.1,(dt s).2.2):=by simp only[cm,c92,aR]
  rw[e];simp only[GY (k:=92) c92 rfl,VV,seval,-Int.reduceLE];refine⟨bnd,?_⟩;refine aA (IA s _) rfl ?_;simp only[VV,seval];exact bu bz (.inr rfl) (by simp only[RS,seval];rfl) (by simp[LW]) ⟨rfl,rfl⟩
 have n92:=c92
 by_cases c60:s.getD 0 0=60
 ·simp only[mQ (k:=92) c92 rfl,GY (k:=60) c60 rfl,VV,seval,-Int.reduceLE];refine⟨bnd,bnd,?_⟩;refine aA (nM s 62 _) rfl ?_;have hb:=jK s 62;simp only[VV,seval];refine⟨fun h=>?_,fun h=>?_⟩
  ·have h:Lib.indexByte s 62<0:=by simpa using h
   have e:cm s=(AA,0,false):=by simp only[cm];rw[aC c92,aQ c60];simp only[h,aR,aO]
   rw[e];exact bu bz (.inr rfl) (by simp only[RS,seval];rfl) (by simp[LW]) ⟨rfl,rfl⟩
  ·have h:¬ Lib.indexByte s 62<0:=by simpa using h
   have h1:=qa s 62 (by rw[c60];decide) h;have e:cm s=((jw ((s.take (Lib.indexByte s 62).toNat).drop 1)).1,Lib.indexByte s 62+1,(jw ((s.take (Lib.indexByte s 62).toNat).drop 1)).2):=by simp only[cm];rw[aC c92,aQ c60];simp only[h,aR,aO]
   rw[e];refine⟨by omega,?_⟩;have e2:(s.drop 1).take ((Lib.indexByte s 62).toNat - 1)=(s.take (Lib.indexByte s 62).toNat).drop 1:=by rw[List.drop_take]
   refine aA (Qc _ _) (by simp only[az,dj,VV,seval];rw[e2]) ?_;simp only[It.aen,VV,seval];refine bu bz (.inr rfl) (by simp only[RS,seval];rfl) (by simp[LW]) ⟨?_,rfl⟩;simp only[one,bd,bf];rw[IntWalk.i64_in _ (by omega)]
 by_cases ml:s.getD 0 0=123
 ·simp only[mQ (k:=92) c92 rfl,mQ (k:=60) c60 rfl,GY (k:=123) ml rfl,VV,seval,-Int.reduceLE];refine⟨bnd,bnd,bnd,?_⟩;refine aA (nM s 125 _) rfl ?_;have hb:=jK s 125;simp only[VV,seval]
  by_cases h:Lib.indexByte s 125<0
  ·have e:cm s=(AA,0,false):=by simp only[cm];rw[aC c92,aC c60,aQ ml];simp only[h,IN,aR]
   have hd:decide (Lib.indexByte s 125<0)=true:=by simpa using h
   rw[e];simp only[hd,VV,seval];refine⟨nofun,?_⟩;refine cL (c:=false) (v:=.b false) (by simp only[VV,seval]<;>rfl) (nofun) rfl ?_;simp only[VV,seval];exact bu bz (.inr rfl) (by simp only[RS,seval];rfl) (by simp[LW]) ⟨rfl,rfl⟩
  ·have hd:decide (Lib.indexByte s 125<0)=false:=by simpa using h
   have h1:=qa s 125 (by rw[ml];decide) h;have e:cm s=if aeC ((s.take (Lib.indexByte s 125).toNat).drop 1)=false then(AA,0,false)else(⟨5,(s.take (Lib.indexByte s 125).toNat).drop 1,0⟩,Lib.indexByte s 125+1,true):=by simp only[cm];rw[aC c92,aC c60,aQ ml];simp only[h,qL]
   have e2:(s.drop 1).take ((Lib.indexByte s 125).toNat - 1)=(s.take (Lib.indexByte s 125).toNat).drop 1:=by rw[List.drop_take]
   rw[e];simp only[hd,e2,VV,seval];refine⟨by omega,?_⟩;refine cL (c:=true) (by simp only[VV,seval]<;>rfl) (fun _=>iK ((s.take (Lib.indexByte s 125).toNat).drop 1) _) rfl ?_;simp only[VV,seval];refine⟨fun h=>?_,fun h=>?_⟩
   ·have h:aeC ((s.take (Lib.indexByte s 125).toNat).drop 1)=false:=by simpa using h
    rw[aQ h];exact bu bz (.inr rfl) (by simp only[RS,seval];rfl) (by simp[LW]) ⟨rfl,rfl⟩
   ·have h:¬ aeC ((s.take (Lib.indexByte s 125).toNat).drop 1)=false:=by simpa using h
    rw[aC h];simp only[e2,VV,seval];refine⟨by omega,?_⟩;refine bu bz (.inr rfl) (by simp only[RS,seval];rfl) (by simp[LW]) ⟨?_,rfl⟩;simp only[one,bd,bf];rw[IntWalk.i64_in _ (by omega)];rfl
 ·have e:cm s=(⟨1,s.take 1,0⟩,1,sK (s.getD 0 0)):=by simp only[cm,c92,c60,ml,aO]
  rw[e];simp only[mQ (k:=92) c92 rfl,mQ (k:=60) c60 rfl,mQ (k:=123) ml rfl,VV,seval,-Int.reduceLE];refine⟨bnd,bnd,bnd,by omega,bnd,?_⟩;refine aA (B8 (s.getD 0 0) _) rfl ?_;simp only[VV,seval];exact bu bz (.inr rfl) (by simp only[RS,seval];rfl) (by simp[LW]) ⟨rfl,rfl⟩
def km(n g1 g2:Nat)(s:Rd):ae :=
 [.map 3 61 (na s.tags),.box 142 [.own (n+2) g1,.own (n+3) g2,.i .i64 s.len,.mp n],.row 61 3 32 g1 false (s.f.map It.aen),.row 5 1 1 g2 false (cN s.aer)]
def Ho(n g1 g2:Nat)(s:Rd)(o:Ob)(x:It):ae :=
 [.map 3 61 (na s.tags),.box 142 [.own (n+2) g1,.own (n+3) g2,.i .i64 s.len,.mp n],.row 61 3 32 g1 false (s.f.map It.aen),.row 5 1 1 g2 false (cN s.aer),o,.box 61 [.i .i64 x.aep,.s x.aer,.i .i64 x.id]]
theorem C3(s:Rd)(g1 g2:Nat)(hf:s.f.length<2^40)(J ext:ae):PC prog 101 [.ptr (J.length+1) 0] (J++(km J.length g1 g2 s++ext)) (fun r J'=>r=.fa []∧∃ g1' g2',J'=J++(km J.length g1' g2' (fg s)++ext)):=by
 refine PC.intro func101 aag fun bz er=>aB ?_;simp only[Uu,SS,seval];simp only[km,W,seval];simp only[dd,jP,W,seval];refine⟨fun h=>⟨?_,?_⟩,fun h=>?_⟩
 ·simp[maxLen];omega
 ·have h:0<s.aer.length:=by simpa using h
  have e:fg s=⟨s.f++[⟨1,s.aer,0⟩],[],s.len,s.tags⟩:=by simp[fg,h]
  have hr:s.f.map It.aen++[[.i .i64 1,.s s.aer,.i .i64 0]]=(s.f++[(⟨1,s.aer,0⟩:It)]).map It.aen:=by simp[It.aen]
  rw[hr];refine fO (xs:=[]) (xs':=[]) (.inl rfl) rfl (Wk.Td (id:=J.length+1) (j:=1) (idr:=J.length+3) (by simp only[W,seval];rfl) rfl (by simp only[W,seval];rfl)) rfl ⟨rfl,g1+1,g2+1,?_⟩;simp only[km,e,W,seval];rfl
 ·have h:¬ 0<s.aer.length:=by simpa using h
  have e:fg s=s:=by simp[fg,h]
  rw[e];exact fO (xs:=[]) (.inl rfl) rfl (Wk.refl _ _) rfl ⟨rfl,g1,g2,rfl⟩
set_option maxHeartbeats 2000000 in
theorem R9(s:Rd)(x:It)(g1 g2:Nat)(hf:s.f.length<2^40)(ht:s.aer.length+x.aer.length<2^40)(hl:s.len<2^40)(J:ae)(o:Ob):PC prog 100 [.ptr (J.length+1) 0,.agg x.aen] (J++(km J.length g1 g2 s++[o]))
  (fun r J'=>r=.i .i64 (iY s x).1∧∃ g1' g2',J'=J++(km J.length g1' g2' (iY s x).2++[o])):=by
 refine PC.intro func100 aah fun bz er=>?_;simp only[Uv,SS,seval];have hm:∀ t,bX (J++(.map 3 61 (na s.tags))::t) 0 (.mp J.length) (.i .i64 x.id)=c4 0 (.i .i64 x.id) (na s.tags) 0:=fun t=>by simp only[bX,jB,au]
 refine cE.cut fun R hR=>?_;simp only[km,It.aen,bq,bh,W,seval];refine hR _ ?_;clear hR R;refine cE.cut fun R hR=>?_;simp only[W,seval];refine hR _ (cE.kP (fr':=(.ptr (J.length+1) 0::uu 2 (.ptr (J.length+5) 0::.i .i64 0::.b (tagged x)::uu 117 []))) ?_ ?_)
 rotate_left
 ·simp only[tagged]
  repeat' constructor
 clear hR R;have hbo:=IE bz (id:=J.length+4) (o:=o) (n:=J.length+5) (by rw[aw (by omega),eY];rfl) (by simp[km])
 have YN:∀ (g1 g2:Nat) (s:Rd),bG (J++(km J.length g1 g2 s++[o])):=fun g1 g2 s =>
  uj bz (aq _) (by
   simp only[km,oD,ai,aK,eZ,tC,implies_true,kD,jD,bq,bh,ph];exact⟨by simp only[LW];omega,by cases o<;>exact hbo⟩)
 have YM:∀ (g1 g2:Nat) (s:Rd),bG (J++Ho J.length g1 g2 s o x):=fun g1 g2 s =>
  uj bz (by simp[km,Ho]) (by
   simp only[Ho,oD,ai,aK,eZ,tC,implies_true,kD,jD,ph];have YQ:=hbo.mono (Nat.le_succ _);exact⟨by simp only[LW];omega,by cases o<;>exact YQ,by simp only[LW]⟩)
 have fin:∀ {fr:List V} {n:Nat} (e:Int) (s':Rd) (g1' g2':Nat) {loc:ae},n≤J.length+5→iY s x=(e,s')→fr.getD 4 .u=.i .i64 e→sI prog n [.t 4] (fun r J'=>r=.i .i64 (iY s x).1∧∃ g1' g2',J'=J++(km J.length g1' g2' (iY s x).2++[o])) .ret ⟨fr,J++((km J.length g1' g2' s'++[o])++loc)⟩:=by
  intro fr n e s' g1' g2' loc hn he hf;rw[← List.append_assoc];refine fO (xs:=[.i .i64 e]) (.inr rfl) (by simp only[kS,xZ,hf]) (Wk.xc (by simpa[km]using hn) (YN _ _ _) (dN.1 (by simp[LW]))) rfl ⟨by rw[he];rfl,g1',g2',by rw[he]⟩
 refine cE.cut fun R hR=>?_
 have wF:∀ {fr:List V} {loc:ae},qJ fr (.ptr (J.length+1) 0::uu 2 (.ptr (J.length+5) 0::.i .i64 0::.b (tagged x)::uu 117 []))→¬ (tagged x&&zu s x)=true→R ⟨fr,J++(Ho J.length g1 g2 s o x++loc)⟩:=by
  intro fr loc hc zh;refine hR _ (cE.drop _ _ (by simp[km,Ho]) (YM g1 g2 s) hc (by simp[LW,Ho]) ?_);clear hR R;refine cE.cut fun R hR=>?_;simp only[Ho,W,seval];refine hR _ ?_;clear hR R;refine cE.cut fun R hR=>?_;simp only[Ho,aj,dd,VV,seval]
  have Vg:∀ {fr:List V},qJ fr (.ptr (J.length+1) 0::uu 2 (.ptr (J.length+5) 0::.i .i64 0::.b (tagged x)::uu 2 (.i .i64 ((s.f.length+(if 0<s.aer.length then 1 else 0):Nat):Int)::uu 114 [])))→R ⟨fr,J++Ho J.length g1 g2 s o x⟩:=by
   intro fr hc;refine hR _ (cE.kP ?_ hc);clear hR R;refine cE.cut fun R hR=>?_;simp only[Ho,aj,dd,VV,seval]
   have Bp:∀ {fr:List V},qJ fr (.ptr (J.length+1) 0::uu 2 (.ptr (J.length+5) 0::.i .i64 0::.b (tagged x)::uu 2 (.i .i64 ((kY s x:Nat):Int)::uu 114 [])))→R ⟨fr,J++Ho J.length g1 g2 s o x⟩:=by
    intro fr hc;refine hR _ (cE.kP ?_ hc);clear hR R;have hlw:IntKind.i64.wrap ((s.len:Int)+1)=((s.len+1:Nat):Int):=br (by omega);refine cE.cut fun R hR=>?_;simp only[Ho,hlw,VV,seval];refine⟨fun h=>?_,fun h=>?_⟩
    ·have h1:512<kY s x∨1024<s.len+1:=by
      simp at h;omega
     have e:iY s x=(3,s):=by simp only[iY,zh,h1,aR];rfl
     exact fin 3 s g1 g2 (loc:=[_]) (by simp[km]) e (by rfl)
    ·have h1:¬ (512<kY s x∨1024<s.len+1):=by
      simp at h;omega
     refine hR _ ?_;clear hR R;refine cE.cut fun R hR=>?_;simp only[hlw,VV,seval];refine hR _ ?_;clear hR R;refine cE.cut fun R hR=>?_;simp only[VV,seval];refine⟨fun hk=>⟨⟨by simp only[dd];omega,by simp only[dd,maxLen];omega⟩,?_⟩,fun hk=>?_⟩
     ·have hk:x.aep=1:=by simpa using hk
      have e:iY s x=(0,⟨s.f,s.aer++x.aer,s.len+1,s.tags⟩):=by simp only[iY,zh,h1,hk,aR,aO];rfl
      rw[gj];exact fin 0 ⟨s.f,s.aer++x.aer,s.len+1,s.tags⟩ g1 (g2+1) (loc:=[_]) (by simp[km]) e (by rfl)
     ·have hk:¬ x.aep=1:=by simpa using hk
      have e:iY s x=(0,tL (fg (mr s x)) x):=by simp only[iY,zh,h1,hk,aR,aO];rfl
      refine hR _ (cE.kP (fr':=(.ptr (J.length+1) 0::uu 2 (.ptr (J.length+5) 0::.i .i64 0::.b (tagged x)::uu 117 []))) ?_ (by repeat' constructor));clear hR R;refine cE.cut fun R hR=>?_
      have si:∀ {fr:List V},qJ fr (.ptr (J.length+1) 0::uu 2 (.ptr (J.length+5) 0::.i .i64 0::uu 118 []))→R ⟨fr,J++Ho J.length g1 g2 (mr s x) o x⟩:=by
       intro fr hc;refine hR _ (cE.kP ?_ hc);clear hR R;refine cE.cut fun R hR=>?_;simp only[W,seval];refine fJ (C3 (mr s x) g1 g2 hf J [o,.box 61 [.i .i64 x.aep,.s x.aer,.i .i64 x.id]]) rfl ?_;rintro r J' ⟨rfl,g3,g4,rfl⟩;simp only[W,seval];refine hR _ (cE.kP (fr':=(.ptr (J.length+1) 0::uu 2 (.ptr (J.length+5) 0::.i .i64 0::uu 118 []))) ?_ (by repeat' constructor));clear hR R;refine aB ?_
       have hff:(fg (mr s x)).f.length≤s.f.length+1:=by
        simp only[fg];split<;>simp[mr]
       simp only[km,VV,seval];refine⟨?_,?_⟩
       ·simp[maxLen];omega
       ·have hr:(fg (mr s x)).f.map It.aen++[[.i .i64 x.aep,.s x.aer,.i .i64 x.id]]=(tL (fg (mr s x)) x).f.map It.aen:=by simp[It.aen,tL]
        rw[hr];exact fin 0 (tL (fg (mr s x)) x) (g3+1) g4 (loc:=[_]) (by simp[km]) e (by rfl)
      cases rK:tagged x with
      | true =>
       rcases tW s.tags x.id with⟨h2,h3,h4⟩ | ⟨k,b,h2,h3,h4⟩
       all_goals
        have h5:na (mr s x).tags=na (ee s.tags x.id x):=by simp only[mr,rK,aR]
        simp only[rK,h3,cz,VV,seval];have h6:=h4 x;simp only[QJ,It.aen]at h6;rw[h6,← h5];refine⟨by simp[V.mZ,V.gx,V.cell,V.pure],?_⟩;refine si (by repeat' constructor)
      | false =>
       simp only[rK,VV,seval];have:=si (fr:=(.ptr (J.length+1) 0::uu 2 (.ptr (J.length+5) 0::.i .i64 0::.b false::uu 97 (.b false::uu 19 [])))) (by repeat' constructor);simp only[mr,rK]at this;exact this
   have QP:IntKind.i64.wrap (((s.f.length+(if 0<s.aer.length then 1 else 0):Nat):Int)+1)=((s.f.length+(if 0<s.aer.length then 1 else 0)+1:Nat):Int):=br (by split<;>omega);refine⟨fun h=>?_,fun h=>?_⟩
   ·have h1:x.aep≠1∨s.aer.length=0:=by simpa using h
    have e:kY s x=s.f.length+(if 0<s.aer.length then 1 else 0)+1:=by simp only[kY,h1,aR]
    refine Bp ?_;rw[QP,e];repeat' constructor
   ·have h1:¬ (x.aep≠1∨s.aer.length=0):=by simpa using h
    have e:kY s x=s.f.length+(if 0<s.aer.length then 1 else 0):=by simp only[kY,h1,aO];rfl
    refine Bp ?_;rw[e];repeat' constructor
  refine⟨fun h=>?_,fun h=>?_⟩
  ·have h1:0<s.aer.length:=by simpa using h
   refine Vg ?_;rw[br (by omega),aQ h1];repeat' constructor
  ·have h1:¬ 0<s.aer.length:=by simpa using h
   refine Vg ?_;rw[aC h1];repeat' constructor
 have XZ:(tagged x&&zu s x)=true→iY s x=(7,s):=fun h=>by simp[iY,h]
 cases rK:tagged x with
 | false =>
  simp only[rK,VV,seval];exact wF (loc:=[]) (by rw[rK];repeat' constructor) (by simp[rK])
 | true =>
  rcases tW s.tags x.id with⟨h2,h3,h4⟩ | ⟨k,b,h2,h3,h4⟩
  ·simp only[rK,hm,h3,QJ,VV,seval];refine⟨by simp[V.mZ],by simp[V.mZ],cL (c:=false) (v:=.s []) (by simp only[VV,seval]<;>rfl) (nofun) rfl ?_⟩;simp only[VV,seval];refine wF (loc:=[_]) (by rw[rK];repeat' constructor) (by simp[zu,h2])
  ·simp only[rK,hm,h3,QJ,It.aen,VV,seval];refine⟨by simp[V.mZ],by simp[V.mZ],cL (by simp only[VV,seval]<;>rfl) (fun _=>uz b.aer _) rfl ?_⟩;simp only[VV,seval];have bz:zu s x=(x.aep != 3||b.aep != 2||iH b.aer != x.aer):=by simp only[zu,h2]
   have hb:(!iH b.aer==x.aer)=(iH b.aer != x.aer):=rfl;rw[hb,← bz];refine⟨fun h=>?_,fun h=>?_⟩
   ·exact fin 7 s g1 g2 (loc:=[_,_]) (by simp[km]) (XZ (by simp[rK,h])) (by rfl)
   ·exact wF (loc:=[_]) (by rw[rK];repeat' constructor) (by simp[rK,h])
theorem ID{J:ae}(bz:bG J)(g1 g2:Nat)(r:Rd):bG (J++km J.length g1 g2 r):=ck bz (by
 simp only[km,oD,ai,aK,eZ,tC,implies_true,kD,jD,ph];simp only[LW];omega)
theorem Kd{J:ae}{K:Exit→St→Prop}(s:List UInt8)(bz:bG J)(hlen:s.length<2^39):
  ∀ (n:Nat) (rest pre:List UInt8) (r:Rd) (g1 g2:Nat),s=pre++rest→rest.length<n→r.ok →
  (∀ r',mK n r rest pre.length=((fg r').f,0,0)→r'.ok→∀ g1 g2,((fj 5 (fh (.ptr (J.length+1) 0) (fj 33 fo))) fun ZZ=>K (.exit 0) ⟨ZZ,J++km J.length g1 g2 r'⟩)) →
  (∀ at' e,mK n r rest pre.length=([],at',e)→∀ loc,((fj 2 (fh (.nil) (fh (.i .i64 at') (fh (.i .i64 e) (fj 34 fo))))) fun ZZ=>K .ret ⟨ZZ,J++loc⟩)) →
  gw J.length prog FW K n ⟨(.s s::uu 2 (.i .i64 pre.length::uu 1 (.ptr (J.length+1) 0::uu 33 []))),J++km J.length g1 g2 r⟩
 | 0,rest,pre,r,g1,g2,he,hn,hr,h1,h2=>by omega
 | n+1,[],pre,r,g1,g2,he,hn,hr,h1,h2=>by
  have he:s=pre:=by simpa using he
  subst he;refine aH fun R hR=>?_;simp only[FW,W,seval];exact⟨fun h=>by simp at h,fun _=>h1 r rfl hr g1 g2 ..⟩
 | n+1,c::rest,pre,r,g1,g2,he,hn,hr,h1,h2=>by
  subst he;have hd:(pre++c::rest).drop pre.length=c::rest:=by simp
  have Ps:((pre++c::rest).drop pre.length).take ((pre++c::rest).length - pre.length)=c::rest:=by rw[hd,ca];simp
  have WA:=A2 (s:=c::rest) (by simp);have EB:pre.length+(c::rest).length<2^39:=by rw[← List.length_append];exact hlen
  refine aH fun R hR=>?_;simp only[FW,W,seval];refine⟨fun _=>⟨by simp;omega,?_⟩,fun h=>by simp at h<;>omega⟩;refine aA (EZ (c::rest) (by simp) _) (by simp only[az,dj,aX,VV,seval];rw[Ps]) ?_;simp only[It.aen,VV,seval];refine⟨fun h=>?_,fun h=>?_⟩
  ·have h:(cm (c::rest)).2.2=false:=by simpa using h
   exact h2 pre.length 2 (by simp only[mK,h,aR]) ..
  ·have h:(cm (c::rest)).2.2=true:=by simpa using h
   have Yk:=WA.2.2 h;have Bm:=WA.1;have ok:=hr;obtain⟨hf,ht,hl⟩:=hr;have hff:r.f.length≤r.len:=by split at hf<;>omega
   refine fJ (R9 r (cm (c::rest)).1 g1 g2 (by omega) (by omega) (by omega) J _) rfl ?_
   ·rintro v J' ⟨rfl,g3,g4,rfl⟩;simp only[VV,seval];refine⟨fun h3=>?_,fun h3=>?_⟩
    ·have h3:(iY r (cm (c::rest)).1).1≠0:=by simpa using h3
     exact h2 pre.length _ (by simp only[mK,h];rw[aC (by simp),aQ h3]) ..
    ·have h3:(iY r (cm (c::rest)).1).1=0:=by simpa using h3
     have h4:=JO ok WA.2.1 h3;obtain⟨k,hk⟩:∃ k:Nat,(cm (c::rest)).2.1=k:=⟨(cm (c::rest)).2.1.toNat,by omega⟩
     have e:mK (n+1) r (c::rest) pre.length=mK n (iY r (cm (c::rest)).1).2 ((c::rest).drop k) ((pre++(c::rest).take k).length:Nat):=by
      simp only[mK,h];rw[aC (by simp),aC (by simp[h3]),hk];simp only[aX,al,ba];congr 1;omega
     rw[e]at h1 h2;refine hR _ (bR _ _ (ID bz _ _ _) ?_ ?_ (Kd _ bz hlen n ((c::rest).drop k) (pre++(c::rest).take k) (iY r (cm (c::rest)).1).2 g3 g4 (by rw[aM,jS]) (by simp only[bJ];simp at hn ⊢;omega) h4 h1 h2))
     ·have e3:(((pre++(c::rest).take k).length:Nat):Int)=(pre.length:Int)+k:=by
       rw[al,ba,show min k (c::rest).length=k by omega];omega
      rw[hk,IntWalk.i64_in _ (by omega),e3]
      repeat' constructor
     ·simp only[LW];simp[km]
theorem JN{n:Nat}{xs:List V}{J:ae}:Wk prog n xs (J++[.map 3 61 [],.box 142 [.nil,.nil,.i .i64 0,.mp J.length]]) xs (J++km J.length 0 0 vT):=by
 have h1:=Wk.wZ (P:=prog) (n:=n) (xs:=xs) (id:=J.length+1) (j:=0) (J:=J++[.map 3 61 [],.box 142 [.nil,.nil,.i .i64 0,.mp J.length]]) zK (by simp only[W,seval];rfl) rfl;simp only[W,seval]at h1;have h2:=Wk.wZ (P:=prog) (n:=n) (xs:=xs) (id:=J.length+1) (j:=1) (J:=J++[.map 3 61 [],.box 142 [.own (J.length+2) 0,.nil,.i .i64 0,.mp J.length],.row 61 3 32 0 false []]) Jn (by simp only[W,seval];rfl) rfl;simp only[W,seval]at h2;exact h1.trans h2
theorem iJ(s:List UInt8)(hlen:s.length<2^39)(J:ae):PC prog 45 [.s s] J (fun r J'=>r=.fa [.sl 3 ((parse s).1.map It.aen),.i .i64 (parse s).2.1,.i .i64 (parse s).2.2]∧J'=J):=by
 refine PC.intro func45 c45 fun bz er=>aB ?_;simp only[p45,SS,seval];simp only[VV,seval];have e0:parse s=mK (s.length+1) vT s (([]:List UInt8).length:Nat):=rfl;refine cE.wk (JN.trans (Wk.kP (ys:=(.s s::uu 2 (.i .i64 (([]:List UInt8).length:Nat)::uu 1 (.ptr (J.length+1) 0::uu 33 [])))) (by repeat' constructor))) (cE.BX (s.length+1) (Kd s bz hlen (s.length+1) s [] vT 0 0 rfl (by omega) ⟨by simp[vT],by simp[vT],by simp[vT]⟩ ?_ ?_))
 ·intro r' hp fQ g1 g2;simp only[JE];intros;simp only[W,seval];refine fJ (C3 r' g1 g2 (by have:=fQ.f;have:=fQ.len;split at*<;> omega) J []) (by simp[ev]) ?_;rintro r J' ⟨rfl,g3,g4,rfl⟩;simp only[km,bF,W,seval];refine sH 2 bz (.inr rfl) rfl rfl ?_ ?_
  ·simp[fz,wU,eF,Cm,M7]
  ·rw[e0,hp];simp[fz,wU,one]
 ·intro at' e hp loc;simp only[JE];intros;simp only[W,seval];refine uW bz (.inr rfl) rfl (ys:=[.sl 3 [],.i .i64 at',.i .i64 e]) (.cons (.nil _) (.cons (.refl _) (.cons (.refl _) .nil))) (by simp[LW]) ⟨?_,rfl⟩;rw[e0,hp];rfl
end Go.Proofs.Tryz

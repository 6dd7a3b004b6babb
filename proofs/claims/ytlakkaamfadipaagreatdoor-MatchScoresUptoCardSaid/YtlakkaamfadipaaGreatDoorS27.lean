/- A part of a proof; the claim's last text says of what. -/
import Derived.Test.YtlakkaamfadipaaGreatDoorS26
set_option linter.all false

namespace Go.Proofs.Tryz
open Go Go.Pm Go.Bt
theorem Om(c:UInt8)(J:ae):PC prog 207 [.i .u8 c.toNat] J (fun r J'=>r=.fi [.i .u8 (jG c).1.toNat,.b (jG c).2]∧J'=J):=by
 refine PC.intro func207 acT fun bj dx=>ax ?_;simp only[W9,SS,seval];simp only[W,seval];refine⟨fun h=>?_,fun h=>⟨fun h2=>?_,fun h2=>?_⟩⟩<;>refine aU (.inr rfl) rfl ?_
 ·simp at h;have:=Ro c (by omega);simp[one,this]
 ·simp at h2;have:=Rn c (by omega);simp[one,this]
 ·simp at h h2;have:=US c (by omega) (by omega);simp[one,this]
theorem EC(c:UInt8)(J:ae):PC prog 159 [.i .u8 c.toNat] J (fun r J'=>r=.b (uP c)∧J'=J):=by
 refine PC.intro func159 adn fun bj dx=>ax ?_;simp only[XC,SS,seval];simp only[W,seval];refine cu (by simp only[W,seval];rfl) (fun _=>kY c _) rfl ?_;simp only[W,seval];refine aU (.inr rfl) rfl ⟨?_,rfl⟩;simp only[one,uP,aV,aW,V.b.injEq];simp only[← TG];rfl
theorem LK(s:List UInt8)(J:ae):PC prog 156 [.s s] J (fun r J'=>r=.fi [.i .u8 (dI s).1.toNat,.i .i64 (dI s).2.1,.b (dI s).2.2]∧J'=J):=by
 refine PC.intro func156 adq fun bj dx=>ax ?_;simp only[XF,SS,seval]
 by_cases h2:s.length<2
 ·have d2:decide ((s.length:Int)<2)=true:=by simp;omega
  simp only[d2,W,seval];refine aU (.inr rfl) rfl ⟨?_,rfl⟩;simp[one,dI,h2]
 have d2:decide ((s.length:Int)<2)=false:=by simp;omega
 have bnd:(0:Int)≤1∧(1:Int)<s.length:=by omega
 by_cases c92:s.getD 1 0=92
 ·simp only[d2,JV (k:=92) c92 rfl,W,seval,-Int.reduceLE]
  repeat refine And.intro bnd ?_
  refine aU (.inr rfl) rfl ⟨?_,rfl⟩;have e:dI s=(s.getD 1 0,2,true):=by simp[dI,h2,← List.getD_eq_getElem?_getD,c92]
  rw[e];rfl
 by_cases c60:s.getD 1 0=60
 ·simp only[d2,nZ (k:=92) c92 rfl,JV (k:=60) c60 rfl,W,seval,-Int.reduceLE]
  repeat refine And.intro bnd ?_
  refine aU (.inr rfl) rfl ⟨?_,rfl⟩;have e:dI s=(s.getD 1 0,2,true):=by simp[dI,h2,← List.getD_eq_getElem?_getD,c92,c60]
  rw[e];rfl
 by_cases na:s.getD 1 0=123
 ·simp only[d2,nZ (k:=92) c92 rfl,nZ (k:=60) c60 rfl,JV (k:=123) na rfl,W,seval,-Int.reduceLE]
  repeat refine And.intro bnd ?_
  refine aU (.inr rfl) rfl ⟨?_,rfl⟩;have e:dI s=(s.getD 1 0,2,true):=by simp[dI,h2,← List.getD_eq_getElem?_getD,c92,c60,na]
  rw[e];rfl
 by_cases AU:s.getD 1 0=110
 ·simp only[d2,nZ (k:=92) c92 rfl,nZ (k:=60) c60 rfl,nZ (k:=123) na rfl,JV (k:=110) AU rfl,W,seval,-Int.reduceLE]
  repeat refine And.intro bnd ?_
  refine aU (.inr rfl) rfl ⟨?_,rfl⟩;have e:dI s=(10,2,true):=by simp[dI,h2,← List.getD_eq_getElem?_getD,c92,c60,na,AU]
  rw[e];rfl
 by_cases c116:s.getD 1 0=116
 ·simp only[d2,nZ (k:=92) c92 rfl,nZ (k:=60) c60 rfl,nZ (k:=123) na rfl,nZ (k:=110) AU rfl,JV (k:=116) c116 rfl,W,seval,-Int.reduceLE]
  repeat refine And.intro bnd ?_
  refine aU (.inr rfl) rfl ⟨?_,rfl⟩;have e:dI s=(9,2,true):=by simp[dI,h2,← List.getD_eq_getElem?_getD,c92,c60,na,AU,c116]
  rw[e];rfl
 have all:∀ {c:UInt8},s.getD 1 0=c→c=120→dI s=if s.length<4 then(0,0,false)else(ru (s.getD 2 0) (s.getD 3 0),4,(jG (s.getD 2 0)).2&&(jG (s.getD 3 0)).2&&(ru (s.getD 2 0) (s.getD 3 0)==13||dd (ru (s.getD 2 0) (s.getD 3 0))==1)):=by
  rintro c h rfl;simp only[dI,h2,h,aK];rfl
 by_cases HZ:s.getD 1 0=120
 ·have e:=all HZ rfl
  by_cases h4:s.length<4
  ·have d4:decide ((s.length:Int)<4)=true:=by simp;omega
   simp only[d2,d4,nZ (k:=92) c92 rfl,nZ (k:=60) c60 rfl,nZ (k:=123) na rfl,nZ (k:=110) AU rfl,nZ (k:=116) c116 rfl,JV (k:=120) HZ rfl,W,seval,-Int.reduceLE]
   repeat refine And.intro bnd ?_
   refine aU (.inr rfl) rfl ⟨?_,rfl⟩;rw[e,bf h4];rfl
  have d4:decide ((s.length:Int)<4)=false:=by simp;omega
  rw[aI h4]at e;simp only[d2,d4,nZ (k:=92) c92 rfl,nZ (k:=60) c60 rfl,nZ (k:=123) na rfl,nZ (k:=110) AU rfl,nZ (k:=116) c116 rfl,JV (k:=120) HZ rfl,W,seval,-Int.reduceLE]
  repeat refine And.intro bnd ?_
  refine⟨by omega,?_⟩;refine az (Om (s.getD 2 0) _) rfl ?_;simp only[Int.reduceToNat,W,seval];refine⟨by omega,?_⟩;refine az (Om (s.getD 3 0) _) rfl ?_;simp only[HA,W,seval,-Int.reduceLE];refine⟨by omega,?_⟩;refine cu (by simp only[W,seval];rfl) (fun _=>kY (ru (s.getD 2 0) (s.getD 3 0)) _) rfl ?_;simp only[W,seval];refine aU (.inr rfl) rfl ⟨?_,rfl⟩;rw[e];simp only[one,aV,aW];rw[← uC];rfl
 ·simp only[d2,nZ (k:=92) c92 rfl,nZ (k:=60) c60 rfl,nZ (k:=123) na rfl,nZ (k:=110) AU rfl,nZ (k:=116) c116 rfl,nZ (k:=120) HZ rfl,W,seval,-Int.reduceLE]
  repeat refine And.intro bnd ?_
  refine aU (.inr rfl) rfl ⟨?_,rfl⟩;have e:dI s=(0,0,false):=by simp[dI,h2,← List.getD_eq_getElem?_getD,c92,c60,na,AU,c116,HZ]
  rw[e];rfl
theorem Qy{J:ae}{K:Exit→St→Prop}(s:List UInt8)(hlen:s.length<4):∀ (rest pre:List UInt8) (n:Int),s=pre++rest→0≤n→n<10^pre.length →
  (rest.all lQ=true→((fj 4 (fh (.i .i64 (lu n rest)) (fj 41 fo))) fun ZZ=>K (.exit 0) ⟨ZZ,J⟩)) →
  (rest.all lQ=false→((fj 2 (fh (.i .i64 0) (fh (.b false) (fj 42 fo)))) fun ZZ=>K .ret ⟨ZZ,J⟩)) →
  fp J.length prog Cx K (rest.length+1) ⟨(.s s::uu 3 (.i .i64 n::.i .i64 pre.length::uu 40 [])),J⟩:=by
 intro rest
 induction rest with
 | nil =>
  intro pre n he hn Fq h1 h2;have he:s=pre:=by simpa using he
  subst he;refine aB fun R hR=>?_;simp only[Cx,W,seval];exact⟨fun h=>by simp at h,fun _=>h1 rfl ..⟩
 | cons c rest ih =>
  intro pre n he hn Fq h1 h2;subst he;refine aB fun R hR=>?_;simp only[Cx,W,seval]
  have hd:lQ c=!(decide ((c.toNat:Int)<48)||decide (57<(c.toNat:Int))):=by
   rw[gP];simp[lQ];omega
  refine⟨fun _=>⟨by simp;omega,fun _=>by simp;omega,fun h=>?_,fun h=>⟨by simp;omega,?_⟩⟩,fun h=>by simp at h<;>omega⟩
  ·rw[h]at hd;exact h2 (by simp[hd]) ..
  ·rw[h]at hd;have hd:lQ c=true:=hd;have Fo:pre.length<3:=by simp at hlen;omega
   have hp:(10:Int)^pre.length≤10^2:=by
    have:pre.length=0∨pre.length=1∨pre.length=2:=by omega
    rcases this with h | h | h<;>rw[h]<;>decide
   have hb:=hd;simp only[lQ,aO,aY]at hb;have ae5:n<100:=Int.lt_of_lt_of_le Fq (by simpa using hp)
   have e0:IntKind.i64.wrap (IntKind.i64.wrap (10*n)+IntKind.i64.wrap (IntKind.u8.wrap ((c.toNat:Int) - 48)))=10*n+(c.toNat - 48:Int):=by
    rw[MG c hd,IntWalk.i64_in (10*n) (by omega),IntWalk.i64_in ((c.toNat:Int) - 48) (by omega),IntWalk.i64_in _ (by omega)]
   have e1:lu n (c::rest)=lu (10*n+(c.toNat - 48:Int)) rest:=rfl;have e2:(c::rest).all lQ=rest.all lQ:=by simp[hd]
   rw[e1,e2]at h1;rw[e2]at h2;refine hR _ (aZ ?_ (ih (pre++[c]) (10*n+(c.toNat - 48:Int)) (by simp) (by omega) ?_ h1 h2))
   ·rw[e0,bd (by simp at hlen;omega)];simp only[al,ai,aC]
    repeat' constructor
   ·simp only[al,ai,aC,Int.pow_succ];omega
theorem uT(s:List UInt8)(J:ae):PC prog 211 [.s s] J (fun r J'=>r=.fi [.i .i64 (aiq s).1,.b (aiq s).2]∧J'=J):=by
 refine PC.intro func211 acQ fun bj dx=>ax ?_;simp only[W6,SS,seval]
 by_cases h1:s.length<1∨3<s.length∨s.getD 0 0=48
 ·have e:aiq s=(0,false):=by simp only[aiq,h1,aL]
  have e2:((decide ((s.length:Int)<1)||decide (3<(s.length:Int)))||(((s.getD 0 0).toNat:Int)==48))=true:=by
   rcases h1 with h | h | h
   ·simp;omega
   ·simp;omega
   ·rw[JV (k:=48) h rfl];simp
  simp only[Int.reduceToNat,e2,W,seval];refine⟨fun h=>?_,aU (.inr rfl) rfl ⟨by rw[e];rfl,rfl⟩⟩;simp at h;omega
 ·have hl:¬ s.length<1∧¬ 3<s.length∧¬ s.getD 0 0=48:=by
   refine⟨fun h=>h1 (.inl h),fun h=>h1 (.inr (.inl h)),fun h=>h1 (.inr (.inr h))⟩
  have e2:((decide ((s.length:Int)<1)||decide (3<(s.length:Int)))||(((s.getD 0 0).toNat:Int)==48))=false:=by
   rw[nZ (k:=48) hl.2.2 rfl];simp;omega
  simp only[e2,W,seval];refine⟨fun _=>by omega,?_⟩;refine b6.aZ ?_ (s.length+1) (Qy s (by omega) s [] 0 rfl (cy _) (by decide) (fun ha=>?_) (fun ha=>?_))
  ·repeat' constructor
  ·simp only[JE];intros;simp only[W,seval];refine aU (.inr rfl) rfl ⟨?_,rfl⟩;have h3:=HT s 0 s.length rfl ha (cy _)
   have hp:(10:Int)^s.length≤10^3:=by
    have:s.length=1∨s.length=2∨s.length=3:=by omega
    rcases this with h | h | h<;>rw[h]<;>decide
   have h4:lu 0 s≤999:=by omega
   have e:aiq s=(lu 0 s,true):=by simp only[aiq,aI h1,ha,aL]
   rw[e];simp[one,h4]
  ·simp only[JE];intros;refine aU (.inr rfl) rfl ⟨?_,rfl⟩;have e:aiq s=(0,false):=by simp only[aiq,aI h1,ha];rfl
   rw[e];rfl
theorem TN(s:List UInt8)(J:ae):PC prog 158 [.s s] J (fun r J'=>r=.fi [.agg (jZ s).1.ah7,.b (jZ s).2]∧J'=J):=by
 refine PC.intro func158 ado fun bj dx=>ax ?_;have hlen:=DR (dx 0 _ rfl).1;simp only[XD,SS,seval];simp only[VV,seval];refine az (Dj s [47] _) rfl ?_;simp only[VV,seval];refine⟨fun hp=>?_,fun hp=>?_⟩
 ·have hl:1≤s.length:=by
   simp only[hasPrefix,aO,aY]at hp;simpa using hp.1
  have e0:(s.drop 1).take (s.length - 1)=s.drop 1:=by
   rw[eK];simp
  refine⟨by omega,?_⟩;refine az (zB (s.drop 1) 58 _) (by simp only[ay,bo,VV,seval];rw[e0]) ?_;simp only[VV,seval];generalize hq:cutAt (s.drop 1) 58=q;obtain⟨a,b,f⟩:=q;refine cu (c:=false) (v:=.b false) (by simp only[VV,seval]<;>rfl) (nofun) rfl ?_;simp only[VV,seval];refine az (uT a _) rfl ?_;simp only[VV,seval];cases f with
  | false =>
   have e:jZ s=(⟨0,[],0⟩,false):=by unfold jZ;simp only[hp,aL,hq];simp
   simp only[VV,seval];rw[e];exact bF bj (.inr rfl) (by simp only[RS,seval];rfl) (by simp[LW]) ⟨rfl,rfl⟩
  | true =>
   simp only[VV,seval];refine⟨fun h=>?_,fun h=>?_⟩
   ·have h:(aiq a).2=false:=by simpa using h
    have e:jZ s=(⟨0,[],0⟩,false):=by unfold jZ;simp only[hp,aL,hq];simp[h]
    rw[e];exact bF bj (.inr rfl) (by simp only[RS,seval];rfl) (by simp[LW]) ⟨rfl,rfl⟩
   ·have h:(aiq a).2=true:=by simpa using h
    have e:jZ s=(⟨3,b,(aiq a).1⟩,ain b):=by unfold jZ;simp only[hp,aL,hq];simp[h]
    rw[e];refine az (jq b _) rfl ?_;simp only[VV,seval];exact bF bj (.inr rfl) (by simp only[RS,seval];rfl) (by simp[LW]) ⟨rfl,rfl⟩
 ·refine az (zB s 58 _) rfl ?_;simp only[VV,seval];generalize hq:cutAt s 58=q;obtain⟨a,b,f⟩:=q;refine cu (c:=true) (by simp only[VV,seval]<;>rfl) (fun h=>Di b [47] _) rfl ?_;simp only[VV,seval]
  have tail:∀ (ah9:Int) (content:List UInt8),ah9≠3→jZ s=(if f&&(aiq a).2 then(⟨ah9,content,(aiq a).1⟩,if ah9=3 then ain content else fB content)else(⟨0,[],0⟩,false)) →
    (((f=false)∨(aiq a).2=false)→jZ s=(⟨0,[],0⟩,false))∧(f=true→(aiq a).2=true→jZ s=(⟨ah9,content,(aiq a).1⟩,fB content)):=by
   intro ah9 content hk e;rw[e];refine⟨?_,?_⟩
   ·rintro(h | h)<;>rw[h]<;>simp
   ·intro h1 h2;simp[h1,h2,hk]
  refine⟨fun hs=>?_,fun hs=>?_⟩
  ·have hb:1≤b.length:=by
    simp only[hasSuffix,aO,aY]at hs;simpa using hs.1
   have hbl:b.length<2^63:=by
    have:b=(cutAt s 58).2.1:=by rw[hq]
    have h2:b.length≤s.length:=by
     rw[this];simp only[cutAt];split<;>simp
    omega
   have e1:IntKind.i64.wrap ((b.length:Int) - 1)=((b.length - 1:Nat):Int):=by rw[IntWalk.i64_in _ (by omega)];omega
   have t:=tail 4 (b.take (b.length - 1)) (by decide) (by unfold jZ;simp[hp,hq,hs]);simp only[e1,aD,VV,seval];refine⟨by omega,?_⟩;refine az (uT a _) rfl ?_;simp only[VV,seval];cases f with
   | false =>
    simp only[VV,seval];rw[t.1 (.inl rfl)];exact bF bj (.inr rfl) (by simp only[RS,seval];rfl) (by simp[LW]) ⟨rfl,rfl⟩
   | true =>
    simp only[VV,seval];refine⟨fun h=>?_,fun h=>?_⟩
    ·have h:(aiq a).2=false:=by simpa using h
     rw[t.1 (.inr h)];exact bF bj (.inr rfl) (by simp only[RS,seval];rfl) (by simp[LW]) ⟨rfl,rfl⟩
    ·have h:(aiq a).2=true:=by simpa using h
     rw[t.2 rfl h];refine az (l0 _ _) rfl ?_;simp only[VV,seval];refine bF bj (.inr rfl) (by simp only[RS,seval];rfl) (by simp[LW]) ⟨rfl,rfl⟩
  ·have t:=tail 2 b (by decide) (by unfold jZ;simp[hp,hq,hs]);refine az (uT a _) rfl ?_;simp only[VV,seval];cases f with
   | false =>
    simp only[VV,seval];rw[t.1 (.inl rfl)];exact bF bj (.inr rfl) (by simp only[RS,seval];rfl) (by simp[LW]) ⟨rfl,rfl⟩
   | true =>
    simp only[VV,seval];refine⟨fun h=>?_,fun h=>?_⟩
    ·have h:(aiq a).2=false:=by simpa using h
     rw[t.1 (.inr h)];exact bF bj (.inr rfl) (by simp only[RS,seval];rfl) (by simp[LW]) ⟨rfl,rfl⟩
    ·have h:(aiq a).2=true:=by simpa using h
     rw[t.2 rfl h];refine az (l0 _ _) rfl ?_;simp only[VV,seval];refine bF bj (.inr rfl) (by simp only[RS,seval];rfl) (by simp[LW]) ⟨rfl,rfl⟩
theorem HS(s:List UInt8)(hs:s≠[])(J:ae):PC prog 99 [.s s] J (fun r J'=>r=.fi [.agg (cM s).1.ah7,.i .i64 (cM s).2.1,.b (cM s).2.2]∧J'=J):=by
 refine PC.intro func99 c99 fun bj dx=>ax ?_;have hlen:=DR (dx 0 _ rfl).1;have hl:0<s.length:=gR.2 hs;have bnd:(0:Int)≤0∧(0:Int)<s.length:=by omega
 simp only[p99,SS,seval]
 by_cases c92:s.getD 0 0=92
 ·have e:cM s=(⟨1,[(dI s).1],0⟩,(dI s).2.1,(dI s).2.2):=by simp only[cM,c92,aL]
  rw[e];simp only[JV (k:=92) c92 rfl,VV,seval,-Int.reduceLE];refine⟨bnd,?_⟩;refine az (LK s _) rfl ?_;simp only[VV,seval];exact bF bj (.inr rfl) (by simp only[RS,seval];rfl) (by simp[LW]) ⟨rfl,rfl⟩
 have n92:=c92
 by_cases c60:s.getD 0 0=60
 ·simp only[nZ (k:=92) c92 rfl,JV (k:=60) c60 rfl,VV,seval,-Int.reduceLE];refine⟨bnd,bnd,?_⟩;refine az (pd s 62 _) rfl ?_;have hb:=kt s 62;simp only[VV,seval];refine⟨fun h=>?_,fun h=>?_⟩
  ·have h:Lib.indexByte s 62<0:=by simpa using h
   have e:cM s=(C2,0,false):=by simp only[cM];rw[aI c92,bf c60];simp only[h,aL,aK]
   rw[e];exact bF bj (.inr rfl) (by simp only[RS,seval];rfl) (by simp[LW]) ⟨rfl,rfl⟩
  ·have h:¬ Lib.indexByte s 62<0:=by simpa using h
   have h1:=rY s 62 (by rw[c60];decide) h;have e:cM s=((jZ ((s.take (Lib.indexByte s 62).toNat).drop 1)).1,Lib.indexByte s 62+1,(jZ ((s.take (Lib.indexByte s 62).toNat).drop 1)).2):=by simp only[cM];rw[aI c92,bf c60];simp only[h,aL,aK]
   rw[e];refine⟨by omega,?_⟩;have e2:(s.drop 1).take ((Lib.indexByte s 62).toNat - 1)=(s.take (Lib.indexByte s 62).toNat).drop 1:=by rw[List.drop_take]
   refine az (TN _ _) (by simp only[ay,bo,VV,seval];rw[e2]) ?_;simp only[It.ah7,VV,seval];refine bF bj (.inr rfl) (by simp only[RS,seval];rfl) (by simp[LW]) ⟨?_,rfl⟩;simp only[one,aV,aW];rw[IntWalk.i64_in _ (by omega)]
 by_cases na:s.getD 0 0=123
 ·simp only[nZ (k:=92) c92 rfl,nZ (k:=60) c60 rfl,JV (k:=123) na rfl,VV,seval,-Int.reduceLE];refine⟨bnd,bnd,bnd,?_⟩;refine az (pd s 125 _) rfl ?_;have hb:=kt s 125;simp only[VV,seval]
  by_cases h:Lib.indexByte s 125<0
  ·have e:cM s=(C2,0,false):=by simp only[cM];rw[aI c92,aI c60,bf na];simp only[h,Tp,aL]
   have hd:decide (Lib.indexByte s 125<0)=true:=by simpa using h
   rw[e];simp only[hd,VV,seval];refine⟨nofun,?_⟩;refine cu (c:=false) (v:=.b false) (by simp only[VV,seval]<;>rfl) (nofun) rfl ?_;simp only[VV,seval];exact bF bj (.inr rfl) (by simp only[RS,seval];rfl) (by simp[LW]) ⟨rfl,rfl⟩
  ·have hd:decide (Lib.indexByte s 125<0)=false:=by simpa using h
   have h1:=rY s 125 (by rw[na];decide) h;have e:cM s=if ain ((s.take (Lib.indexByte s 125).toNat).drop 1)=false then(C2,0,false)else(⟨5,(s.take (Lib.indexByte s 125).toNat).drop 1,0⟩,Lib.indexByte s 125+1,true):=by simp only[cM];rw[aI c92,aI c60,bf na];simp only[h,sV]
   have e2:(s.drop 1).take ((Lib.indexByte s 125).toNat - 1)=(s.take (Lib.indexByte s 125).toNat).drop 1:=by rw[List.drop_take]
   rw[e];simp only[hd,e2,VV,seval];refine⟨by omega,?_⟩;refine cu (c:=true) (by simp only[VV,seval]<;>rfl) (fun _=>jq ((s.take (Lib.indexByte s 125).toNat).drop 1) _) rfl ?_;simp only[VV,seval];refine⟨fun h=>?_,fun h=>?_⟩
   ·have h:ain ((s.take (Lib.indexByte s 125).toNat).drop 1)=false:=by simpa using h
    rw[bf h];exact bF bj (.inr rfl) (by simp only[RS,seval];rfl) (by simp[LW]) ⟨rfl,rfl⟩
   ·have h:¬ ain ((s.take (Lib.indexByte s 125).toNat).drop 1)=false:=by simpa using h
    rw[aI h];simp only[e2,VV,seval];refine⟨by omega,?_⟩;refine bF bj (.inr rfl) (by simp only[RS,seval];rfl) (by simp[LW]) ⟨?_,rfl⟩;simp only[one,aV,aW];rw[IntWalk.i64_in _ (by omega)];rfl
 ·have e:cM s=(⟨1,s.take 1,0⟩,1,uP (s.getD 0 0)):=by simp only[cM,c92,c60,na,aK]
  rw[e];simp only[nZ (k:=92) c92 rfl,nZ (k:=60) c60 rfl,nZ (k:=123) na rfl,VV,seval,-Int.reduceLE];refine⟨bnd,bnd,bnd,by omega,bnd,?_⟩;refine az (EC (s.getD 0 0) _) rfl ?_;simp only[VV,seval];exact bF bj (.inr rfl) (by simp only[RS,seval];rfl) (by simp[LW]) ⟨rfl,rfl⟩
def kQ(n g1 g2:Nat)(s:Rd):ae :=
 [.map 3 61 (ow s.tags),.box 142 [.own (n+2) g1,.own (n+3) g2,.i .i64 s.len,.mp n],.row 61 3 32 g1 false (s.f.map It.ah7),.row 5 1 1 g2 false (de s.aib)]
def Km(n g1 g2:Nat)(s:Rd)(o:Ob)(x:It):ae :=
 [.map 3 61 (ow s.tags),.box 142 [.own (n+2) g1,.own (n+3) g2,.i .i64 s.len,.mp n],.row 61 3 32 g1 false (s.f.map It.ah7),.row 5 1 1 g2 false (de s.aib),o,.box 61 [.i .i64 x.ah9,.s x.aib,.i .i64 x.id]]
theorem FF(s:Rd)(g1 g2:Nat)(hf:s.f.length<2^40)(J ext:ae):PC prog 101 [.ptr (J.length+1) 0] (J++(kQ J.length g1 g2 s++ext)) (fun r J'=>r=.fi []∧∃ g1' g2',J'=J++(kQ J.length g1' g2' (fy s)++ext)):=by
 refine PC.intro func101 adR fun bj dx=>ax ?_;simp only[Yd,SS,seval];simp only[kQ,W,seval];simp only[dA,kz,W,seval];refine⟨fun h=>⟨?_,?_⟩,fun h=>?_⟩
 ·simp[maxLen];omega
 ·have h:0<s.aib.length:=by simpa using h
  have e:fy s=⟨s.f++[⟨1,s.aib,0⟩],[],s.len,s.tags⟩:=by simp[fy,h]
  have hr:s.f.map It.ah7++[[.i .i64 1,.s s.aib,.i .i64 0]]=(s.f++[(⟨1,s.aib,0⟩:It)]).map It.ah7:=by simp[It.ah7]
  rw[hr];refine eP (xs:=[]) (xs':=[]) (.inl rfl) rfl (Wk.WH (id:=J.length+1) (j:=1) (idr:=J.length+3) (by simp only[W,seval];rfl) rfl (by simp only[W,seval];rfl)) rfl ⟨rfl,g1+1,g2+1,?_⟩;simp only[kQ,e,W,seval];rfl
 ·have h:¬ 0<s.aib.length:=by simpa using h
  have e:fy s=s:=by simp[fy,h]
  rw[e];exact eP (xs:=[]) (.inl rfl) rfl (Wk.refl _ _) rfl ⟨rfl,g1,g2,rfl⟩
set_option maxHeartbeats 2000000 in
theorem VO(s:Rd)(x:It)(g1 g2:Nat)(hf:s.f.length<2^40)(ht:s.aib.length+x.aib.length<2^40)(hl:s.len<2^40)(J:ae)(o:Ob):PC prog 100 [.ptr (J.length+1) 0,.agg x.ah7] (J++(kQ J.length g1 g2 s++[o]))
  (fun r J'=>r=.i .i64 (jA s x).1∧∃ g1' g2',J'=J++(kQ J.length g1' g2' (jA s x).2++[o])):=by
 refine PC.intro func100 adS fun bj dx=>?_;simp only[Ye,SS,seval];have hm:∀ t,cN (J++(.map 3 61 (ow s.tags))::t) 0 (.mp J.length) (.i .i64 x.id)=dM 0 (.i .i64 x.id) (ow s.tags) 0:=fun t=>by simp only[cN,gj,aw]
 refine b6.cut fun R hR=>?_;simp only[kQ,It.ah7,bn,bk,W,seval];refine hR _ ?_;clear hR R;refine b6.cut fun R hR=>?_;simp only[W,seval];refine hR _ (b6.gA (fr':=(.ptr (J.length+1) 0::uu 2 (.ptr (J.length+5) 0::.i .i64 0::.b (tagged x)::uu 117 []))) ?_ ?_)
 rotate_left
 ·simp only[tagged]
  repeat' constructor
 clear hR R;have hbo:=LS bj (id:=J.length+4) (o:=o) (n:=J.length+5) (by rw[aA (by omega),cU];rfl) (by simp[kQ])
 have acd:∀ (g1 g2:Nat) (s:Rd),bG (J++(kQ J.length g1 g2 s++[o])):=fun g1 g2 s =>
  wM bj (aq _) (by
   simp only[kQ,pP,ai,aC,eL,vG,implies_true,fq,gk,bn,bk,qP];exact⟨by simp only[LW];omega,by cases o<;>exact hbo⟩)
 have acb:∀ (g1 g2:Nat) (s:Rd),bG (J++Km J.length g1 g2 s o x):=fun g1 g2 s =>
  wM bj (by simp[kQ,Km]) (by
   simp only[Km,pP,ai,aC,eL,vG,implies_true,fq,gk,qP];have acg:=hbo.mono (Nat.le_succ _);exact⟨by simp only[LW];omega,by cases o<;>exact acg,by simp only[LW]⟩)
 have fin:∀ {fr:List V} {n:Nat} (e:Int) (s':Rd) (g1' g2':Nat) {loc:ae},n≤J.length+5→jA s x=(e,s')→fr.getD 4 .u=.i .i64 e→qd prog n [.t 4] (fun r J'=>r=.i .i64 (jA s x).1∧∃ g1' g2',J'=J++(kQ J.length g1' g2' (jA s x).2++[o])) .ret ⟨fr,J++((kQ J.length g1' g2' s'++[o])++loc)⟩:=by
  intro fr n e s' g1' g2' loc hn he hf;rw[← List.append_assoc];refine eP (xs:=[.i .i64 e]) (.inr rfl) (by simp only[jt,sA,hf]) (Wk.wF (by simpa[kQ]using hn) (acd _ _ _) (dS.1 (by simp[LW]))) rfl ⟨by rw[he];rfl,g1',g2',by rw[he]⟩
 refine b6.cut fun R hR=>?_
 have yX:∀ {fr:List V} {loc:ae},nU fr (.ptr (J.length+1) 0::uu 2 (.ptr (J.length+5) 0::.i .i64 0::.b (tagged x)::uu 117 []))→¬ (tagged x&&BS s x)=true→R ⟨fr,J++(Km J.length g1 g2 s o x++loc)⟩:=by
  intro fr loc hc BG;refine hR _ (b6.drop _ _ (by simp[kQ,Km]) (acb g1 g2 s) hc (by simp[LW,Km]) ?_);clear hR R;refine b6.cut fun R hR=>?_;simp only[Km,W,seval];refine hR _ ?_;clear hR R;refine b6.cut fun R hR=>?_;simp only[Km,ag,dA,VV,seval]
  have YZ:∀ {fr:List V},nU fr (.ptr (J.length+1) 0::uu 2 (.ptr (J.length+5) 0::.i .i64 0::.b (tagged x)::uu 2 (.i .i64 ((s.f.length+(if 0<s.aib.length then 1 else 0):Nat):Int)::uu 114 [])))→R ⟨fr,J++Km J.length g1 g2 s o x⟩:=by
   intro fr hc;refine hR _ (b6.gA ?_ hc);clear hR R;refine b6.cut fun R hR=>?_;simp only[Km,ag,dA,VV,seval]
   have Hz:∀ {fr:List V},nU fr (.ptr (J.length+1) 0::uu 2 (.ptr (J.length+5) 0::.i .i64 0::.b (tagged x)::uu 2 (.i .i64 ((lI s x:Nat):Int)::uu 114 [])))→R ⟨fr,J++Km J.length g1 g2 s o x⟩:=by
    intro fr hc;refine hR _ (b6.gA ?_ hc);clear hR R;have hlw:IntKind.i64.wrap ((s.len:Int)+1)=((s.len+1:Nat):Int):=bd (by omega);refine b6.cut fun R hR=>?_;simp only[Km,hlw,VV,seval];refine⟨fun h=>?_,fun h=>?_⟩
    ·have h1:512<lI s x∨1024<s.len+1:=by
      simp at h;omega
     have e:jA s x=(3,s):=by simp only[jA,BG,h1,aL];rfl
     exact fin 3 s g1 g2 (loc:=[_]) (by simp[kQ]) e (by rfl)
    ·have h1:¬ (512<lI s x∨1024<s.len+1):=by
      simp at h;omega
     refine hR _ ?_;clear hR R;refine b6.cut fun R hR=>?_;simp only[hlw,VV,seval];refine hR _ ?_;clear hR R;refine b6.cut fun R hR=>?_;simp only[VV,seval];refine⟨fun hk=>⟨⟨by simp only[dA];omega,by simp only[dA,maxLen];omega⟩,?_⟩,fun hk=>?_⟩
     ·have hk:x.ah9=1:=by simpa using hk
      have e:jA s x=(0,⟨s.f,s.aib++x.aib,s.len+1,s.tags⟩):=by simp only[jA,BG,h1,hk,aL,aK];rfl
      rw[gO];exact fin 0 ⟨s.f,s.aib++x.aib,s.len+1,s.tags⟩ g1 (g2+1) (loc:=[_]) (by simp[kQ]) e (by rfl)
     ·have hk:¬ x.ah9=1:=by simpa using hk
      have e:jA s x=(0,vS (fy (ni s x)) x):=by simp only[jA,BG,h1,hk,aL,aK];rfl
      refine hR _ (b6.gA (fr':=(.ptr (J.length+1) 0::uu 2 (.ptr (J.length+5) 0::.i .i64 0::.b (tagged x)::uu 117 []))) ?_ (by repeat' constructor));clear hR R;refine b6.cut fun R hR=>?_
      have rq:∀ {fr:List V},nU fr (.ptr (J.length+1) 0::uu 2 (.ptr (J.length+5) 0::.i .i64 0::uu 118 []))→R ⟨fr,J++Km J.length g1 g2 (ni s x) o x⟩:=by
       intro fr hc;refine hR _ (b6.gA ?_ hc);clear hR R;refine b6.cut fun R hR=>?_;simp only[W,seval];refine cm (FF (ni s x) g1 g2 hf J [o,.box 61 [.i .i64 x.ah9,.s x.aib,.i .i64 x.id]]) rfl ?_;rintro r J' ⟨rfl,g3,g4,rfl⟩;simp only[W,seval];refine hR _ (b6.gA (fr':=(.ptr (J.length+1) 0::uu 2 (.ptr (J.length+5) 0::.i .i64 0::uu 118 []))) ?_ (by repeat' constructor));clear hR R;refine ax ?_
       have hff:(fy (ni s x)).f.length≤s.f.length+1:=by
        simp only[fy];split<;>simp[ni]
       simp only[kQ,VV,seval];refine⟨?_,?_⟩
       ·simp[maxLen];omega
       ·have hr:(fy (ni s x)).f.map It.ah7++[[.i .i64 x.ah9,.s x.aib,.i .i64 x.id]]=(vS (fy (ni s x)) x).f.map It.ah7:=by simp[It.ah7,vS]
        rw[hr];exact fin 0 (vS (fy (ni s x)) x) (g3+1) g4 (loc:=[_]) (by simp[kQ]) e (by rfl)
      cases tQ:tagged x with
      | true =>
       rcases we s.tags x.id with⟨h2,h3,h4⟩ | ⟨k,b,h2,h3,h4⟩
       all_goals
        have h5:ow (ni s x).tags=ow (eO s.tags x.id x):=by simp only[ni,tQ,aL]
        simp only[tQ,h3,cX,VV,seval];have h6:=h4 x;simp only[Uw,It.ah7]at h6;rw[h6,← h5];refine⟨by simp[V.ov,V.iL,V.cell,V.pure],?_⟩;refine rq (by repeat' constructor)
      | false =>
       simp only[tQ,VV,seval];have:=rq (fr:=(.ptr (J.length+1) 0::uu 2 (.ptr (J.length+5) 0::.i .i64 0::.b false::uu 97 (.b false::uu 19 [])))) (by repeat' constructor);simp only[ni,tQ]at this;exact this
   have Mf:IntKind.i64.wrap (((s.f.length+(if 0<s.aib.length then 1 else 0):Nat):Int)+1)=((s.f.length+(if 0<s.aib.length then 1 else 0)+1:Nat):Int):=bd (by split<;>omega);refine⟨fun h=>?_,fun h=>?_⟩
   ·have h1:x.ah9≠1∨s.aib.length=0:=by simpa using h
    have e:lI s x=s.f.length+(if 0<s.aib.length then 1 else 0)+1:=by simp only[lI,h1,aL]
    refine Hz ?_;rw[Mf,e];repeat' constructor
   ·have h1:¬ (x.ah9≠1∨s.aib.length=0):=by simpa using h
    have e:lI s x=s.f.length+(if 0<s.aib.length then 1 else 0):=by simp only[lI,h1,aK];rfl
    refine Hz ?_;rw[e];repeat' constructor
  refine⟨fun h=>?_,fun h=>?_⟩
  ·have h1:0<s.aib.length:=by simpa using h
   refine YZ ?_;rw[bd (by omega),bf h1];repeat' constructor
  ·have h1:¬ 0<s.aib.length:=by simpa using h
   refine YZ ?_;rw[aI h1];repeat' constructor
 have aby:(tagged x&&BS s x)=true→jA s x=(7,s):=fun h=>by simp[jA,h]
 cases tQ:tagged x with
 | false =>
  simp only[tQ,VV,seval];exact yX (loc:=[]) (by rw[tQ];repeat' constructor) (by simp[tQ])
 | true =>
  rcases we s.tags x.id with⟨h2,h3,h4⟩ | ⟨k,b,h2,h3,h4⟩
  ·simp only[tQ,hm,h3,Uw,VV,seval];refine⟨by simp[V.ov],by simp[V.ov],cu (c:=false) (v:=.s []) (by simp only[VV,seval]<;>rfl) (nofun) rfl ?_⟩;simp only[VV,seval];refine yX (loc:=[_]) (by rw[tQ];repeat' constructor) (by simp[BS,h2])
  ·simp only[tQ,hm,h3,Uw,It.ah7,VV,seval];refine⟨by simp[V.ov],by simp[V.ov],cu (by simp only[VV,seval]<;>rfl) (fun _=>wX b.aib _) rfl ?_⟩;simp only[VV,seval];have bj:BS s x=(x.ah9 != 3||b.ah9 != 2||ey b.aib != x.aib):=by simp only[BS,h2]
   have hb:(!ey b.aib==x.aib)=(ey b.aib != x.aib):=rfl;rw[hb,← bj];refine⟨fun h=>?_,fun h=>?_⟩
   ·exact fin 7 s g1 g2 (loc:=[_,_]) (by simp[kQ]) (aby (by simp[tQ,h])) (by rfl)
   ·exact yX (loc:=[_]) (by rw[tQ];repeat' constructor) (by simp[tQ,h])
theorem LR{J:ae}(bj:bG J)(g1 g2:Nat)(r:Rd):bG (J++kQ J.length g1 g2 r):=cj bj (by
 simp only[kQ,pP,ai,aC,eL,vG,implies_true,fq,gk,qP];simp only[LW];omega)
theorem NC{J:ae}{K:Exit→St→Prop}(s:List UInt8)(bj:bG J)(hlen:s.length<2^39):
  ∀ (n:Nat) (rest pre:List UInt8) (r:Rd) (g1 g2:Nat),s=pre++rest→rest.length<n→r.ok →
  (∀ r',nM n r rest pre.length=((fy r').f,0,0)→r'.ok→∀ g1 g2,((fj 5 (fh (.ptr (J.length+1) 0) (fj 33 fo))) fun ZZ=>K (.exit 0) ⟨ZZ,J++kQ J.length g1 g2 r'⟩)) →
  (∀ at' e,nM n r rest pre.length=([],at',e)→∀ loc,((fj 2 (fh (.nil) (fh (.i .i64 at') (fh (.i .i64 e) (fj 34 fo))))) fun ZZ=>K .ret ⟨ZZ,J++loc⟩)) →
  fp J.length prog IK K n ⟨(.s s::uu 2 (.i .i64 pre.length::uu 1 (.ptr (J.length+1) 0::uu 33 []))),J++kQ J.length g1 g2 r⟩
 | 0,rest,pre,r,g1,g2,he,hn,hr,h1,h2=>by omega
 | n+1,[],pre,r,g1,g2,he,hn,hr,h1,h2=>by
  have he:s=pre:=by simpa using he
  subst he;refine aB fun R hR=>?_;simp only[IK,W,seval];exact⟨fun h=>by simp at h,fun _=>h1 r rfl hr g1 g2 ..⟩
 | n+1,c::rest,pre,r,g1,g2,he,hn,hr,h1,h2=>by
  subst he;have hd:(pre++c::rest).drop pre.length=c::rest:=by simp
  have htk:((pre++c::rest).drop pre.length).take ((pre++c::rest).length - pre.length)=c::rest:=by rw[hd,eK];simp
  have hel:=Dq (s:=c::rest) (by simp);have Fo:pre.length+(c::rest).length<2^39:=by rw[← List.length_append];exact hlen
  refine aB fun R hR=>?_;simp only[IK,W,seval];refine⟨fun _=>⟨by simp;omega,?_⟩,fun h=>by simp at h<;>omega⟩;refine az (HS (c::rest) (by simp) _) (by simp only[ay,bo,aD,VV,seval];rw[htk]) ?_;simp only[It.ah7,VV,seval];refine⟨fun h=>?_,fun h=>?_⟩
  ·have h:(cM (c::rest)).2.2=false:=by simpa using h
   exact h2 pre.length 2 (by simp only[nM,h,aL]) ..
  ·have h:(cM (c::rest)).2.2=true:=by simpa using h
   have hn1:=hel.2.2 h;have xa:=hel.1;have ok:=hr;obtain⟨hf,ht,hl⟩:=hr;have hff:r.f.length≤r.len:=by split at hf<;>omega
   refine cm (VO r (cM (c::rest)).1 g1 g2 (by omega) (by omega) (by omega) J _) rfl ?_
   ·rintro v J' ⟨rfl,g3,g4,rfl⟩;simp only[VV,seval];refine⟨fun h3=>?_,fun h3=>?_⟩
    ·have h3:(jA r (cM (c::rest)).1).1≠0:=by simpa using h3
     exact h2 pre.length _ (by simp only[nM,h];rw[aI (by simp),bf h3]) ..
    ·have h3:(jA r (cM (c::rest)).1).1=0:=by simpa using h3
     have h4:=M8 ok hel.2.1 h3;obtain⟨k,hk⟩:∃ k:Nat,(cM (c::rest)).2.1=k:=⟨(cM (c::rest)).2.1.toNat,by omega⟩
     have e:nM (n+1) r (c::rest) pre.length=nM n (jA r (cM (c::rest)).1).2 ((c::rest).drop k) ((pre++(c::rest).take k).length:Nat):=by
      simp only[nM,h];rw[aI (by simp),aI (by simp[h3]),hk];simp only[aD,al,cz];congr 1;omega
     rw[e]at h1 h2;refine hR _ (b5 _ _ (LR bj _ _ _) ?_ ?_ (NC _ bj hlen n ((c::rest).drop k) (pre++(c::rest).take k) (jA r (cM (c::rest)).1).2 g3 g4 (by rw[aR,AX]) (by simp only[cV];simp at hn ⊢;omega) h4 h1 h2))
     ·have e3:(((pre++(c::rest).take k).length:Nat):Int)=(pre.length:Int)+k:=by
       rw[al,cz,show min k (c::rest).length=k by omega];omega
      rw[hk,IntWalk.i64_in _ (by omega),e3]
      repeat' constructor
     ·simp only[LW];simp[kQ]
theorem M7{n:Nat}{xs:List V}{J:ae}:Wk prog n xs (J++[.map 3 61 [],.box 142 [.nil,.nil,.i .i64 0,.mp J.length]]) xs (J++kQ J.length 0 0 yn):=by
 have h1:=Wk.zx (P:=prog) (n:=n) (xs:=xs) (id:=J.length+1) (j:=0) (J:=J++[.map 3 61 [],.box 142 [.nil,.nil,.i .i64 0,.mp J.length]]) B5 (by simp only[W,seval];rfl) rfl;simp only[W,seval]at h1;have h2:=Wk.zx (P:=prog) (n:=n) (xs:=xs) (id:=J.length+1) (j:=1) (J:=J++[.map 3 61 [],.box 142 [.own (J.length+2) 0,.nil,.i .i64 0,.mp J.length],.row 61 3 32 0 false []]) MJ (by simp only[W,seval];rfl) rfl;simp only[W,seval]at h2;exact h1.trans h2
theorem jo(s:List UInt8)(hlen:s.length<2^39)(J:ae):PC prog 45 [.s s] J (fun r J'=>r=.fi [.sl 3 ((parse s).1.map It.ah7),.i .i64 (parse s).2.1,.i .i64 (parse s).2.2]∧J'=J):=by
 refine PC.intro func45 c45 fun bj dx=>ax ?_;simp only[p45,SS,seval];simp only[VV,seval];have e0:parse s=nM (s.length+1) yn s (([]:List UInt8).length:Nat):=rfl;refine b6.wk (M7.trans (Wk.gA (ys:=(.s s::uu 2 (.i .i64 (([]:List UInt8).length:Nat)::uu 1 (.ptr (J.length+1) 0::uu 33 [])))) (by repeat' constructor))) (b6.vP (s.length+1) (NC s bj hlen (s.length+1) s [] yn 0 0 rfl (by omega) ⟨by simp[yn],by simp[yn],by simp[yn]⟩ ?_ ?_))
 ·intro r' hp gW g1 g2;simp only[JE];intros;simp only[W,seval];refine cm (FF r' g1 g2 (by have:=gW.f;have:=gW.len;split at*<;> omega) J []) (by simp[ev]) ?_;rintro r J' ⟨rfl,g3,g4,rfl⟩;simp only[kQ,bV,W,seval];refine qc 2 bj (.inr rfl) rfl rfl ?_ ?_
  ·simp[fz,qD,eI,wh,Qt]
  ·rw[e0,hp];simp[fz,qD,one]
 ·intro at' e hp loc;simp only[JE];intros;simp only[W,seval];refine xz bj (.inr rfl) rfl (ys:=[.sl 3 [],.i .i64 at',.i .i64 e]) (.cons (.nil _) (.cons (.refl _) (.cons (.refl _) .nil))) (by simp[LW]) ⟨?_,rfl⟩;rw[e0,hp];rfl
end Go.Proofs.Tryz

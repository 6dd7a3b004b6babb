/- A part of a proof; the claim's last text says of what. -/
import Derived.Test.YtlakkaamfadipaaGreatDoorV27
set_option linter.all false

namespace Go.Proofs.Tryz
open Go Go.Pm Go.Bt
theorem NI(c:UInt8)(J:ae):PC prog 207 [.i .u8 c.toNat] J (fun r J'=>r=.fu [.i .u8 (fY c).1.toNat,.b (fY c).2]∧J'=J):=by
 refine PC.intro func207 ab1 fun bz dH=>aB ?_;simp only[Wy,SS,seval];simp only[W,seval];refine⟨fun h=>?_,fun h=>⟨fun h2=>?_,fun h2=>?_⟩⟩<;>refine aR (.inr rfl) rfl ?_
 ·simp at h;have:=QR c (by omega);simp[one,this]
 ·simp at h2;have:=QQ c (by omega);simp[one,this]
 ·simp at h h2;have:=Ud c (by omega) (by omega);simp[one,this]
theorem DK(c:UInt8)(J:ae):PC prog 159 [.i .u8 c.toNat] J (fun r J'=>r=.b (oG c)∧J'=J):=by
 refine PC.intro func159 acs fun bz dH=>aB ?_;simp only[WZ,SS,seval];simp only[W,seval];refine cn (by simp only[W,seval];rfl) (fun _=>kV c _) rfl ?_;simp only[W,seval];refine aR (.inr rfl) rfl ⟨?_,rfl⟩;simp only[one,oG,aF,aP,V.b.injEq];simp only[← S3];rfl
theorem KM(s:List UInt8)(J:ae):PC prog 156 [.s s] J (fun r J'=>r=.fu [.i .u8 (cH s).1.toNat,.i .i64 (cH s).2.1,.b (cH s).2.2]∧J'=J):=by
 refine PC.intro func156 acw fun bz dH=>aB ?_;simp only[W2,SS,seval]
 by_cases h2:s.length<2
 ·have d2:decide ((s.length:Int)<2)=true:=by simp;omega
  simp only[d2,W,seval];refine aR (.inr rfl) rfl ⟨?_,rfl⟩;simp[one,cH,h2]
 have d2:decide ((s.length:Int)<2)=false:=by simp;omega
 have bnd:(0:Int)≤1∧(1:Int)<s.length:=by omega
 by_cases c92:s.getD 1 0=92
 ·simp only[d2,I0 (k:=92) c92 rfl,W,seval,-Int.reduceLE]
  repeat refine And.intro bnd ?_
  refine aR (.inr rfl) rfl ⟨?_,rfl⟩;have e:cH s=(s.getD 1 0,2,true):=by simp[cH,h2,← List.getD_eq_getElem?_getD,c92]
  rw[e];rfl
 by_cases c60:s.getD 1 0=60
 ·simp only[d2,nP (k:=92) c92 rfl,I0 (k:=60) c60 rfl,W,seval,-Int.reduceLE]
  repeat refine And.intro bnd ?_
  refine aR (.inr rfl) rfl ⟨?_,rfl⟩;have e:cH s=(s.getD 1 0,2,true):=by simp[cH,h2,← List.getD_eq_getElem?_getD,c92,c60]
  rw[e];rfl
 by_cases kC:s.getD 1 0=123
 ·simp only[d2,nP (k:=92) c92 rfl,nP (k:=60) c60 rfl,I0 (k:=123) kC rfl,W,seval,-Int.reduceLE]
  repeat refine And.intro bnd ?_
  refine aR (.inr rfl) rfl ⟨?_,rfl⟩;have e:cH s=(s.getD 1 0,2,true):=by simp[cH,h2,← List.getD_eq_getElem?_getD,c92,c60,kC]
  rw[e];rfl
 by_cases c110:s.getD 1 0=110
 ·simp only[d2,nP (k:=92) c92 rfl,nP (k:=60) c60 rfl,nP (k:=123) kC rfl,I0 (k:=110) c110 rfl,W,seval,-Int.reduceLE]
  repeat refine And.intro bnd ?_
  refine aR (.inr rfl) rfl ⟨?_,rfl⟩;have e:cH s=(10,2,true):=by simp[cH,h2,← List.getD_eq_getElem?_getD,c92,c60,kC,c110]
  rw[e];rfl
 by_cases c116:s.getD 1 0=116
 ·simp only[d2,nP (k:=92) c92 rfl,nP (k:=60) c60 rfl,nP (k:=123) kC rfl,nP (k:=110) c110 rfl,I0 (k:=116) c116 rfl,W,seval,-Int.reduceLE]
  repeat refine And.intro bnd ?_
  refine aR (.inr rfl) rfl ⟨?_,rfl⟩;have e:cH s=(9,2,true):=by simp[cH,h2,← List.getD_eq_getElem?_getD,c92,c60,kC,c110,c116]
  rw[e];rfl
 have all:∀ {c:UInt8},s.getD 1 0=c→c=120→cH s=if s.length<4 then(0,0,false)else(gK (s.getD 2 0) (s.getD 3 0),4,(fY (s.getD 2 0)).2&&(fY (s.getD 3 0)).2&&(gK (s.getD 2 0) (s.getD 3 0)==13||dD (gK (s.getD 2 0) (s.getD 3 0))==1)):=by
  rintro c h rfl;simp only[cH,h2,h,aJ];rfl
 by_cases G9:s.getD 1 0=120
 ·have e:=all G9 rfl
  by_cases h4:s.length<4
  ·have d4:decide ((s.length:Int)<4)=true:=by simp;omega
   simp only[d2,d4,nP (k:=92) c92 rfl,nP (k:=60) c60 rfl,nP (k:=123) kC rfl,nP (k:=110) c110 rfl,nP (k:=116) c116 rfl,I0 (k:=120) G9 rfl,W,seval,-Int.reduceLE]
   repeat refine And.intro bnd ?_
   refine aR (.inr rfl) rfl ⟨?_,rfl⟩;rw[e,aI h4];rfl
  have d4:decide ((s.length:Int)<4)=false:=by simp;omega
  rw[aw h4]at e;simp only[d2,d4,nP (k:=92) c92 rfl,nP (k:=60) c60 rfl,nP (k:=123) kC rfl,nP (k:=110) c110 rfl,nP (k:=116) c116 rfl,I0 (k:=120) G9 rfl,W,seval,-Int.reduceLE]
  repeat refine And.intro bnd ?_
  refine⟨by omega,?_⟩;refine aC (NI (s.getD 2 0) _) rfl ?_;simp only[Int.reduceToNat,W,seval];refine⟨by omega,?_⟩;refine aC (NI (s.getD 3 0) _) rfl ?_;simp only[GH,W,seval,-Int.reduceLE];refine⟨by omega,?_⟩;refine cn (by simp only[W,seval];rfl) (fun _=>kV (gK (s.getD 2 0) (s.getD 3 0)) _) rfl ?_;simp only[W,seval];refine aR (.inr rfl) rfl ⟨?_,rfl⟩;rw[e];simp only[one,aF,aP];rw[← tV];rfl
 ·simp only[d2,nP (k:=92) c92 rfl,nP (k:=60) c60 rfl,nP (k:=123) kC rfl,nP (k:=110) c110 rfl,nP (k:=116) c116 rfl,nP (k:=120) G9 rfl,W,seval,-Int.reduceLE]
  repeat refine And.intro bnd ?_
  refine aR (.inr rfl) rfl ⟨?_,rfl⟩;have e:cH s=(0,0,false):=by simp[cH,h2,← List.getD_eq_getElem?_getD,c92,c60,kC,c110,c116,G9]
  rw[e];rfl
theorem P1{J:ae}{K:Exit→St→Prop}(s:List UInt8)(hlen:s.length<4):∀ (rest pre:List UInt8) (n:Int),s=pre++rest→0≤n→n<10^pre.length →
  (rest.all dc=true→((fj 4 (fh (.i .i64 (da n rest)) (fj 41 fo))) fun ZZ=>K (.exit 0) ⟨ZZ,J⟩)) →
  (rest.all dc=false→((fj 2 (fh (.i .i64 0) (fh (.b false) (fj 42 fo)))) fun ZZ=>K .ret ⟨ZZ,J⟩)) →
  fJ J.length prog BQ K (rest.length+1) ⟨(.s s::uu 3 (.i .i64 n::.i .i64 pre.length::uu 40 [])),J⟩:=by
 intro rest
 induction rest with
 | nil =>
  intro pre n he hn Es h1 h2;have he:s=pre:=by simpa using he
  subst he;refine aD fun R hR=>?_;simp only[BQ,W,seval];exact⟨fun h=>by simp at h,fun _=>h1 rfl ..⟩
 | cons c rest ih =>
  intro pre n he hn Es h1 h2;subst he;refine aD fun R hR=>?_;simp only[BQ,W,seval]
  have hd:dc c=!(decide ((c.toNat:Int)<48)||decide (57<(c.toNat:Int))):=by
   rw[df];simp[dc];omega
  refine⟨fun _=>⟨by simp;omega,fun _=>by simp;omega,fun h=>?_,fun h=>⟨by simp;omega,?_⟩⟩,fun h=>by simp at h<;>omega⟩
  ·rw[h]at hd;exact h2 (by simp[hd]) ..
  ·rw[h]at hd;have hd:dc c=true:=hd;have zn:pre.length<3:=by simp at hlen;omega
   have hp:(10:Int)^pre.length≤10^2:=by
    have:pre.length=0∨pre.length=1∨pre.length=2:=by omega
    rcases this with h | h | h<;>rw[h]<;>decide
   have hb:=hd;simp only[dc,aG,aU]at hb;have aea:n<100:=Int.lt_of_lt_of_le Es (by simpa using hp)
   have e0:IntKind.i64.wrap (IntKind.i64.wrap (10*n)+IntKind.i64.wrap (IntKind.u8.wrap ((c.toNat:Int) - 48)))=10*n+(c.toNat - 48:Int):=by
    rw[LS c hd,IntWalk.i64_in (10*n) (by omega),IntWalk.i64_in ((c.toNat:Int) - 48) (by omega),IntWalk.i64_in _ (by omega)]
   have e1:da n (c::rest)=da (10*n+(c.toNat - 48:Int)) rest:=rfl;have e2:(c::rest).all dc=rest.all dc:=by simp[hd]
   rw[e1,e2]at h1;rw[e2]at h2;refine hR _ (bd ?_ (ih (pre++[c]) (10*n+(c.toNat - 48:Int)) (by simp) (by omega) ?_ h1 h2))
   ·rw[e0,bu (by simp at hlen;omega)];simp only[ak,ag,ay]
    repeat' constructor
   ·simp only[ak,ag,ay,Int.pow_succ];omega
theorem uq(s:List UInt8)(J:ae):PC prog 211 [.s s] J (fun r J'=>r=.fu [.i .i64 (ahC s).1,.b (ahC s).2]∧J'=J):=by
 refine PC.intro func211 abY fun bz dH=>aB ?_;simp only[Wv,SS,seval]
 by_cases h1:s.length<1∨3<s.length∨s.getD 0 0=48
 ·have e:ahC s=(0,false):=by simp only[ahC,h1,aO]
  have e2:((decide ((s.length:Int)<1)||decide (3<(s.length:Int)))||(((s.getD 0 0).toNat:Int)==48))=true:=by
   rcases h1 with h | h | h
   ·simp;omega
   ·simp;omega
   ·rw[I0 (k:=48) h rfl];simp
  simp only[Int.reduceToNat,e2,W,seval];refine⟨fun h=>?_,aR (.inr rfl) rfl ⟨by rw[e];rfl,rfl⟩⟩;simp at h;omega
 ·have hl:¬ s.length<1∧¬ 3<s.length∧¬ s.getD 0 0=48:=by
   refine⟨fun h=>h1 (.inl h),fun h=>h1 (.inr (.inl h)),fun h=>h1 (.inr (.inr h))⟩
  have e2:((decide ((s.length:Int)<1)||decide (3<(s.length:Int)))||(((s.getD 0 0).toNat:Int)==48))=false:=by
   rw[nP (k:=48) hl.2.2 rfl];simp;omega
  simp only[e2,W,seval];refine⟨fun _=>by omega,?_⟩;refine cc.bd ?_ (s.length+1) (P1 s (by omega) s [] 0 rfl (cj _) (by decide) (fun ha=>?_) (fun ha=>?_))
  ·repeat' constructor
  ·simp only[JE];intros;simp only[W,seval];refine aR (.inr rfl) rfl ⟨?_,rfl⟩;have h3:=yA s 0 s.length rfl ha (cj _)
   have hp:(10:Int)^s.length≤10^3:=by
    have:s.length=1∨s.length=2∨s.length=3:=by omega
    rcases this with h | h | h<;>rw[h]<;>decide
   have h4:da 0 s≤999:=by omega
   have e:ahC s=(da 0 s,true):=by simp only[ahC,aw h1,ha,aO]
   rw[e];simp[one,h4]
  ·simp only[JE];intros;refine aR (.inr rfl) rfl ⟨?_,rfl⟩;have e:ahC s=(0,false):=by simp only[ahC,aw h1,ha];rfl
   rw[e];rfl
theorem S8(s:List UInt8)(J:ae):PC prog 158 [.s s] J (fun r J'=>r=.fu [.agg (gC s).1.ahq,.b (gC s).2]∧J'=J):=by
 refine PC.intro func158 acu fun bz dH=>aB ?_;have hlen:=zy (dH 0 _ rfl).1;simp only[W0,SS,seval];simp only[VV,seval];refine aC (CC s [47] _) rfl ?_;simp only[VV,seval];refine⟨fun hp=>?_,fun hp=>?_⟩
 ·have hl:1≤s.length:=by
   simp only[ahK,aG,aU]at hp;simpa using hp.1
  have e0:(s.drop 1).take (s.length - 1)=s.drop 1:=by
   rw[dz];simp
  refine⟨by omega,?_⟩;refine aC (yB (s.drop 1) 58 _) (by simp only[az,bD,VV,seval];rw[e0]) ?_;simp only[VV,seval];generalize hq:cutAt (s.drop 1) 58=q;obtain⟨a,b,f⟩:=q;refine cn (c:=false) (v:=.b false) (by simp only[VV,seval]<;>rfl) (nofun) rfl ?_;simp only[VV,seval];refine aC (uq a _) rfl ?_;simp only[VV,seval];cases f with
  | false =>
   have e:gC s=(⟨0,[],0⟩,false):=by unfold gC;simp only[hp,aO,hq];simp
   simp only[VV,seval];rw[e];exact bk bz (.inr rfl) (by simp only[RS,seval];rfl) (by simp[LW]) ⟨rfl,rfl⟩
  | true =>
   simp only[VV,seval];refine⟨fun h=>?_,fun h=>?_⟩
   ·have h:(ahC a).2=false:=by simpa using h
    have e:gC s=(⟨0,[],0⟩,false):=by unfold gC;simp only[hp,aO,hq];simp[h]
    rw[e];exact bk bz (.inr rfl) (by simp only[RS,seval];rfl) (by simp[LW]) ⟨rfl,rfl⟩
   ·have h:(ahC a).2=true:=by simpa using h
    have e:gC s=(⟨3,b,(ahC a).1⟩,ahz b):=by unfold gC;simp only[hp,aO,hq];simp[h]
    rw[e];refine aC (jv b _) rfl ?_;simp only[VV,seval];exact bk bz (.inr rfl) (by simp only[RS,seval];rfl) (by simp[LW]) ⟨rfl,rfl⟩
 ·refine aC (yB s 58 _) rfl ?_;simp only[VV,seval];generalize hq:cutAt s 58=q;obtain⟨a,b,f⟩:=q;refine cn (c:=true) (by simp only[VV,seval]<;>rfl) (fun h=>CA b [47] _) rfl ?_;simp only[VV,seval]
  have tail:∀ (ahr:Int) (content:List UInt8),ahr≠3→gC s=(if f&&(ahC a).2 then(⟨ahr,content,(ahC a).1⟩,if ahr=3 then ahz content else cP content)else(⟨0,[],0⟩,false)) →
    (((f=false)∨(ahC a).2=false)→gC s=(⟨0,[],0⟩,false))∧(f=true→(ahC a).2=true→gC s=(⟨ahr,content,(ahC a).1⟩,cP content)):=by
   intro ahr content hk e;rw[e];refine⟨?_,?_⟩
   ·rintro(h | h)<;>rw[h]<;>simp
   ·intro h1 h2;simp[h1,h2,hk]
  refine⟨fun hs=>?_,fun hs=>?_⟩
  ·have hb:1≤b.length:=by
    simp only[hasSuffix,aG,aU]at hs;simpa using hs.1
   have hbl:b.length<2^63:=by
    have:b=(cutAt s 58).2.1:=by rw[hq]
    have h2:b.length≤s.length:=by
     rw[this];simp only[cutAt];split<;>simp
    omega
   have e1:IntKind.i64.wrap ((b.length:Int) - 1)=((b.length - 1:Nat):Int):=by rw[IntWalk.i64_in _ (by omega)];omega
   have t:=tail 4 (b.take (b.length - 1)) (by decide) (by unfold gC;simp[hp,hq,hs]);simp only[e1,aM,VV,seval];refine⟨by omega,?_⟩;refine aC (uq a _) rfl ?_;simp only[VV,seval];cases f with
   | false =>
    simp only[VV,seval];rw[t.1 (.inl rfl)];exact bk bz (.inr rfl) (by simp only[RS,seval];rfl) (by simp[LW]) ⟨rfl,rfl⟩
   | true =>
    simp only[VV,seval];refine⟨fun h=>?_,fun h=>?_⟩
    ·have h:(ahC a).2=false:=by simpa using h
     rw[t.1 (.inr h)];exact bk bz (.inr rfl) (by simp only[RS,seval];rfl) (by simp[LW]) ⟨rfl,rfl⟩
    ·have h:(ahC a).2=true:=by simpa using h
     rw[t.2 rfl h];refine aC (lY _ _) rfl ?_;simp only[VV,seval];refine bk bz (.inr rfl) (by simp only[RS,seval];rfl) (by simp[LW]) ⟨rfl,rfl⟩
  ·have t:=tail 2 b (by decide) (by unfold gC;simp[hp,hq,hs]);refine aC (uq a _) rfl ?_;simp only[VV,seval];cases f with
   | false =>
    simp only[VV,seval];rw[t.1 (.inl rfl)];exact bk bz (.inr rfl) (by simp only[RS,seval];rfl) (by simp[LW]) ⟨rfl,rfl⟩
   | true =>
    simp only[VV,seval];refine⟨fun h=>?_,fun h=>?_⟩
    ·have h:(ahC a).2=false:=by simpa using h
     rw[t.1 (.inr h)];exact bk bz (.inr rfl) (by simp only[RS,seval];rfl) (by simp[LW]) ⟨rfl,rfl⟩
    ·have h:(ahC a).2=true:=by simpa using h
     rw[t.2 rfl h];refine aC (lY _ _) rfl ?_;simp only[VV,seval];refine bk bz (.inr rfl) (by simp only[RS,seval];rfl) (by simp[LW]) ⟨rfl,rfl⟩
theorem G0(s:List UInt8)(hs:s≠[])(J:ae):PC prog 99 [.s s] J (fun r J'=>r=.fu [.agg (aZ s).1.ahq,.i .i64 (aZ s).2.1,.b (aZ s).2.2]∧J'=J):=by
 refine PC.intro func99 c99 fun bz dH=>aB ?_;have hlen:=zy (dH 0 _ rfl).1;have hl:0<s.length:=dK.2 hs;have bnd:(0:Int)≤0∧(0:Int)<s.length:=by omega
 simp only[p99,SS,seval]
 by_cases c92:s.getD 0 0=92
 ·have e:aZ s=(⟨1,[(cH s).1],0⟩,(cH s).2.1,(cH s).2.2):=by simp only[aZ,c92,aO]
  rw[e];simp only[I0 (k:=92) c92 rfl,VV,seval,-Int.reduceLE];refine⟨bnd,?_⟩;refine aC (KM s _) rfl ?_;simp only[VV,seval];exact bk bz (.inr rfl) (by simp only[RS,seval];rfl) (by simp[LW]) ⟨rfl,rfl⟩
 have n92:=c92
 by_cases c60:s.getD 0 0=60
 ·simp only[nP (k:=92) c92 rfl,I0 (k:=60) c60 rfl,VV,seval,-Int.reduceLE];refine⟨bnd,bnd,?_⟩;refine aC (oJ s 62 _) rfl ?_;have hb:=jw s 62;simp only[VV,seval];refine⟨fun h=>?_,fun h=>?_⟩
  ·have h:Lib.indexByte s 62<0:=by simpa using h
   have e:aZ s=(kA,0,false):=by simp only[aZ];rw[aw c92,aI c60];simp only[h,aO,aJ]
   rw[e];exact bk bz (.inr rfl) (by simp only[RS,seval];rfl) (by simp[LW]) ⟨rfl,rfl⟩
  ·have h:¬ Lib.indexByte s 62<0:=by simpa using h
   have h1:=lu s 62 (by rw[c60];decide) h;have e:aZ s=((gC ((s.take (Lib.indexByte s 62).toNat).drop 1)).1,Lib.indexByte s 62+1,(gC ((s.take (Lib.indexByte s 62).toNat).drop 1)).2):=by simp only[aZ];rw[aw c92,aI c60];simp only[h,aO,aJ]
   rw[e];refine⟨by omega,?_⟩;have e2:(s.drop 1).take ((Lib.indexByte s 62).toNat - 1)=(s.take (Lib.indexByte s 62).toNat).drop 1:=by rw[Vf]
   refine aC (S8 _ _) (by simp only[az,bD,VV,seval];rw[e2]) ?_;simp only[It.ahq,VV,seval];refine bk bz (.inr rfl) (by simp only[RS,seval];rfl) (by simp[LW]) ⟨?_,rfl⟩;simp only[one,aF,aP];rw[IntWalk.i64_in _ (by omega)]
 by_cases kC:s.getD 0 0=123
 ·simp only[nP (k:=92) c92 rfl,nP (k:=60) c60 rfl,I0 (k:=123) kC rfl,VV,seval,-Int.reduceLE];refine⟨bnd,bnd,bnd,?_⟩;refine aC (oJ s 125 _) rfl ?_;have hb:=jw s 125;simp only[VV,seval]
  by_cases h:Lib.indexByte s 125<0
  ·have e:aZ s=(kA,0,false):=by simp only[aZ];rw[aw c92,aw c60,aI kC];simp only[h,K7,aO]
   have hd:decide (Lib.indexByte s 125<0)=true:=by simpa using h
   rw[e];simp only[hd,VV,seval];refine⟨nofun,?_⟩;refine cn (c:=false) (v:=.b false) (by simp only[VV,seval]<;>rfl) (nofun) rfl ?_;simp only[VV,seval];exact bk bz (.inr rfl) (by simp only[RS,seval];rfl) (by simp[LW]) ⟨rfl,rfl⟩
  ·have hd:decide (Lib.indexByte s 125<0)=false:=by simpa using h
   have h1:=lu s 125 (by rw[kC];decide) h;have e:aZ s=if ahz ((s.take (Lib.indexByte s 125).toNat).drop 1)=false then(kA,0,false)else(⟨5,(s.take (Lib.indexByte s 125).toNat).drop 1,0⟩,Lib.indexByte s 125+1,true):=by simp only[aZ];rw[aw c92,aw c60,aI kC];simp only[h,nL]
   have e2:(s.drop 1).take ((Lib.indexByte s 125).toNat - 1)=(s.take (Lib.indexByte s 125).toNat).drop 1:=by rw[Vf]
   rw[e];simp only[hd,e2,VV,seval];refine⟨by omega,?_⟩;refine cn (c:=true) (by simp only[VV,seval]<;>rfl) (fun _=>jv ((s.take (Lib.indexByte s 125).toNat).drop 1) _) rfl ?_;simp only[VV,seval];refine⟨fun h=>?_,fun h=>?_⟩
   ·have h:ahz ((s.take (Lib.indexByte s 125).toNat).drop 1)=false:=by simpa using h
    rw[aI h];exact bk bz (.inr rfl) (by simp only[RS,seval];rfl) (by simp[LW]) ⟨rfl,rfl⟩
   ·have h:¬ ahz ((s.take (Lib.indexByte s 125).toNat).drop 1)=false:=by simpa using h
    rw[aw h];simp only[e2,VV,seval];refine⟨by omega,?_⟩;refine bk bz (.inr rfl) (by simp only[RS,seval];rfl) (by simp[LW]) ⟨?_,rfl⟩;simp only[one,aF,aP];rw[IntWalk.i64_in _ (by omega)];rfl
 ·have e:aZ s=(⟨1,s.take 1,0⟩,1,oG (s.getD 0 0)):=by simp only[aZ,c92,c60,kC,aJ]
  rw[e];simp only[nP (k:=92) c92 rfl,nP (k:=60) c60 rfl,nP (k:=123) kC rfl,VV,seval,-Int.reduceLE];refine⟨bnd,bnd,bnd,by omega,bnd,?_⟩;refine aC (DK (s.getD 0 0) _) rfl ?_;simp only[VV,seval];exact bk bz (.inr rfl) (by simp only[RS,seval];rfl) (by simp[LW]) ⟨rfl,rfl⟩
def kM(n g1 g2:Nat)(s:Rd):ae :=
 [.map 3 61 (nY s.tags),.box 142 [.own (n+2) g1,.own (n+3) g2,.i .i64 s.len,.mp n],.row 61 3 32 g1 false (s.f.map It.ahq),.row 5 1 1 g2 false (dd s.aht)]
def Jv(n g1 g2:Nat)(s:Rd)(o:Ob)(x:It):ae :=
 [.map 3 61 (nY s.tags),.box 142 [.own (n+2) g1,.own (n+3) g2,.i .i64 s.len,.mp n],.row 61 3 32 g1 false (s.f.map It.ahq),.row 5 1 1 g2 false (dd s.aht),o,.box 61 [.i .i64 x.ahr,.s x.aht,.i .i64 x.id]]
theorem EC(s:Rd)(g1 g2:Nat)(hf:s.f.length<2^40)(J ext:ae):PC prog 101 [.ptr (J.length+1) 0] (J++(kM J.length g1 g2 s++ext)) (fun r J'=>r=.fu []∧∃ g1' g2',J'=J++(kM J.length g1' g2' (eR s)++ext)):=by
 refine PC.intro func101 acX fun bz dH=>aB ?_;simp only[Xw,SS,seval];simp only[kM,W,seval];simp only[dw,ku,W,seval];refine⟨fun h=>⟨?_,?_⟩,fun h=>?_⟩
 ·simp[maxLen];omega
 ·have h:0<s.aht.length:=by simpa using h
  have e:eR s=⟨s.f++[⟨1,s.aht,0⟩],[],s.len,s.tags⟩:=by simp[eR,h]
  have hr:s.f.map It.ahq++[[.i .i64 1,.s s.aht,.i .i64 0]]=(s.f++[(⟨1,s.aht,0⟩:It)]).map It.ahq:=by simp[It.ahq]
  rw[hr];refine fM (xs:=[]) (xs':=[]) (.inl rfl) rfl (Wk.Wa (id:=J.length+1) (j:=1) (idr:=J.length+3) (by simp only[W,seval];rfl) rfl (by simp only[W,seval];rfl)) rfl ⟨rfl,g1+1,g2+1,?_⟩;simp only[kM,e,W,seval];rfl
 ·have h:¬ 0<s.aht.length:=by simpa using h
  have e:eR s=s:=by simp[eR,h]
  rw[e];exact fM (xs:=[]) (.inl rfl) rfl (Wk.refl _ _) rfl ⟨rfl,g1,g2,rfl⟩
set_option maxHeartbeats 2000000 in
theorem Vc(s:Rd)(x:It)(g1 g2:Nat)(hf:s.f.length<2^40)(ht:s.aht.length+x.aht.length<2^40)(hl:s.len<2^40)(J:ae)(o:Ob):PC prog 100 [.ptr (J.length+1) 0,.agg x.ahq] (J++(kM J.length g1 g2 s++[o]))
  (fun r J'=>r=.i .i64 (iJ s x).1∧∃ g1' g2',J'=J++(kM J.length g1' g2' (iJ s x).2++[o])):=by
 refine PC.intro func100 acY fun bz dH=>?_;simp only[Xx,SS,seval];have hm:∀ t,cJ (J++(.map 3 61 (nY s.tags))::t) 0 (.mp J.length) (.i .i64 x.id)=dM 0 (.i .i64 x.id) (nY s.tags) 0:=fun t=>by simp only[cJ,gk,aq]
 refine cc.cut fun R hR=>?_;simp only[kM,It.ahq,bg,aW,W,seval];refine hR _ ?_;clear hR R;refine cc.cut fun R hR=>?_;simp only[W,seval];refine hR _ (cc.iS (fr':=(.ptr (J.length+1) 0::uu 2 (.ptr (J.length+5) 0::.i .i64 0::.b (tagged x)::uu 117 []))) ?_ ?_)
 rotate_left
 ·simp only[tagged]
  repeat' constructor
 clear hR R;have hbo:=KV bz (id:=J.length+4) (o:=o) (n:=J.length+5) (by rw[aH (by omega),cR];rfl) (by simp[kM])
 have abr:∀ (g1 g2:Nat) (s:Rd),bK (J++(kM J.length g1 g2 s++[o])):=fun g1 g2 s =>
  vH bz (au _) (by
   simp only[kM,lh,ag,ay,eA,uY,implies_true,fA,iH,bg,aW,qw];exact⟨by simp only[LW];omega,by cases o<;>exact hbo⟩)
 have abq:∀ (g1 g2:Nat) (s:Rd),bK (J++Jv J.length g1 g2 s o x):=fun g1 g2 s =>
  vH bz (by simp[kM,Jv]) (by
   simp only[Jv,lh,ag,ay,eA,uY,implies_true,fA,iH,qw];have abw:=hbo.mono (Nat.le_succ _);exact⟨by simp only[LW];omega,by cases o<;>exact abw,by simp only[LW]⟩)
 have fin:∀ {fr:List V} {n:Nat} (e:Int) (s':Rd) (g1' g2':Nat) {loc:ae},n≤J.length+5→iJ s x=(e,s')→fr.getD 4 .u=.i .i64 e→rM prog n [.t 4] (fun r J'=>r=.i .i64 (iJ s x).1∧∃ g1' g2',J'=J++(kM J.length g1' g2' (iJ s x).2++[o])) .ret ⟨fr,J++((kM J.length g1' g2' s'++[o])++loc)⟩:=by
  intro fr n e s' g1' g2' loc hn he hf;rw[← List.append_assoc];refine fM (xs:=[.i .i64 e]) (.inr rfl) (by simp only[kn,vQ,hf]) (Wk.Bc (by simpa[kM]using hn) (abr _ _ _) (eG.1 (by simp[LW]))) rfl ⟨by rw[he];rfl,g1',g2',by rw[he]⟩
 refine cc.cut fun R hR=>?_
 have yb:∀ {fr:List V} {loc:ae},oY fr (.ptr (J.length+1) 0::uu 2 (.ptr (J.length+5) 0::.i .i64 0::.b (tagged x)::uu 117 []))→¬ (tagged x&&tG s x)=true→R ⟨fr,J++(Jv J.length g1 g2 s o x++loc)⟩:=by
  intro fr loc hc qe;refine hR _ (cc.drop _ _ (by simp[kM,Jv]) (abq g1 g2 s) hc (by simp[LW,Jv]) ?_);clear hR R;refine cc.cut fun R hR=>?_;simp only[Jv,W,seval];refine hR _ ?_;clear hR R;refine cc.cut fun R hR=>?_;simp only[Jv,ah,dw,VV,seval]
  have Yh:∀ {fr:List V},oY fr (.ptr (J.length+1) 0::uu 2 (.ptr (J.length+5) 0::.i .i64 0::.b (tagged x)::uu 2 (.i .i64 ((s.f.length+(if 0<s.aht.length then 1 else 0):Nat):Int)::uu 114 [])))→R ⟨fr,J++Jv J.length g1 g2 s o x⟩:=by
   intro fr hc;refine hR _ (cc.iS ?_ hc);clear hR R;refine cc.cut fun R hR=>?_;simp only[Jv,ah,dw,VV,seval]
   have GG:∀ {fr:List V},oY fr (.ptr (J.length+1) 0::uu 2 (.ptr (J.length+5) 0::.i .i64 0::.b (tagged x)::uu 2 (.i .i64 ((jL s x:Nat):Int)::uu 114 [])))→R ⟨fr,J++Jv J.length g1 g2 s o x⟩:=by
    intro fr hc;refine hR _ (cc.iS ?_ hc);clear hR R;have hlw:IntKind.i64.wrap ((s.len:Int)+1)=((s.len+1:Nat):Int):=bu (by omega);refine cc.cut fun R hR=>?_;simp only[Jv,hlw,VV,seval];refine⟨fun h=>?_,fun h=>?_⟩
    ·have h1:512<jL s x∨1024<s.len+1:=by
      simp at h;omega
     have e:iJ s x=(3,s):=by simp only[iJ,qe,h1,aO];rfl
     exact fin 3 s g1 g2 (loc:=[_]) (by simp[kM]) e (by rfl)
    ·have h1:¬ (512<jL s x∨1024<s.len+1):=by
      simp at h;omega
     refine hR _ ?_;clear hR R;refine cc.cut fun R hR=>?_;simp only[hlw,VV,seval];refine hR _ ?_;clear hR R;refine cc.cut fun R hR=>?_;simp only[VV,seval];refine⟨fun hk=>⟨⟨by simp only[dw];omega,by simp only[dw,maxLen];omega⟩,?_⟩,fun hk=>?_⟩
     ·have hk:x.ahr=1:=by simpa using hk
      have e:iJ s x=(0,⟨s.f,s.aht++x.aht,s.len+1,s.tags⟩):=by simp only[iJ,qe,h1,hk,aO,aJ];rfl
      rw[gQ];exact fin 0 ⟨s.f,s.aht++x.aht,s.len+1,s.tags⟩ g1 (g2+1) (loc:=[_]) (by simp[kM]) e (by rfl)
     ·have hk:¬ x.ahr=1:=by simpa using hk
      have e:iJ s x=(0,sQ (eR (lO s x)) x):=by simp only[iJ,qe,h1,hk,aO,aJ];rfl
      refine hR _ (cc.iS (fr':=(.ptr (J.length+1) 0::uu 2 (.ptr (J.length+5) 0::.i .i64 0::.b (tagged x)::uu 117 []))) ?_ (by repeat' constructor));clear hR R;refine cc.cut fun R hR=>?_
      have qN:∀ {fr:List V},oY fr (.ptr (J.length+1) 0::uu 2 (.ptr (J.length+5) 0::.i .i64 0::uu 118 []))→R ⟨fr,J++Jv J.length g1 g2 (lO s x) o x⟩:=by
       intro fr hc;refine hR _ (cc.iS ?_ hc);clear hR R;refine cc.cut fun R hR=>?_;simp only[W,seval];refine db (EC (lO s x) g1 g2 hf J [o,.box 61 [.i .i64 x.ahr,.s x.aht,.i .i64 x.id]]) rfl ?_;rintro r J' ⟨rfl,g3,g4,rfl⟩;simp only[W,seval];refine hR _ (cc.iS (fr':=(.ptr (J.length+1) 0::uu 2 (.ptr (J.length+5) 0::.i .i64 0::uu 118 []))) ?_ (by repeat' constructor));clear hR R;refine aB ?_
       have hff:(eR (lO s x)).f.length≤s.f.length+1:=by
        simp only[eR];split<;>simp[lO]
       simp only[kM,VV,seval];refine⟨?_,?_⟩
       ·simp[maxLen];omega
       ·have hr:(eR (lO s x)).f.map It.ahq++[[.i .i64 x.ahr,.s x.aht,.i .i64 x.id]]=(sQ (eR (lO s x)) x).f.map It.ahq:=by simp[It.ahq,sQ]
        rw[hr];exact fin 0 (sQ (eR (lO s x)) x) (g3+1) g4 (loc:=[_]) (by simp[kM]) e (by rfl)
      cases ta:tagged x with
      | true =>
       rcases vm s.tags x.id with⟨h2,h3,h4⟩ | ⟨k,b,h2,h3,h4⟩
       all_goals
        have h5:nY (lO s x).tags=nY (eW s.tags x.id x):=by simp only[lO,ta,aO]
        simp only[ta,h3,cW,VV,seval];have h6:=h4 x;simp only[TJ,It.ahq]at h6;rw[h6,← h5];refine⟨by simp[V.nX,V.iR,V.cell,V.pure],?_⟩;refine qN (by repeat' constructor)
      | false =>
       simp only[ta,VV,seval];have:=qN (fr:=(.ptr (J.length+1) 0::uu 2 (.ptr (J.length+5) 0::.i .i64 0::.b false::uu 97 (.b false::uu 19 [])))) (by repeat' constructor);simp only[lO,ta]at this;exact this
   have Lo:IntKind.i64.wrap (((s.f.length+(if 0<s.aht.length then 1 else 0):Nat):Int)+1)=((s.f.length+(if 0<s.aht.length then 1 else 0)+1:Nat):Int):=bu (by split<;>omega);refine⟨fun h=>?_,fun h=>?_⟩
   ·have h1:x.ahr≠1∨s.aht.length=0:=by simpa using h
    have e:jL s x=s.f.length+(if 0<s.aht.length then 1 else 0)+1:=by simp only[jL,h1,aO]
    refine GG ?_;rw[Lo,e];repeat' constructor
   ·have h1:¬ (x.ahr≠1∨s.aht.length=0):=by simpa using h
    have e:jL s x=s.f.length+(if 0<s.aht.length then 1 else 0):=by simp only[jL,h1,aJ];rfl
    refine GG ?_;rw[e];repeat' constructor
  refine⟨fun h=>?_,fun h=>?_⟩
  ·have h1:0<s.aht.length:=by simpa using h
   refine Yh ?_;rw[bu (by omega),aI h1];repeat' constructor
  ·have h1:¬ 0<s.aht.length:=by simpa using h
   refine Yh ?_;rw[aw h1];repeat' constructor
 have aaJ:(tagged x&&tG s x)=true→iJ s x=(7,s):=fun h=>by simp[iJ,h]
 cases ta:tagged x with
 | false =>
  simp only[ta,VV,seval];exact yb (loc:=[]) (by rw[ta];repeat' constructor) (by simp[ta])
 | true =>
  rcases vm s.tags x.id with⟨h2,h3,h4⟩ | ⟨k,b,h2,h3,h4⟩
  ·simp only[ta,hm,h3,TJ,VV,seval];refine⟨by simp[V.nX],by simp[V.nX],cn (c:=false) (v:=.s []) (by simp only[VV,seval]<;>rfl) (nofun) rfl ?_⟩;simp only[VV,seval];refine yb (loc:=[_]) (by rw[ta];repeat' constructor) (by simp[tG,h2])
  ·simp only[ta,hm,h3,TJ,It.ahq,VV,seval];refine⟨by simp[V.nX],by simp[V.nX],cn (by simp only[VV,seval]<;>rfl) (fun _=>vT b.aht _) rfl ?_⟩;simp only[VV,seval];have bz:tG s x=(x.ahr != 3||b.ahr != 2||cG b.aht != x.aht):=by simp only[tG,h2]
   have hb:(!cG b.aht==x.aht)=(cG b.aht != x.aht):=rfl;rw[hb,← bz];refine⟨fun h=>?_,fun h=>?_⟩
   ·exact fin 7 s g1 g2 (loc:=[_,_]) (by simp[kM]) (aaJ (by simp[ta,h])) (by rfl)
   ·exact yb (loc:=[_]) (by rw[ta];repeat' constructor) (by simp[ta,h])
theorem KU{J:ae}(bz:bK J)(g1 g2:Nat)(r:Rd):bK (J++kM J.length g1 g2 r):=cv bz (by
 simp only[kM,lh,ag,ay,eA,uY,implies_true,fA,iH,qw];simp only[LW];omega)
theorem MT{J:ae}{K:Exit→St→Prop}(s:List UInt8)(bz:bK J)(hlen:s.length<2^39):
  ∀ (n:Nat) (rest pre:List UInt8) (r:Rd) (g1 g2:Nat),s=pre++rest→rest.length<n→r.ok →
  (∀ r',kO n r rest pre.length=((eR r').f,0,0)→r'.ok→∀ g1 g2,((fj 5 (fh (.ptr (J.length+1) 0) (fj 33 fo))) fun ZZ=>K (.exit 0) ⟨ZZ,J++kM J.length g1 g2 r'⟩)) →
  (∀ at' e,kO n r rest pre.length=([],at',e)→∀ loc,((fj 2 (fh (.nil) (fh (.i .i64 at') (fh (.i .i64 e) (fj 34 fo))))) fun ZZ=>K .ret ⟨ZZ,J++loc⟩)) →
  fJ J.length prog HS K n ⟨(.s s::uu 2 (.i .i64 pre.length::uu 1 (.ptr (J.length+1) 0::uu 33 []))),J++kM J.length g1 g2 r⟩
 | 0,rest,pre,r,g1,g2,he,hn,hr,h1,h2=>by omega
 | n+1,[],pre,r,g1,g2,he,hn,hr,h1,h2=>by
  have he:s=pre:=by simpa using he
  subst he;refine aD fun R hR=>?_;simp only[HS,W,seval];exact⟨fun h=>by simp at h,fun _=>h1 r rfl hr g1 g2 ..⟩
 | n+1,c::rest,pre,r,g1,g2,he,hn,hr,h1,h2=>by
  subst he;have hd:(pre++c::rest).drop pre.length=c::rest:=by simp
  have XQ:((pre++c::rest).drop pre.length).take ((pre++c::rest).length - pre.length)=c::rest:=by rw[hd,dz];simp
  have hel:=oP (s:=c::rest) (by simp);have zn:pre.length+(c::rest).length<2^39:=by rw[← List.length_append];exact hlen
  refine aD fun R hR=>?_;simp only[HS,W,seval];refine⟨fun _=>⟨by simp;omega,?_⟩,fun h=>by simp at h<;>omega⟩;refine aC (G0 (c::rest) (by simp) _) (by simp only[az,bD,aM,VV,seval];rw[XQ]) ?_;simp only[It.ahq,VV,seval];refine⟨fun h=>?_,fun h=>?_⟩
  ·have h:(aZ (c::rest)).2.2=false:=by simpa using h
   exact h2 pre.length 2 (by simp only[kO,h,aO]) ..
  ·have h:(aZ (c::rest)).2.2=true:=by simpa using h
   have hn1:=hel.2.2 h;have vV:=hel.1;have ok:=hr;obtain⟨hf,ht,hl⟩:=hr;have hff:r.f.length≤r.len:=by split at hf<;>omega
   refine db (Vc r (aZ (c::rest)).1 g1 g2 (by omega) (by omega) (by omega) J _) rfl ?_
   ·rintro v J' ⟨rfl,g3,g4,rfl⟩;simp only[VV,seval];refine⟨fun h3=>?_,fun h3=>?_⟩
    ·have h3:(iJ r (aZ (c::rest)).1).1≠0:=by simpa using h3
     exact h2 pre.length _ (by simp only[kO,h];rw[aw (by simp),aI h3]) ..
    ·have h3:(iJ r (aZ (c::rest)).1).1=0:=by simpa using h3
     have h4:=Mn ok hel.2.1 h3;obtain⟨k,hk⟩:∃ k:Nat,(aZ (c::rest)).2.1=k:=⟨(aZ (c::rest)).2.1.toNat,by omega⟩
     have e:kO (n+1) r (c::rest) pre.length=kO n (iJ r (aZ (c::rest)).1).2 ((c::rest).drop k) ((pre++(c::rest).take k).length:Nat):=by
      simp only[kO,h];rw[aw (by simp),aw (by simp[h3]),hk];simp only[aM,ak,bT];congr 1;omega
     rw[e]at h1 h2;refine hR _ (b7 _ _ (KU bz _ _ _) ?_ ?_ (MT _ bz hlen n ((c::rest).drop k) (pre++(c::rest).take k) (iJ r (aZ (c::rest)).1).2 g3 g4 (by rw[aY,gm]) (by simp only[cy];simp at hn ⊢;omega) h4 h1 h2))
     ·have e3:(((pre++(c::rest).take k).length:Nat):Int)=(pre.length:Int)+k:=by
       rw[ak,bT,show min k (c::rest).length=k by omega];omega
      rw[hk,IntWalk.i64_in _ (by omega),e3]
      repeat' constructor
     ·simp only[LW];simp[kM]
theorem Mm{n:Nat}{xs:List V}{J:ae}:Wk prog n xs (J++[.map 3 61 [],.box 142 [.nil,.nil,.i .i64 0,.mp J.length]]) xs (J++kM J.length 0 0 xA):=by
 have h1:=Wk.yy (P:=prog) (n:=n) (xs:=xs) (id:=J.length+1) (j:=0) (J:=J++[.map 3 61 [],.box 142 [.nil,.nil,.i .i64 0,.mp J.length]]) Bo (by simp only[W,seval];rfl) rfl;simp only[W,seval]at h1;have h2:=Wk.yy (P:=prog) (n:=n) (xs:=xs) (id:=J.length+1) (j:=1) (J:=J++[.map 3 61 [],.box 142 [.own (J.length+2) 0,.nil,.i .i64 0,.mp J.length],.row 61 3 32 0 false []]) LX (by simp only[W,seval];rfl) rfl;simp only[W,seval]at h2;exact h1.trans h2
theorem ju(s:List UInt8)(hlen:s.length<2^39)(J:ae):PC prog 45 [.s s] J (fun r J'=>r=.fu [.sl 3 ((parse s).1.map It.ahq),.i .i64 (parse s).2.1,.i .i64 (parse s).2.2]∧J'=J):=by
 refine PC.intro func45 c45 fun bz dH=>aB ?_;simp only[p45,SS,seval];simp only[VV,seval];have e0:parse s=kO (s.length+1) xA s (([]:List UInt8).length:Nat):=rfl;refine cc.wk (Mm.trans (Wk.iS (ys:=(.s s::uu 2 (.i .i64 (([]:List UInt8).length:Nat)::uu 1 (.ptr (J.length+1) 0::uu 33 [])))) (by repeat' constructor))) (cc.wy (s.length+1) (MT s bz hlen (s.length+1) s [] xA 0 0 rfl (by omega) ⟨by simp[xA],by simp[xA],by simp[xA]⟩ ?_ ?_))
 ·intro r' hp gU g1 g2;simp only[JE];intros;simp only[W,seval];refine db (EC r' g1 g2 (by have:=gU.f;have:=gU.len;split at*<;> omega) J []) (by simp[ev]) ?_;rintro r J' ⟨rfl,g3,g4,rfl⟩;simp only[kM,bV,W,seval];refine pO 2 bz (.inr rfl) rfl rfl ?_ ?_
  ·simp[fz,rf,eQ,vo,PX]
  ·rw[e0,hp];simp[fz,rf,one]
 ·intro at' e hp loc;simp only[JE];intros;simp only[W,seval];refine sN bz (.inr rfl) rfl (ys:=[.sl 3 [],.i .i64 at',.i .i64 e]) (.cons (.nil _) (.cons (.refl _) (.cons (.refl _) .nil))) (by simp[LW]) ⟨?_,rfl⟩;rw[e0,hp];rfl
end Go.Proofs.Tryz

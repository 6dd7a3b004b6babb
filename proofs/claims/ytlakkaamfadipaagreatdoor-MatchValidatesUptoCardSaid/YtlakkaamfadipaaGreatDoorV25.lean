/- A part of a proof; the claim's last text says of what. -/
import Derived.Test.YtlakkaamfadipaaGreatDoorV24
set_option linter.all false

namespace Go.Proofs.Tryz
open Go Go.Pm Go.Bt
theorem AJ(b:Bool)(n:Int):(b&&decide (1≤n)&&decide (n≤999))=!(!b||decide (n<1)||decide (999<n)):=by
 rw[df];simp[Int.not_lt]
theorem Qg{J:ae}{K:Exit→St→Prop}(its:List It)(x:It)(bz:bK J)(hlen:its.length<2^63):∀ (rest pre:List It),its=pre++rest →
  ((rest.all fun y=>!dB x y)=true→((fj 114 fo) fun ZZ=>K (.exit 1) ⟨ZZ,J++[.box 61 x.ahq]⟩))→((rest.all fun y=>!dB x y)=false→∀ loc,((fj 4 (fh (.i .i64 7) (fj 109 fo))) fun ZZ=>K .ret ⟨ZZ,J++(.box 61 x.ahq::loc)⟩)) →
  fJ J.length prog um K (rest.length+1) ⟨(.sl 3 (its.map It.ahq)::uu 2 (.ptr J.length 0::uu 75 (.i .i64 its.length::.i .i64 pre.length::uu 33 []))),J++[.box 61 x.ahq]⟩:=by
 intro rest
 induction rest with
 | nil =>
  intro pre he h1 h2;have he:its=pre:=by simpa using he
  subst he;refine aD fun R hR=>?_;simp only[um,VV,seval];exact⟨fun h=>by simp at h,fun _=>h1 rfl ..⟩
 | cons y rest ih =>
  intro pre he h1 h2;subst he
  have hw:IntKind.i64.wrap ((pre.length:Int)+1)=(((pre++[y]).length:Nat):Int):=by
   rw[bu (by simp at hlen;omega)];simp
  have next:dB x y=false→∀ {loc:ae} {R:St→Prop} {fr:List V},(∀ st',fJ J.length prog um K (rest.length+1) st'→R st') →
    oY fr (.sl 3 ((pre++y::rest).map It.ahq)::uu 2 (.ptr J.length 0::uu 75 (.i .i64 (pre++y::rest).length::.i .i64 (IntKind.i64.wrap ((pre.length:Int)+1))::uu 33 [])))→R ⟨fr,J++(.box 61 x.ahq::loc)⟩:=by
   intro hf loc R fr hR hc;rw[hw]at hc;have e:((y::rest).all fun y=>!dB x y)=rest.all fun y=>!dB x y:=by simp[hf]
   rw[e]at h1 h2;refine hR _ (b7 [_] loc (cv bz (by simp only[lh,It.ahq,LW];simp)) hc ?_ (ih (pre++[y]) (by simp) h1 h2));simp only[LW,ag,ay,bo];omega
  refine aD fun R hR=>?_;simp only[um,It.ahq,VV,seval];refine⟨fun _=>⟨by simp;omega,?_⟩,fun h=>by simp at h<;>omega⟩;refine aC (rN y _) rfl ?_;simp only[VV,seval];have e1:dB x y=(!(!bG y||y.id != x.id)&&(x.ahr != 3||y.ahr != 2||!(cG y.aht==x.aht))):=rfl;refine⟨fun h=>?_,fun h=>?_⟩
  ·refine next (by rw[e1,h];rfl) hR ?_
   repeat' constructor
  ·refine cn (by simp only[VV,seval]<;>rfl) (fun _=>nU y.aht _) rfl ?_;simp only[VV,seval];refine⟨fun h3=>?_,fun h3=>?_⟩
   ·have hb:dB x y=true:=by rw[e1,h];simpa[bne]using h3
    exact h2 (by simp[hb]) _ ..
   ·have hb:dB x y=false:=by rw[e1,h];simpa[bne]using h3
    refine next hb hR ?_
    repeat' constructor
set_option maxRecDepth 4000 in
theorem xC(before:List It)(x:It)(J:ae):PC prog 103 [.sl 3 (before.map It.ahq),.agg x.ahq] J (fun r J'=>r=.i .i64 (dY before x)∧J'=J):=by
 refine PC.intro func103 acV fun bz dH=>aB ?_;have hlen:=nO (dH 0 _ rfl).1;rw[ah]at hlen;simp only[Xu,SS,seval]
 have loop:∀ {fr:List V},bB before.getLast? x=true→bG x=true→oY fr (.sl 3 (before.map It.ahq)::uu 2 (.ptr J.length 0::uu 75 (.i .i64 before.length::.i .i64 ((0:Nat):Int)::uu 33 []))) →
   cc J.length prog (.loop um) (yS 1 (Jf (wq J.length prog (.seq (.ax [] [⟨some 4,[],.aT (.c (.i .i64 0))⟩]) .ret) (rM prog J.length [.t 4] fun r J'=>r=.i .i64 (dY before x)∧J'=J)) (rM prog J.length [.t 4] fun r J'=>r=.i .i64 (dY before x)∧J'=J)))
    ⟨fr,J++[.box 61 x.ahq]⟩:=by
  intro fr hf ht hc;refine cc.bd hc (before.length+1) (Qg before x bz hlen before [] rfl (fun ha=>?_) (fun ha=>?_))
  ·simp only[JE];intros;simp only[VV,seval];refine bk bz (.inr rfl) (by simp only[RS,seval];rfl) (by simp[LW]) ⟨?_,rfl⟩;have LA:fits before x=true:=ha;simp[Pm.one,dY,hf,ht,LA]
  ·simp only[JE];intros;simp only[VV,seval];refine bk bz (.inr rfl) (by simp only[RS,seval];rfl) (by simp[LW]) ⟨?_,rfl⟩;have LA:fits before x=false:=ha;simp[Pm.one,dY,hf,ht,LA]
 have early:bG x=false→dY before x=if bB before.getLast? x=false then 1 else 0:=by
  intro h;simp[dY,h]
 by_cases k1:x.ahr=1
 ·have hnt:bG x=false:=by simp[bG,k1]
  rw[early hnt];rcases fb before with hb | ⟨b',y,hb⟩
  ·subst hb;have e0:decide ((0:Int)<(([]:List V).length:Int))=false:=rfl;simp only[It.ahq,k1,bD,e0,VV,seval];refine⟨fun h=>by simp at h,.i .i64 0,fun h=>by simp at h,?_⟩;simp only[VV,seval];refine⟨fun h=>?_,fun h=>?_⟩ <;>
   ·refine bk bz (.inr rfl) (by simp only[RS,seval];rfl) (by simp[LW]) ⟨?_,rfl⟩;have e2:bB ([]:List It).getLast? x=!(x.aht==[]||x.id != 0):=by simp[bB,k1,bne]
    rw[e2,h];rfl
  ·rw[fc]at hb;subst hb
   have hp:IntKind.i64.wrap (((b'++[y]).length:Int) - 1)=b'.length:=by
    have:(b'++[y]).length<2^63:=hlen;rw[IntWalk.i64_in _ (by simp at this ⊢;omega)];simp
   have eH:fw (List.map It.ahq (b'++[y])) b'.length 0=some (.i .i64 y.ahr):=by
    rw[oU];rfl
   have e0:decide ((0:Int)<((List.map It.ahq (b'++[y])).length:Int))=true:=by simp
   have e2:bB (b'++[y]).getLast? x=!((x.aht==[]||x.id != 0)||y.ahr==1):=by simp[bB,k1,bne]
   rw[e2];simp only[It.ahq,k1,VV,seval];simp only[e0,ah,hp,aM,eH,VV,seval];refine⟨fun _=>by simp;omega,.i .i64 y.ahr,fun _=>?_,?_⟩
   ·rfl
   have e3:decide ((0:Int)<((b'++[y]).length:Int))=true:=by simp
   simp only[e3,VV,seval];refine⟨fun h=>?_,fun h=>?_⟩ <;>
   ·refine bk bz (.inr rfl) (by simp only[RS,seval];rfl) (by simp[LW]) ⟨?_,rfl⟩;rw[h];rfl
 by_cases k5:x.ahr=5
 ·have hnt:bG x=false:=by simp[bG,k5]
  rw[early hnt];have e2:bB before.getLast? x=!(!ahz x.aht||x.id != 0):=by simp[bB,k5,bne]
  rw[e2];simp only[It.ahq,k5,VV,seval];refine aC (lB _ _) rfl ?_;simp only[VV,seval];refine⟨fun h=>?_,fun h=>?_⟩ <;>
  ·refine bk bz (.inr rfl) (by simp only[RS,seval];rfl) (by simp[LW]) ⟨?_,rfl⟩;rw[h];rfl
 have bad:bB before.getLast? x=false→dY before x=1:=fun h=>by simp[dY,h]
 have skip:bB before.getLast? x=true→bG x=false→dY before x=0:=fun h h2=>by simp[dY,h,h2]
 by_cases k24:x.ahr=2∨x.ahr=4
 ·have ht:bG x=true:=by simp[bG];rcases k24 with h | h<;>simp[h]
  have e2:bB before.getLast? x=!(!cP x.aht||decide (x.id<1)||decide (999<x.id)):=by
   rw[← AJ];simp[bB,k24,k1,k5]
  rcases k24 with k | k
  ·rw[It.ahq,k]at loop;simp only[It.ahq,k,VV,seval];refine aC (mz _ _) rfl ?_;simp only[VV,seval];refine⟨fun h=>?_,fun h=>loop (by rw[e2,h];rfl) ht (by simp only[ah,jE];repeat' constructor)⟩;refine bk bz (.inr rfl) (by simp only[RS,seval];rfl) (by simp[LW]) ⟨?_,rfl⟩;rw[bad (by rw[e2,h];rfl)];rfl
  ·rw[It.ahq,k]at loop;simp only[It.ahq,k,VV,seval];refine aC (mz _ _) rfl ?_;simp only[VV,seval];refine⟨fun h=>?_,fun h=>loop (by rw[e2,h];rfl) ht (by simp only[ah,jE];repeat' constructor)⟩;refine bk bz (.inr rfl) (by simp only[RS,seval];rfl) (by simp[LW]) ⟨?_,rfl⟩;rw[bad (by rw[e2,h];rfl)];rfl
 by_cases k3:x.ahr=3
 ·have ht:bG x=true:=by simp[bG,k3]
  have e2:bB before.getLast? x=!(!ahz x.aht||decide (x.id<1)||decide (999<x.id)):=by
   rw[← AJ];simp[bB,k3]
  rw[It.ahq,k3]at loop;simp only[It.ahq,k3,VV,seval];refine aC (lB _ _) rfl ?_;simp only[VV,seval];refine⟨fun h=>?_,fun h=>loop (by rw[e2,h];rfl) ht (by simp only[ah,jE];repeat' constructor)⟩;refine bk bz (.inr rfl) (by simp only[RS,seval];rfl) (by simp[LW]) ⟨?_,rfl⟩;rw[bad (by rw[e2,h];rfl)];rfl
 ·have n1:(x.ahr==1)=false:=by simpa using k1
  have n2:(x.ahr==2)=false:=by simp;omega
  have n3:(x.ahr==3)=false:=by simpa using k3
  have n4:(x.ahr==4)=false:=by simp;omega
  have n5:(x.ahr==5)=false:=by simpa using k5
  have e2:bB before.getLast? x=false:=by simp[bB,k1,k24,k3,k5]
  rw[bad e2];simp only[It.ahq,n1,n2,n3,n4,n5,VV,seval];exact lA bz (by rfl) (by simp[LW])
theorem TD{J:ae}{K:Exit→St→Prop}(its:List It)(bz:bK J)(hlen:its.length<2^63):∀ (rest pre:List It),its=pre++rest →
  (bh pre rest=0→((fj 30 fo) fun ZZ=>K (.exit 0) ⟨ZZ,J⟩))→(bh pre rest≠0→((fj 2 (fh (.i .i64 (bh pre rest)) (fj 27 fo))) fun ZZ=>K .ret ⟨ZZ,J⟩)) →
  fJ J.length prog HR K (rest.length+1) ⟨(.sl 3 (its.map It.ahq)::uu 13 (.i .i64 its.length::.i .i64 pre.length::uu 14 [])),J⟩:=by
 intro rest
 induction rest with
 | nil =>
  intro pre he h1 h2;have he:its=pre:=by simpa using he
  subst he;refine aD fun R hR=>?_;simp only[HR,VV,seval];exact⟨fun h=>by simp at h,fun _=>h1 rfl ..⟩
 | cons y rest ih =>
  intro pre he h1 h2;subst he;refine aD fun R hR=>?_;have ht:List.take pre.length (List.map It.ahq (pre++y::rest))=pre.map It.ahq:=by simp
  simp only[HR,It.ahq,VV,seval];refine⟨fun _=>?_,fun h=>by simp at h;omega⟩;refine⟨by simp;omega,by simp;omega,?_⟩;rw[ht];refine aC (xC pre y _) rfl ?_;simp only[VV,seval];refine⟨fun h=>?_,fun h=>?_⟩
  ·have h':dY pre y≠0:=by simpa using h
   have e:bh pre (y::rest)=dY pre y:=by rw[p8,aI h']
   rw[e]at h2;exact h2 h' ..
  ·have h':dY pre y=0:=by simpa using h
   have e:bh pre (y::rest)=bh (pre++[y]) rest:=by rw[p8,h'];simp
   rw[e]at h1 h2;refine hR _ (bd ?_ (ih (pre++[y]) (by simp) h1 h2));rw[bu (by simp at hlen;omega)];simp only[ak,ag,ay]
   repeat' constructor
theorem zI(its:List It)(J:ae):PC prog 46 [.sl 3 (its.map It.ahq)] J (fun r J'=>r=.i .i64 (bW its)∧J'=J):=by
 refine PC.intro func46 c46 fun bz dH=>aB ?_;have hlen:=nO (dH 0 _ rfl).1;rw[ah]at hlen;simp only[p46,SS,seval];simp only[ah,VV,seval];refine cn (by simp only[VV,seval]<;>rfl) (fun _=>DF its _) rfl ?_;simp only[ah,VV,seval];refine⟨fun h=>?_,fun h=>?_⟩
 ·refine aR (.inr rfl) (by simp only[RS,seval];rfl) ⟨?_,rfl⟩;simp at h;have:512<its.length∨1024<dA 0 its:=by omega
  simp only[Pm.one,bW,this,aO,aF,aP]
 ·simp at h;have hn:¬ (512<its.length∨1024<dA 0 its):=by omega
  refine cc.bd ?_ (its.length+1) (TD its bz hlen its [] rfl (fun h1=>?_) (fun h1=>?_))
  ·simp only[VV,seval]
   repeat' constructor
  ·simp only[JE];intros;simp only[VV,seval];exact aR (.inr rfl) (by simp only[RS,seval];rfl) ⟨by simp only[Pm.one,bW,hn,h1,aJ,aF,aP],rfl⟩
  ·simp only[JE];intros;simp only[VV,seval];exact aR (.inr rfl) (by simp only[RS,seval];rfl) ⟨by simp only[Pm.one,bW,hn,aJ,aF,aP],rfl⟩
theorem Fq:∀ c:UInt8,((((c.toNat:Int)==92||(c.toNat:Int)==60)||(c.toNat:Int)==123)=true→dO c=[92,c]) ∧
  ((((c.toNat:Int)==92||(c.toNat:Int)==60)||(c.toNat:Int)==123)=false→(((c.toNat:Int)==10)=true→dO c=[92,110]) ∧
  (((c.toNat:Int)==10)=false→(((c.toNat:Int)==9)=true→dO c=[92,116]) ∧
  (((c.toNat:Int)==9)=false→(((c.toNat:Int)==13||dD c==1)=true→dO c=[92,120,gq (c.toNat / 16),gq (c.toNat % 16)]) ∧
  (((c.toNat:Int)==13||dD c==1)=false→dO c=[c])))):=fK (by decide +kernel)
theorem Ue:∀ c:UInt8,(0≤IntKind.u8.wrap ((c.toNat:Int).tdiv 16)∧IntKind.u8.wrap ((c.toNat:Int).tdiv 16)<((16:Nat):Int))∧(0≤(c.toNat:Int).tmod 16∧(c.toNat:Int).tmod 16<((16:Nat):Int)) ∧
  ([48,49,50,51,52,53,54,55,56,57,97,98,99,100,101,102]:List UInt8).getD (IntKind.u8.wrap ((c.toNat:Int).tdiv 16)).toNat 0=gq (c.toNat / 16) ∧
  ([48,49,50,51,52,53,54,55,56,57,97,98,99,100,101,102]:List UInt8).getD ((c.toNat:Int).tmod 16).toNat 0=gq (c.toNat % 16):=fK (by decide +kernel)
theorem BE(c:UInt8)(J:ae):PC prog 164 [.i .u8 c.toNat] J (fun r J'=>r=.s (dO c)∧J'=J):=by
 refine PC.intro func164 acn fun bz dH=>aB ?_;obtain⟨w1,w2⟩:=Fq c;simp only[WU,SS,seval];simp only[VV,seval];refine⟨fun h1=>⟨by decide,?_⟩,fun h1=>⟨fun h2=>?_,fun h2=>⟨fun h3=>?_,fun h3=>?_⟩⟩⟩
 ·exact aR (.inr rfl) (by simp only[RS,seval];rfl) ⟨by rw[w1 h1];rfl,rfl⟩
 ·exact aR (.inr rfl) (by simp only[RS,seval];rfl) ⟨by rw[(w2 h1).1 h2];rfl,rfl⟩
 ·exact aR (.inr rfl) (by simp only[RS,seval];rfl) ⟨by rw[((w2 h1).2 h2).1 h3];rfl,rfl⟩
 ·have w5:=((w2 h1).2 h2).2 h3;refine cn (by simp only[VV,seval]<;>rfl) (fun _=>FY c _) rfl ?_;simp only[VV,Int.reduceBEq,Int.reduceBNe,Nat.reduceAdd,Nat.reduceSub,Nat.reduceLeDiff,Nat.reduceEqDiff,Int.reduceToNat,reduceIte,reduceCtorEq];obtain⟨x1,x2,x3,x4⟩:=Ue c;refine⟨fun h4=>⟨by decide,x1,by decide,x2,by decide,?_⟩,fun h4=>?_⟩
  ·refine aR (.inr rfl) (by simp only[RS,seval];rfl) ⟨?_,rfl⟩;rw[w5.1 h4,← x3,← x4];rfl
  ·exact aR (.inr rfl) (by simp only[RS,seval];rfl) ⟨by rw[w5.2 h4];rfl,rfl⟩
theorem XA(c:UInt8):((c.toNat:Int) != 62)=(c != 62):=by revert c;exact fK (by decide +kernel)
theorem Ry(c:UInt8):(decide (48≤(c.toNat:Int))&&decide ((c.toNat:Int)≤57))=dc c:=by revert c;exact fK (by decide +kernel)
theorem Oi{pre:List UInt8}{c:UInt8}(hp:∀ c∈pre,dc c=true)(hl:pre.length≤4)(hc:dc c=true):
  IntKind.i64.wrap (IntKind.i64.wrap (10*da 0 pre)+IntKind.i64.wrap (IntKind.u8.wrap ((c.toNat:Int) - 48)))=da 0 (pre++[c]):=by
 have h:=yA pre 0 pre.length rfl (bU.2 hp) (cj 0)
 have C0:(10:Int)^pre.length≤10^4:=by
  have:pre.length=0∨pre.length=1∨pre.length=2∨pre.length=3∨pre.length=4:=by omega
  rcases this with h | h | h | h | h<;>rw[h]<;>decide
 simp only[dc,aG,aU]at hc;have e:IntKind.u8.wrap ((c.toNat:Int) - 48)=(c.toNat:Int) - 48:=IntWalk.u8_in _ (by omega);have h2:da 0 pre<10000:=by omega
 rw[e,IntWalk.i64_in (10*da 0 pre) (by omega),IntWalk.i64_in ((c.toNat:Int) - 48) (by omega),IntWalk.i64_in _ (by omega)];simp[da]
theorem Fu{pre rest:List UInt8}(hp:∀ c∈pre,dc c=true):((pre++rest).takeWhile dc).length=pre.length+(rest.takeWhile dc).length:=by
 rw[List.takeWhile_append_of_pos hp,ak]
set_option maxRecDepth 4000 in
theorem J1{n:Nat}{J:ae}{K:Exit→St→Prop}(A:V)(s:List UInt8)(hlen:s.length<2^62):∀ (rest pre:List UInt8),s=pre++rest →
  (((fh (.s s) (fj 1 (fh (A) (fj 1 (fh (.i .i64 ((pre.length+(rest.takeWhile fun c=>c != 62).length:Nat):Int)) (fj 134 fo)))))) fun ZZ=>K (.exit 0) ⟨ZZ,J⟩)) →
  fJ n prog B0 K (rest.length+1) ⟨(.s s::uu 1 (A::uu 1 (.i .i64 pre.length::uu 134 []))),J⟩:=by
 intro rest
 induction rest with
 | nil =>
  intro pre he h1;have he:s=pre:=by simpa using he
  subst he;have e0:decide ((s.length:Int)<(s.length:Int))=false:=by simp
  simp only[List.takeWhile_nil,ay,dm]at h1;refine aD fun R hR=>?_;simp only[B0,e0,VV,seval];exact⟨nofun,h1 ..⟩
 | cons c rest ih =>
  intro pre he h1;subst he;have e0:decide ((pre.length:Int)<((pre++c::rest).length:Int))=true:=by simp;omega
  refine aD fun R hR=>?_;simp only[B0,e0,VV,seval];refine⟨by simp;omega,fun hc=>?_,fun hc=>?_⟩
  ·have zo:(c != 62)=true:=by rw[← XA];exact hc
   have e2:pre.length+((c::rest).takeWhile fun c=>c != 62).length=(pre++[c]).length+(rest.takeWhile fun c=>c != 62).length:=by
    rw[fV,aI zo];simp;omega
   rw[e2]at h1;refine hR _ (bd ?_ (ih (pre++[c]) (by simp) h1));rw[bu (by simp at hlen;omega)];simp only[ak,ag,ay]
   repeat' constructor
  ·have zo:¬ (c != 62)=true:=by rw[← XA,hc];simp
   have e2:pre.length+((c::rest).takeWhile fun c=>c != 62).length=pre.length:=by
    rw[fV,aw zo];simp
   rw[e2]at h1;exact h1 ..
set_option maxRecDepth 4000 in
theorem J0{n:Nat}{J:ae}{K:Exit→St→Prop}(A B C:V)(t:List UInt8)(hlen:t.length<2^62):∀ (m:Nat) (pre rest:List UInt8),t=pre++rest→pre.length+m=4→(∀ c∈pre,dc c=true) →
  (∀ k:Nat,k=min 4 (t.takeWhile dc).length→((fj 2 (fh (A) (fj 1 (fh (B) (fh (.s t) (fh (C) (fh (.i .i64 (da 0 (t.take k))) (fh (.i .i64 k) (fj 130 fo))))))))) fun ZZ=>K (.exit 2) ⟨ZZ,J⟩)) →
  fJ n prog xN K (m+1) ⟨(uu 2 (A::uu 1 (B::.s t::C::.i .i64 (da 0 pre)::.i .i64 pre.length::uu 130 []))),J⟩:=by
 intro m
 induction m with
 | zero =>
  intro pre rest he hm hp h1;subst he;have e1:decide ((pre.length:Int)<4)=false:=by simp;omega
  refine aD fun R hR=>?_;simp only[xN,e1,VV,seval];have:=h1 pre.length (by rw[Fu hp];omega);rw[lf]at this;exact⟨nofun,nofun,this ..⟩
 | succ m ih =>
  intro pre rest he hm hp h1;subst he;have e1:decide ((pre.length:Int)<4)=true:=by simp;omega
  cases rest with
  | nil =>
   have e0:decide ((pre.length:Int)<(pre.length:Int))=false:=by simp
   have h2:=h1 pre.length (by rw[Fu hp];simp;omega);rw[lf]at h2;clear h1 ih;simp only[bV]at h2 ⊢;refine aD fun R hR=>?_;simp only[xN,e0,e1,VV,seval];exact⟨nofun,nofun,h2 ..⟩
  | cons c rest =>
   have e0:decide ((pre.length:Int)<((pre++c::rest).length:Int))=true:=by simp;omega
   refine aD fun R hR=>?_;simp only[xN,e0,e1,VV,seval];have hb:(0:Int)≤(pre.length:Int)∧(pre.length:Int)<((pre++c::rest).length:Int):=by simp;omega
   rw[Ry];refine⟨hb,fun _=>hb,fun hc=>⟨hb,?_⟩,fun hc=>?_⟩
   ·rw[Oi hp (by omega) hc]
    refine hR _ (bd ?_ (ih (pre++[c]) rest (by simp) (by simp;omega) (by
     intro x hx;rcases bP.1 hx with hx | hx
     ·exact hp x hx
     ·simp only[bA,eA,sf]at hx;subst hx;exact hc) h1))
    rw[bu (by omega)];simp only[ak,ag,ay]
    repeat' constructor
   ·have:=h1 pre.length (by rw[Fu hp,fV,aw (by rw[hc];simp)];simp;omega);rw[lf]at this;exact this ..
theorem Ng(c:UInt8):∀ l:List UInt8,Lib.indexByte l c=if(l.takeWhile fun x=>x != c).length<l.length then((l.takeWhile fun x=>x != c).length:Int)else -1
 | []=>by simp[Lib.indexByte]
 | a::l=>by
  by_cases ha:a=c
  ·subst ha;simp[Lib.indexByte]
  ·have Yz:(a==c)=false:=by simpa using ha
   have ha3:(a != c)=true:=by simpa using ha
   have ih:=Ng c l;simp only[Lib.indexByte,Yz,aA,aJ,fV,ha3,aO,ag];generalize (l.takeWhile fun x=>x != c).length=tw at ih
   by_cases h:tw<l.length
   ·rw[aI h]at ih;have e:((tw:Int) == -1)=false:=by rw[cT];omega
    rw[ih,aI (show tw+1<l.length+1 by omega),e];rfl
   ·rw[aw h]at ih;rw[ih,aw (show ¬ tw+1<l.length+1 by omega)];rfl
theorem FM(rest:List UInt8):gV (60::rest)=if(rest.takeWhile fun x=>x != 62).length<rest.length then
  (if(By (rest.take (rest.takeWhile fun x=>x != 62).length)).2=true then((By (rest.take (rest.takeWhile fun x=>x != 62).length)).1,((rest.takeWhile fun x=>x != 62).length:Int)+2)else(kA,0))else(kA,0):=by
 have hi:=Ng 62 (60::rest);simp only[fV,show((60:UInt8) != 62)=true from rfl,aO,ag]at hi;rw[Jn rfl]
 by_cases h:(rest.takeWhile fun x=>x != 62).length<rest.length
 ·rw[aI (by omega)]at hi;rw[hi,aI h,aw (by omega)]
  have e:((60::rest).take (((rest.takeWhile fun x=>x != 62).length+1:Nat):Int).toNat).drop 1=rest.take (rest.takeWhile fun x=>x != 62).length:=by
   rw[aM,eC];rfl
  rw[e];congr 2
 ·rw[aw (by omega)]at hi;rw[hi,aw h,aI (by decide)]
theorem u47(a:UInt8):((a.toNat:Int)==47)=(a==47):=by revert a;exact fK (by decide +kernel)
theorem u48(a:UInt8):((a.toNat:Int)==48)=(a==48):=by revert a;exact fK (by decide +kernel)
theorem u58(a:UInt8):((a.toNat:Int) != 58)=(a != 58):=by revert a;exact fK (by decide +kernel)
theorem Wb{t:List UInt8}(h:t≠[]):ahK t [47]=(((t.getD 0 0).toNat:Int)==47):=by
 cases t with
 | nil=>exact absurd rfl h
 | cons a t=>rw[u47];simp[ahK]
theorem VZ{t:List UInt8}(h:t≠[]):hasSuffix t [47]=(((t.getD (t.length - 1) 0).toNat:Int)==47):=by
 rcases fb t with ht | ⟨t',a,ht⟩
 ·exact absurd ht h
 ·rw[fc]at ht;subst ht;rw[u47,kq];simp[ar]
set_option maxRecDepth 8000 in
set_option maxHeartbeats 1000000 in
theorem BD(s:List UInt8)(h0:s.getD 0 0=60)(hlen:s.length<2^62)(J:ae):PC prog 163 [.s s] J (fun r J'=>r=.fu [.agg (gV s).1.ahq,.i .i64 (gV s).2]∧J'=J):=by
 obtain⟨rest,rfl⟩:∃ rest,s=60::rest:=by
  cases s with
  | nil=>simp at h0
  | cons a r=>simp only[aF]at h0;exact⟨r,by rw[h0]⟩
 refine PC.intro func163 aco fun bz dH=>?_;simp only[WV,SS,seval];refine cc.cut fun R hR=>?_;simp only[VV,seval];refine hR _ (cc.iS (fr':=(.s (60::rest)::uu 1 (.ptr J.length 0::uu 136 []))) ?_ (by repeat' constructor));clear hR R;refine cc.cut fun R hR=>?_;simp only[VV,seval];refine hR _ (cc.iS (fr':=(.s (60::rest)::uu 1 (.ptr J.length 0::uu 1 (.i .i64 ((1:Nat):Int)::uu 134 [])))) ?_ (by repeat' constructor));clear hR R;refine cc.cut fun R hR=>?_;simp only[VV,seval];have hr:=FM rest;refine cc.bd ?_ (rest.length+1) (J1 (.ptr J.length 0) (60::rest) hlen rest [60] rfl ?_)
 ·simp only[ag,ay]
  repeat' constructor
 generalize he:(rest.takeWhile fun x=>x != 62).length=e at hr;have hle:e≤rest.length:=by rw[← he];exact(List.takeWhile_prefix _).length_le
 simp only[JE];intros;simp only[ag,ay,bo,VV,seval];refine hR _ (cc.iS (fr':=(.s (60::rest)::uu 1 (.ptr J.length 0::uu 1 (.i .i64 ((1+e:Nat):Int)::uu 134 [])))) ?_ (by repeat' constructor));clear hR R;refine cc.cut fun R hR=>?_;simp only[ag,VV,seval];refine⟨fun h=>?_,fun h=>?_⟩
 ·have h:¬ e<rest.length:=by simp at h;omega
  rw[aw h]at hr;refine bk bz (.inr rfl) (by simp only[RS,seval];rfl) (by simp[LW]) ⟨?_,rfl⟩;rw[hr];rfl
 have h:e<rest.length:=by simp at h;omega
 rw[aI h]at hr;refine hR _ (cc.iS (fr':=(.s (60::rest)::uu 1 (.ptr J.length 0::uu 1 (.i .i64 ((1+e:Nat):Int)::uu 134 [])))) ?_ (by repeat' constructor));clear hR R;generalize ht:rest.take e=t at hr;have wH:t.length<2^62:=by rw[← ht,bT];simp at hlen;omega
 refine cc.cut fun R hR=>?_;simp only[ag,VV,seval];refine⟨by omega,?_⟩;have e1:List.take (1+e - 1) rest=t:=by rw[← ht];congr 1;omega
 rw[e1];refine hR _ (cc.iS (fr':=(uu 2 (.ptr J.length 0::uu 1 (.i .i64 ((1+e:Nat):Int)::.s t::.i .i64 2::uu 132 [])))) ?_ (by repeat' constructor));clear hR R;refine cc.cut fun R hR=>?_
 have tail:∀ (ahr:Int) (u:List UInt8),u.length<2^62→gV (60::rest)=(if(pT ahr u).2=true then((pT ahr u).1,(e:Int)+2)else(kA,0))→(ahr=2∨ahr=3∨ahr=4) →
   ∀ {fr:List V},oY fr (uu 2 (.ptr J.length 0::uu 1 (.i .i64 ((1+e:Nat):Int)::.s u::.i .i64 ahr::uu 132 [])))→R ⟨fr,J++[.box 61 [.i .i64 0,.s [],.i .i64 0]]⟩:=by
  intro ahr u hu XX NF fr hc;refine hR _ (cc.iS ?_ hc);clear hR R;refine cc.cut fun R hR=>?_;simp only[VV,seval];refine hR _ (cc.iS (fr':=(uu 2 (.ptr J.length 0::uu 1 (.i .i64 ((1+e:Nat):Int)::.s u::.i .i64 ahr::.i .i64 (da 0 [])::.i .i64 (([]:List UInt8).length:Nat)::uu 130 [])))) ?_ (by repeat' constructor));clear hR R;refine cc.cut fun R hR=>?_;simp only[VV,seval];refine cc.bd ?_ 5 (J0 (.ptr J.length 0) (.i .i64 ((1+e:Nat):Int)) (.i .i64 ahr) u hu 4 [] u rfl rfl (by simp) ?_)
  ·repeat' constructor
  intro k hk;simp only[JE];intros;simp only[VV,seval];refine hR _ (cc.iS (fr':=(uu 2 (.ptr J.length 0::uu 1 (.i .i64 ((1+e:Nat):Int)::.s u::.i .i64 ahr::.i .i64 (da 0 (u.take k))::.i .i64 k::uu 130 [])))) ?_ (by repeat' constructor));clear hR R
  have Nq:pT ahr u=if k=0∨u.length≤k∨u.getD 0 0=48∨999<da 0 (u.take k)∨u.getD k 0≠58 then(kA,false)else
    if(ahr=3∧ahz (u.drop (k+1))=false)∨(ahr≠3∧cP (u.drop (k+1))=false)then(kA,false)else(⟨ahr,u.drop (k+1),da 0 (u.take k)⟩,true):=by rw[hk];rfl
  refine cc.cut fun R hR=>?_;simp only[aM,VV,seval]
  have hC:(((((k:Int)==0||decide ((u.length:Int)≤(k:Int)))||((u.getD 0 0).toNat:Int)==48)||decide (999<da 0 (u.take k)))||((u.getD k 0).toNat:Int) != 58)=decide (k=0∨u.length≤k∨u.getD 0 0=48∨999<da 0 (u.take k)∨u.getD k 0≠58):=by
   rw[u48,u58,df];simp[or_assoc]
  rw[hC];refine⟨fun h=>by simp at h;omega,fun h=>by simp at h;omega,fun h=>?_,fun h=>?_⟩
  ·rw[aI (by simpa using h)]at Nq;refine bk bz (.inr rfl) (by simp only[RS,seval];rfl) (by simp[LW]) ⟨?_,rfl⟩;rw[XX,Nq];rfl
  have h:=of_decide_eq_false h;rw[aw h]at Nq;simp only[OV]at h;refine hR _ (cc.iS (fr':=(uu 2 (.ptr J.length 0::uu 1 (.i .i64 ((1+e:Nat):Int)::.s u::.i .i64 ahr::.i .i64 (da 0 (u.take k))::.i .i64 k::uu 130 [])))) ?_ (by repeat' constructor));clear hR R;have rV:IntKind.i64.wrap ((k:Int)+1)=((k+1:Nat):Int):=by rw[IntWalk.i64_in _ (by omega)];omega
  refine cc.cut fun R hR=>?_;simp only[rV,aM,VV,seval];have XQ:List.take (u.length - (k+1)) (List.drop (k+1) u)=u.drop (k+1):=dz (by simp);rw[XQ];refine⟨by omega,?_⟩;refine hR _ (cc.iS (fr':=(uu 2 (.ptr J.length 0::uu 1 (.i .i64 ((1+e:Nat):Int)::uu 1 (.i .i64 ahr::uu 2 (.ptr (J.length+1) 0::uu 129 [])))))) ?_ (by repeat' constructor));clear hR R;have O9:IntKind.i64.wrap (((1+e:Nat):Int)+1)=(e:Int)+2:=by rw[IntWalk.i64_in _ (by simp at hlen;omega)];omega
  refine cc.cut fun R hR=>?_
  have fin:∀ {fr:List V},gV (60::rest)=(⟨ahr,u.drop (k+1),da 0 (u.take k)⟩,(e:Int)+2)→oY fr (uu 2 (.ptr J.length 0::uu 1 (.i .i64 ((1+e:Nat):Int)::uu 4 (.ptr (J.length+1) 0::uu 129 [])))) →
    R ⟨fr,J++[.box 61 [.i .i64 0,.s [],.i .i64 0],.box 61 [.i .i64 ahr,.s (u.drop (k+1)),.i .i64 (da 0 (u.take k))]]⟩:=by
   intro fr hg hc;refine hR _ (cc.iS ?_ hc);clear hR R;refine aB ?_;simp only[O9,VV,seval];refine bk bz (.inr rfl) (by simp only[RS,seval];rfl) (by simp[LW]) ⟨?_,rfl⟩;rw[hg];rfl
  by_cases k3:ahr=3
  ·subst k3;simp only[VV,seval];refine cn (by simp only[VV,seval]<;>rfl) (fun _=>lB _ _) rfl ?_;simp only[VV,seval];refine cn (c:=false) (v:=.b false) (by simp only[VV,seval]<;>simp) (nofun) rfl ?_;simp only[VV,seval];refine⟨fun h2=>?_,fun h2=>?_⟩
   ·have h2:ahz (u.drop (k+1))=false:=by rw[cS]at h2;exact h2
    rw[aI (.inl ⟨rfl,h2⟩)]at Nq;refine bk bz (.inr rfl) (by simp only[RS,seval];rfl) (by simp[LW]) ⟨?_,rfl⟩;rw[XX,Nq];rfl
   ·have h2:ahz (u.drop (k+1))=true:=by rw[gy]at h2;exact h2
    rw[aw (by simp only[h2];simp)]at Nq;exact fin (by rw[XX,Nq];rfl) (by repeat' constructor)
  ·have n3:(ahr==3)=false:=by simpa using k3
   have n3':(ahr != 3)=true:=by simpa using k3
   simp only[n3,n3',VV,seval];refine cn (c:=false) (v:=.b false) (by simp only[VV,seval]<;>rfl) (nofun) rfl ?_;simp only[n3,n3',VV,seval];refine cn (by simp only[VV,seval]<;>rfl) (fun _=>mz _ _) rfl ?_;simp only[VV,seval];refine⟨fun h2=>?_,fun h2=>?_⟩
   ·have h2:cP (u.drop (k+1))=false:=by rw[cS]at h2;exact h2
    rw[aI (.inr ⟨k3,h2⟩)]at Nq;refine bk bz (.inr rfl) (by simp only[RS,seval];rfl) (by simp[LW]) ⟨?_,rfl⟩;rw[XX,Nq];rfl
   ·have h2:cP (u.drop (k+1))=true:=by rw[gy]at h2;exact h2
    rw[aw (by simp only[h2,k3];simp)]at Nq;exact fin (by rw[XX,Nq];rfl) (by repeat' constructor)
 simp only[VV,seval];have afc:t.length≤rest.length:=by rw[← ht,bT];omega
 by_cases TT:t=[]
 ·subst TT;refine⟨nofun,nofun,fun _=>⟨nofun,nofun,fun _=>tail 2 [] (by simp) ?_ (.inl rfl) ?_⟩⟩
  ·exact hr
  ·repeat' constructor
 have zU:0<t.length:=dK.2 TT;have hw:IntKind.i64.wrap ((t.length:Int) - 1)=((t.length - 1:Nat):Int):=by rw[IntWalk.i64_in _ (by omega)];omega
 have hd:decide ((0:Int)<(t.length:Int))=true:=by simp;omega
 have hdr:List.take (t.length - 1) (List.drop 1 t)=t.drop 1:=dz (by simp);simp only[hw,hd,hdr,aM,cm,← Wb TT,← VZ TT];refine⟨fun _=>by omega,fun h=>⟨by omega,tail 3 (t.drop 1) (by simp;omega) ?_ (.inr (.inl rfl)) ?_⟩,fun h=>⟨fun _=>by omega,fun h2=>⟨by omega,tail 4 (t.take (t.length - 1)) (by simp;omega) ?_ (.inr (.inr rfl)) ?_⟩,fun h2=>tail 2 t wH ?_ (.inl rfl) ?_⟩⟩
 ·rw[hr];simp only[By,h,aO]
 ·repeat' constructor
 ·rw[hr];simp only[By,h,h2,aA,aJ,aO]
 ·repeat' constructor
 ·rw[hr];simp only[By,h,h2,aA,aJ]
 ·repeat' constructor
def Bv(s:List UInt8)(k:Nat):Prop:=s.getD k 0=125∧ahz ((s.take k).drop 1)=true
theorem ZG(a:UInt8):((a.toNat:Int)==125)=(a==125):=by revert a;exact fK (by decide +kernel)
theorem J9{J:ae}{K:Exit→St→Prop}(s:List UInt8)(hlen:s.length<2^62):∀ (m k:Nat),k+m=26→1≤k→(∀ j,1≤j→j<k→j<s.length→¬ Bv s j) →
  ((∀ j,1≤j→j<s.length→j≤25→¬ Bv s j)→((fj 2 (fh (.ptr J.length 0) (fj 71 fo))) fun ZZ=>K (.exit 1) ⟨ZZ,J++[.box 61 [.i .i64 0,.s [],.i .i64 0]]⟩)) →
  (∀ k:Nat,1≤k→k<s.length→Bv s k→((fj 2 (fh (.ptr J.length 0) (fh (.i .i64 ((k+1:Nat):Int)) (fj 70 fo)))) fun ZZ=>K .ret ⟨ZZ,J++[.box 61 [.i .i64 5,.s ((s.take k).drop 1),.i .i64 0]]⟩)) →
  fJ J.length prog xS K (m+1) ⟨(.s s::uu 1 (.ptr J.length 0::uu 1 (.i .i64 k::uu 69 []))),J++[.box 61 [.i .i64 0,.s [],.i .i64 0]]⟩:=by
 intro m
 induction m with
 | zero =>
  intro k hk rV qe h1 h2;have e1:decide ((k:Int)≤25)=false:=by simp;omega
  refine aD fun R hR=>?_;simp only[xS,e1,jF,VV,seval];exact h1 (fun j j1 j2 j3=>qe j j1 (by omega) j2) ..
 | succ m ih =>
  intro k hk rV qe h1 h2;have e1:decide ((k:Int)≤25)=true:=by simp;omega
  have hw:IntKind.i64.wrap ((k:Int)+1)=((k+1:Nat):Int):=by rw[IntWalk.i64_in _ (by omega)];omega
  by_cases hks:k<s.length
  ·have e0:decide ((k:Int)<(s.length:Int))=true:=by simp;omega
   refine aD fun R hR=>?_;have hdt:List.take (k - 1) (List.drop 1 s)=(s.take k).drop 1:=by rw[Vf]
   simp only[xS,e0,e1,hw,aM,hdt,VV,seval];refine⟨by omega,fun _=>by omega,cn (by simp only[VV,seval]<;>rfl) (fun _=>lB _ _) rfl ?_⟩;simp only[hw,hdt,ZG,aM,VV,seval];refine⟨fun h=>⟨by omega,?_⟩,fun h=>?_⟩
   ·exact h2 k rV hks (by simpa[Bv]using h) ..
   ·refine hR _ (bd ?_ (ih (k+1) (by omega) (by omega) (fun j j1 j2 j3=>?_) h1 h2))
    ·repeat' constructor
    ·by_cases hj:j=k
     ·subst hj;intro hs;rw[hs.1,hs.2]at h;simp at h
     ·exact qe j j1 (by omega) j3
  ·have e0:decide ((k:Int)<(s.length:Int))=false:=by simp;omega
   refine aD fun R hR=>?_;simp only[xS,e0,e1,hw,aM,VV,seval];exact h1 (fun j j1 j2 j3=>qe j j1 (by omega) j2) ..
theorem J8{J:ae}{K:Exit→St→Prop}(s:List UInt8)(hlen:s.length<2^62):∀ (m c:Nat),c+m=256→(∀ j,j<c→ahK s (dO (UInt8.ofNat j))=false) →
  ((∀ j,j<256→ahK s (dO (UInt8.ofNat j))=false)→((fj 2 (fh (.ptr J.length 0) (fj 71 fo))) fun ZZ=>K (.exit 3) ⟨ZZ,J++[.box 61 [.i .i64 0,.s [],.i .i64 0]]⟩)) →
  (∀ b:UInt8,ahK s (dO b)=true→((fj 2 (fh (.ptr J.length 0) (fh (.i .i64 (dO b).length) (fj 70 fo)))) fun ZZ=>K .ret ⟨ZZ,J++[.box 61 [.i .i64 1,.s [b],.i .i64 0]]⟩)) →
  fJ J.length prog Cf K (m+1) ⟨(.s s::uu 1 (.ptr J.length 0::uu 2 (.i .i64 c::uu 68 []))),J++[.box 61 [.i .i64 0,.s [],.i .i64 0]]⟩:=by
 intro m
 induction m with
 | zero =>
  intro c hc qe h1 h2;have hc:c=256:=by omega
  subst hc;refine aD fun R hR=>?_;simp only[Cf,VV,seval];exact⟨nofun,fun _=>h1 qe ..⟩
 | succ m ih =>
  intro c hc qe h1 h2;have hw:IntKind.i64.wrap ((c:Int)+1)=((c+1:Nat):Int):=by rw[IntWalk.i64_in _ (by omega)];omega
  have hb:IntKind.u8.wrap (c:Int)=((UInt8.ofNat c).toNat:Int):=by rw[IntWalk.u8_in _ (by omega)];simp;omega
  have e1:decide ((c:Int)<256)=true:=by simp;omega
  refine aD fun R hR=>?_;simp only[Cf,e1,hb,hw,VV,seval];refine aC (BE (UInt8.ofNat c) _) rfl ?_;simp only[hb,hw,aM,VV,seval]
  have hP:(decide (((dO (UInt8.ofNat c)).length:Int)≤(s.length:Int))&&List.take (dO (UInt8.ofNat c)).length s==dO (UInt8.ofNat c))=ahK s (dO (UInt8.ofNat c)):=by
   simp only[ahK,Int.ofNat_le]
  rw[hP];refine⟨fun h=>by simp at h;omega,fun h=>h2 _ h ..,fun h=>?_⟩;refine hR _ (bd ?_ (ih (c+1) (by omega) (fun j hj=>?_) h1 h2))
  ·repeat' constructor
  ·by_cases hjc:j=c
   ·subst hjc;exact h
   ·exact qe j (by omega)
theorem Jx(s:List UInt8)(hs:s≠[])(hlen:s.length<2^62)(J:ae):PC prog 104 [.s s] J (fun r J'=>r=.fu [.agg (gV s).1.ahq,.i .i64 (gV s).2]∧J'=J):=by
 refine PC.intro func104 acU fun bz dH=>aB ?_;have zU:0<s.length:=dK.2 hs
 have u123:(((s.getD 0 0).toNat:Int)==123)=(s.getD 0 0==123):=by
  generalize s.getD 0 0=a;revert a;exact fK (by decide +kernel)
 have u60:(((s.getD 0 0).toNat:Int)==60)=(s.getD 0 0==60):=by
  generalize s.getD 0 0=a;revert a;exact fK (by decide +kernel)
 have hb:(0:Int)≤0∧(0:Int)<(s.length:Int):=by omega
 simp only[Xt,SS,seval]
 by_cases px:s.getD 0 0=123
 ·have e1:(s.getD 0 0==123)=true:=by simpa using px
  simp only[u123,e1,VV,seval,-Int.reduceLE];refine⟨hb,?_⟩;refine cc.bd ?_ 26 (J9 s hlen 25 1 rfl (au _) (fun j j1 j2=>by omega) (fun qe=>?_) (fun k k1 k2 hk=>?_))
  ·simp only[Int.natCast_one]
   repeat' constructor
  ·simp only[JE];intros;simp only[VV,seval];refine bk bz (.inr rfl) (by simp only[RS,seval];rfl) (by simp[LW]) ⟨?_,rfl⟩;rw[Bz px qe];rfl
  ·simp only[JE];intros;simp only[VV,seval];refine bk bz (.inr rfl) (by simp only[RS,seval];rfl) (by simp[LW]) ⟨?_,rfl⟩;rw[FL px k1 k2 hk.1 hk.2];rfl
 have e1:(s.getD 0 0==123)=false:=by simpa using px
 by_cases SC:s.getD 0 0=60
 ·have e2:(s.getD 0 0==60)=true:=by simpa using SC
  simp only[u123,u60,e1,e2,VV,seval,-Int.reduceLE];refine⟨hb,hb,?_⟩;refine aC (BD s SC hlen _) rfl ?_;simp only[It.ahq,VV,seval];refine bk bz (.inr rfl) (by simp only[RS,seval];rfl) (by simp[LW]) ⟨?_,rfl⟩;rfl
 ·have e2:(s.getD 0 0==60)=false:=by simpa using SC
  simp only[u123,u60,e1,e2,VV,seval,-Int.reduceLE];refine⟨hb,hb,?_⟩;refine cc.bd ?_ 257 (J8 s hlen 256 0 rfl (fun j hj=>by omega) (fun qe=>?_) (fun b jA=>?_))
  ·simp only[jE]
   repeat' constructor
  ·simp only[JE];intros;simp only[VV,seval];refine bk bz (.inr rfl) (by simp only[RS,seval];rfl) (by simp[LW]) ⟨?_,rfl⟩
   rw[FN hs SC px (fun c=>by
    have:=qe c.toNat c.toNat_lt
    rwa [UInt8.ofNat_toNat]at this)]
   rfl
  ·simp only[JE];intros;simp only[VV,seval];refine bk bz (.inr rfl) (by simp only[RS,seval];rfl) (by simp[LW]) ⟨?_,rfl⟩;rw[FO jA];rfl
theorem TC{J:ae}{K:Exit→St→Prop}(s:List UInt8)(bz:bK J)(hlen:s.length<2^30):∀ (n:Nat) (rest pre:List UInt8) (f:List It) (len:Nat),s=pre++rest→rest.length<n→f.length≤512→aN f≤pre.length→len≤1024 →
  ((fG n f len rest pre.length).2.2=0→((fj 5 (fh (.sl 3 ((fG n f len rest pre.length).1.map It.ahq)) (fj 49 fo))) fun ZZ=>K (.exit 0) ⟨ZZ,J⟩)) →
  ((fG n f len rest pre.length).2.2≠0→∀ loc,((fj 2 (fh (.nil) (fh (.i .i64 (fG n f len rest pre.length).2.1) (fh (.i .i64 (fG n f len rest pre.length).2.2) (fj 50 fo))))) fun ZZ=>K .ret ⟨ZZ,J++loc⟩)) →
  fJ J.length prog HQ K n ⟨(.s s::uu 4 (.sl 3 (f.map It.ahq)::.i .i64 pre.length::.i .i64 len::uu 47 [])),J⟩:=by
 intro n
 induction n with
 | zero=>intro rest pre f len he hn;omega
 | succ n ih =>
  intro rest pre f len he hn hf ht hl h1 h2;cases rest with
  | nil =>
   have he:s=pre:=by simpa using he
   subst he;simp only[fG]at h1;refine aD fun R hR=>?_;simp only[HQ,VV,seval];exact⟨fun h=>by simp at h,fun _=>h1 trivial ..⟩
  | cons c rest =>
   subst he;have Nk:=FK (s:=c::rest) (by simp);have hd:List.take ((pre++c::rest).length - pre.length) (List.drop pre.length (pre++c::rest))=c::rest:=by simp
   simp only[fG]at h1 h2;refine aD fun R hR=>?_;simp only[HQ,hd,aM,VV,seval];refine⟨fun _=>⟨by simp;omega,?_⟩,fun h=>by simp at h<;>omega⟩;refine aC (Jx (c::rest) (by simp) (by simp at hlen ⊢;omega) _) rfl ?_;generalize hx:gV (c::rest)=xm at *;obtain⟨x,m⟩:=xm;simp only at Nk h1 h2;simp only[It.ahq,VV,seval];refine⟨fun hm=>?_,fun hm=>?_⟩
   ·have hm:m=0:=by simpa using hm
    simp only[hm,aO]at h2;exact h2 (by simp) [_] ..
   have hm:m≠0:=by simpa using hm
   obtain⟨m1,m2,m3⟩:=Nk hm;rw[aw hm]at h1 h2;have hg:=F5 (f++[x]);simp only[dt,aN,ak,ag,ay]at hg;have aed:pre.length+(rest.length+1)<2^30:=by simpa using hlen
   simp only[ag]at m2 hn
   have zn:(pre++(c::rest).take m.toNat).length=pre.length+m.toNat:=by
    rw[ak,bT,ag];omega
   have QF:IntKind.i64.wrap ((len:Int)+1)=((len+1:Nat):Int):=by rw[IntWalk.i64_in _ (by omega)];omega
   have hwa:IntKind.i64.wrap ((pre.length:Int)+m)=(pre.length:Int)+m:=IntWalk.i64_in _ (by omega);have el:(len:Int)+1=((len+1:Nat):Int):=by omega
   have ea:(pre.length:Int)+m=(((pre++(c::rest).take m.toNat).length:Nat):Int):=by rw[zn];omega
   refine⟨fun hk=>?_,fun hk=>?_⟩
   ·have hk:x.ahr≠1:=by simpa using hk
    refine aC (xC f x _) rfl ?_;simp only[It.ahq,VV,seval];refine⟨fun he=>?_,fun he=>?_⟩
    ·have he:dY f x≠0:=by simpa using he
     rw[aI ⟨hk,he⟩]at h2;exact h2 he [_] ..
    have he:dY f x=0:=by simpa using he
    rw[aw (fun h=>h.2 he)]at h1 h2;refine ly (zs:=[.sl 3 (f.map It.ahq),.sl 3 ([x].map It.ahq)]) (.cons (.refl _) (.cons (.lit _ _) .nil)) (kf f [x] (by omega) (by simp) (by omega) (by simp only[aN];omega) _) ?_;simp only[QF,hwa,ah,VV,seval];refine⟨fun hc=>?_,fun hc=>?_⟩
    ·have hc:512<(ahy (f++[x])).length∨(1024:Int)<(len:Int)+1:=by simp at hc;omega
     rw[aI hc]at h2;exact h2 (by simp) [_] ..
    ·have hc:¬ (512<(ahy (f++[x])).length∨(1024:Int)<(len:Int)+1):=by simp at hc;omega
     rw[aw hc,el,ea]at h1 h2;refine hR _ (mw (au _) bz ?_ ?_ (ih ((c::rest).drop m.toNat) (pre++(c::rest).take m.toNat) (ahy (f++[x])) (len+1) (by simp) (by rw[cy,ag];omega) (by omega) (by rw[zn];omega) (by omega) h1 h2))
     ·rw[← ea]
      repeat' constructor
     ·simp only[LW]
   ·have hk:x.ahr=1:=by simpa using hk
    rw[aw (fun h=>h.1 hk)]at h1 h2;refine ly (zs:=[.sl 3 (f.map It.ahq),.sl 3 ([x].map It.ahq)]) (.cons (.refl _) (.cons (.lit _ _) .nil)) (kf f [x] (by omega) (by simp) (by omega) (by simp only[aN];omega) _) ?_;simp only[QF,hwa,ah,VV,seval];refine⟨fun hc=>?_,fun hc=>?_⟩
    ·have hc:512<(ahy (f++[x])).length∨(1024:Int)<(len:Int)+1:=by simp at hc;omega
     rw[aI hc]at h2;exact h2 (by simp) [_] ..
    ·have hc:¬ (512<(ahy (f++[x])).length∨(1024:Int)<(len:Int)+1):=by simp at hc;omega
     rw[aw hc,el,ea]at h1 h2;refine hR _ (mw (au _) bz ?_ ?_ (ih ((c::rest).drop m.toNat) (pre++(c::rest).take m.toNat) (ahy (f++[x])) (len+1) (by simp) (by rw[cy,ag];omega) (by omega) (by rw[zn];omega) (by omega) h1 h2))
     ·rw[← ea]
      repeat' constructor
     ·simp only[LW]
theorem xB(s:List UInt8)(hlen:s.length<2^30)(J:ae):PC prog 47 [.s s] J (fun r J'=>r=.fu [.sl 3 ((parse s).1.map It.ahq),.i .i64 (parse s).2.1,.i .i64 (parse s).2.2]∧J'=J):=by
 refine PC.intro func47 c47 fun bz dH=>aB ?_;rw[← BA];simp only[p47,SS,seval];simp only[VV,seval];refine cc.wk (Wk.iS ?_) (cc.wy (s.length+1) (TC s bz hlen (s.length+1) s [] [] 0 rfl (by omega) (by simp) (by simp[aN]) (by omega) (fun h=>?_) (fun h=>?_)))
 ·simp only[ay,jE,bD,VV,seval]
  repeat' constructor
 ·have e:=xu _ _ _ _ _ h;simp only[JE];intros;simp only[VV,seval];refine aR (.inr rfl) (by simp only[RS,seval];rfl) ⟨?_,rfl⟩;have h':(uh s).2.2=0:=h;have e':(uh s).2.1=0:=e;rw[h',e'];rfl
 ·simp only[JE];intros;simp only[VV,seval];refine sN (ys:=[.sl 3 [],.i .i64 (uh s).2.1,.i .i64 (uh s).2.2]) bz (.inr rfl) (by simp only[RS,seval];rfl) ?_ (by simp[LW]) ⟨?_,rfl⟩
  ·exact .cons (.nil _) (.cons (.refl _) (.cons (.refl _) .nil))
  ·have hz:=u9 _ _ _ _ _ h;have hz':(uh s).1=[]:=hz;rw[hz'];rfl
end Go.Proofs.Tryz

/- A part of a proof; the claim's last text says of what. -/
import Derived.Test.YtlakkaamfadipaaGreatDoorV18
import Derived.Test.YtlakkaamfadipaaGreatDoorV21
set_option linter.all false

namespace Go.Proofs.Tryz
open Go Go.Pm Go.Bt
theorem xG(x n:Int)(hn:0<n)(h2:n<2^62)(J:ae):PC prog 14 [.i .i64 x,.i .i64 n] J (fun r J'=>r=.i .i64 (place x n)∧J'=J):=by
 refine PC.intro func14 c14 fun bz dH=>aB ?_;simp only[p14,SS,seval];simp only[VV,seval];refine⟨by omega,fun h=>?_,fun h=>?_⟩
 ·have h:x.tmod n<0:=by simpa using h
  have hr:=pZ (x:=x) hn;have e:place x n=x.tmod n+n:=by simp only[place,aI h]
  refine aR (.inr rfl) rfl ⟨?_,rfl⟩;rw[e]at hr ⊢;simp only[Pm.one,aF,aP];rw[IntWalk.i64_in _ (by omega)]
 ·have h:¬ x.tmod n<0:=by simpa using h
  have e:place x n=x.tmod n:=by simp only[place,aw h]
  exact aR (.inr rfl) rfl ⟨by rw[e];rfl,rfl⟩
def iV(S:ae)(a:Nat)(l:List Int)(k:Nat):ae:=S.set a (.box 31 [.sl 1 (l.map b5),.i .i64 k])
theorem bC(S:ae)(a:Nat)(l:List Int)(k:Nat):(iV S a l k).length=S.length:=by simp[iV]
theorem ln{S:ae}{a:Nat}{l:List Int}{k:Nat}{loc:ae}(h:a<S.length):iV S a l k++loc=iV (S++loc) a l k:=by
 simp only[iV];rw[gF _ _ h]
theorem H3{S:ae}{a:Nat}{l:List Int}{k:Nat}(h:a<S.length):(iV S a l k)[a]?=some (.box 31 [.sl 1 (l.map b5),.i .i64 k]):=by
 simp[iV,h]
theorem H2{S:ae}{a:Nat}{l:List Int}{k k':Nat}:(iV S a l k).set a (.box 31 [.sl 1 (l.map b5),.i .i64 (k':Int)])=iV S a l k':=by
 simp[iV]
theorem MF(S:ae)(a:Nat)(ha:a<S.length)(l:List Int)(k:Nat)(hk:k<2^60)(n:Int)(hn:0<n)(Es:n<2^62):
  PC prog 43 [.ptr a 0,.i .i64 n] (iV S a l k) (fun r J'=>r=.i .i64 (place (l.getD k 0) n)∧J'=iV S a l (k+1)):=by
 refine PC.intro func43 c43 fun bz dH=>aB ?_;simp only[p43,SS,seval];have hw:IntKind.i64.wrap ((k:Int)+1)=((k+1:Nat):Int):=bu (by omega)
 by_cases h:k<l.length
 ·have hd:decide ((k:Int)<(l.length:Int))=true:=by simp;omega
  simp only[H3 ha,ah,hd,hw,H2,aM,qu h,VV,seval];refine⟨by omega,?_⟩;refine aC (xG (l.getD k 0) n hn Es _) rfl ?_;simp only[VV,seval];exact fM (.inr rfl) rfl (Wk.refl _ _) rfl ⟨rfl,rfl⟩
 ·have hd:decide ((k:Int)<(l.length:Int))=false:=by simp;omega
  have h0:l.getD k 0=0:=by rw[ar,bn (by omega)];rfl
  simp only[H3 ha,ah,hd,hw,H2,VV,seval];refine aC (xG 0 n hn Es _) rfl ?_;simp only[VV,seval];exact fM (.inr rfl) rfl (Wk.refl _ _) rfl ⟨by rw[h0];rfl,rfl⟩
theorem sW(S:ae)(a:Nat)(ha:a<S.length)(l:List Int)(k:Nat)(hk:k<2^60)(n:Int)(hn:0<n)(Es:n<2^62):
  PC prog 43 [.ptr a 0,.i .i64 n] (iV S a l k) (fun r J'=>∃ v:Int,r=.i .i64 v∧(0≤v∧v<n)∧J'=iV S a l (k+1)) :=
 (MF S a ha l k hk n hn Es).mono fun _ _ h=>⟨_,h.1,pZ hn,h.2⟩
def qg:List (List UInt8):=[[114,101,100],[99,97,114],[82,101,100],[97],[99,97,114,115],[49,44,53],[50,50],[100,111,110,39,116],[46],[33],[32],[32,32],[60],[38],[123],[34],[92],[120,45,121],[10],[61],[125],[62],[9],[98]]
theorem jO{ws:List (List UInt8)}{n:Nat}(h:n<ws.length):∃ w∈ws,fw (ws.map fun s=>[V.s s]) n 0=some (V.s w):=by
 refine⟨ws[n],cF h,?_⟩;simp[fw,h]
theorem Ps(S:ae)(a:Nat)(ha:a<S.length)(l:List Int)(k:Nat)(hk:k<2^60):
  PC prog 141 [.ptr a 0] (iV S a l k) (fun r J'=>∃ w:List UInt8,r=.s w∧w∈qg∧J'=iV S a l (k+1)):=by
 refine PC.intro func141 acC fun bz dH=>aB ?_;simp only[W8,SS,seval];simp only[VV,seval];refine db (sW S a ha l k hk 24 (by decide) (by decide)) rfl ?_;rintro _ _ ⟨v,rfl,hv,rfl⟩;obtain⟨w,hw,e⟩:=jO (ws:=qg) (n:=v.toNat) (by simp[qg];omega);simp only[qg,az,bD]at e;simp only[e,VV,seval];refine⟨by omega,?_⟩;exact fM (.inr rfl) rfl (Wk.refl _ _) rfl ⟨w,rfl,hw,rfl⟩
theorem LN{w:List UInt8}(h:w∈qg):w.length≤5:=by
 revert w;decide
theorem Tx(S:ae)(a:Nat)(ha:a<S.length)(l:List Int){K:Exit→St→Prop}(k0:Nat)(O7:k0<2^59)(n:Nat)(hn:n<2^20):∀ (m k:Nat) (out:List UInt8),m≤n→(k0≤k∧k≤k0+2*(n - m))→out.length≤6*(n - m) →
  (∀ (k:Nat) (out:List UInt8),(k0≤k∧k≤k0+2*n)→out.length≤6*n→((fj 5 (fh (.s out) (fj 25 fo))) fun ZZ=>K (.exit 0) ⟨ZZ,iV S a l k⟩)) →
  fJ S.length prog HL K (m+1) ⟨(.ptr a 0::uu 4 (.s out::.i .i64 m::uu 24 [])),iV S a l k⟩:=by
 intro m
 induction m with
 | zero =>
  intro k out hm hk ho h1;refine aD fun R hR=>?_;simp only[HL,VV,seval];exact⟨nofun,fun _=>h1 k out (by omega) (by omega) ..⟩
 | succ m ih =>
  intro k out hm hk ho h1;have hw:IntKind.i64.wrap (((m+1:Nat):Int) - 1)=(m:Int):=by rw[IntWalk.i64_in _ (by omega)];omega
  refine aD fun R hR=>?_;simp only[HL,hw,VV,seval];refine⟨fun _=>?_,fun h=>by simp at h<;>omega⟩;refine db (Ps S a ha l k (by omega)) rfl ?_;rintro _ _ ⟨w,rfl,Gv,rfl⟩;have QF:=LN Gv;simp only[hw,VV,seval]
  by_cases ig:out=[]
  ·have e1:(!out==[])=false:=by simp[ig]
   refine E1 (Q:=fun _ _=>True) (c:=false) (by simp only[e1,VV,seval]<;>rfl) (nofun) rfl (nofun) fun _=>⟨.i .i64 0,?_⟩;simp only[e1,hw,VV,seval];refine⟨by simp only[maxLen];omega,?_⟩;refine hR _ (bd ?_ (ih (k+1) (out++w) (by omega) (by omega) (by rw[ak];omega) h1))
   repeat' constructor
  ·have e1:(!out==[])=true:=by simp[ig]
   refine E1 (c:=true) (by simp only[e1,VV,seval]<;>rfl) (fun _=>sW S a ha l (k+1) (by omega) 3 (by decide) (by decide)) rfl ?_ (nofun);rintro _ _ _ ⟨v,rfl,hv,rfl⟩;simp only[e1,hw,VV,seval];refine⟨fun h=>⟨by simp only[maxLen];omega,by simp only[maxLen,ak,ag,ay];omega,?_⟩,fun h=>⟨by simp only[maxLen];omega,?_⟩⟩
   ·refine hR _ (bd ?_ (ih (k+1+1) (out++32::w) (by omega) (by omega) (by rw[ak,ag];omega) h1))
    repeat' constructor
   ·refine hR _ (bd ?_ (ih (k+1+1) (out++w) (by omega) (by omega) (by rw[ak];omega) h1))
    repeat' constructor
theorem Qi(S:ae)(a:Nat)(ha:a<S.length)(l:List Int)(k:Nat)(hk:k<2^58)(n:Nat)(hn:n<2^20):
  PC prog 79 [.ptr a 0,.i .i64 n] (iV S a l k) (fun r J'=>∃ (s:List UInt8) (k':Nat),r=.s s∧s.length≤6*n∧(k≤k'∧k'≤k+2*n+1)∧J'=iV S a l k'):=by
 refine PC.intro func79 c79 fun bz dH=>aB ?_;have hw:IntKind.i64.wrap ((n:Int)+1)=((n+1:Nat):Int):=bu (by omega);simp only[p79,SS,seval];simp only[hw,VV,seval];refine db (sW S a ha l k (by omega) ((n+1:Nat):Int) (by omega) (by omega)) rfl ?_;rintro _ _ ⟨v,rfl,hv,rfl⟩;obtain⟨m,rfl⟩:∃ m:Nat,v=m:=⟨v.toNat,by omega⟩;simp only[hw,bC,VV,seval];refine cc.bd ?_ (m+1) (Tx S a ha l (k+1) (by omega) m (by omega) m (k+1) [] (au _) (by omega) (by simp) ?_)
 ·repeat' constructor
 intro k' out h1 h2;simp only[JE];intros;simp only[VV,seval];exact fM (.inr rfl) rfl (Wk.refl _ _) (by simp[bC]) ⟨out,k',rfl,by omega,by omega,rfl⟩
theorem Tv{n:Nat}{J:ae}{K:Exit→St→Prop}(l:List Int)(x:Int)(hlen:l.length<2^63):∀ (rest pre:List Int),l=pre++rest →
  (rest.contains x=false→((fj 18 fo) fun ZZ=>K (.exit 0) ⟨ZZ,J⟩))→(rest.contains x=true→((fj 4 (fh (.b true) (fj 13 fo))) fun ZZ=>K .ret ⟨ZZ,J⟩)) →
  fJ n prog HJ K (rest.length+1) ⟨(.sl 1 (l.map b5)::.i .i64 x::uu 5 (.i .i64 l.length::.i .i64 pre.length::uu 9 [])),J⟩:=by
 intro rest
 induction rest with
 | nil =>
  intro pre he h1 h2;have he:l=pre:=by simpa using he
  subst he;refine aD fun R hR=>?_;simp only[HJ,VV,seval];exact⟨fun h=>by simp at h,fun _=>h1 rfl ..⟩
 | cons c rest ih =>
  intro pre he h1 h2;subst he;refine aD fun R hR=>?_;simp only[HJ,b5,VV,seval];refine⟨fun _=>⟨by simp;omega,fun h=>?_,fun h=>?_⟩,fun h=>by simp at h<;>omega⟩
  ·have h:c=x:=by simpa using h
   exact h2 (by simp[h]) ..
  ·have h:¬ c=x:=by simpa using h
   have e:(c::rest).contains x=rest.contains x:=by
    have:(x==c)=false:=by simpa using fun e=>h e.symm
    simp only[List.contains_cons,this,im]
   rw[e]at h1 h2;refine hR _ (bd ?_ (ih (pre++[c]) (by simp) h1 h2));rw[bu (by simp at hlen;omega)];simp only[ak,ag,ay]
   repeat' constructor
theorem Mo(l:List Int)(x:Int)(J:ae):PC prog 83 [.sl 1 (l.map b5),.i .i64 x] J (fun r J'=>r=.b (l.contains x)∧J'=J):=by
 refine PC.intro func83 c83 fun bz dH=>aB ?_;have hlen:=nO (dH 0 _ rfl).1;rw[ah]at hlen;simp only[p83,SS,seval];simp only[ah,VV,seval];refine cc.bd ?_ (l.length+1) (Tv l x hlen l [] rfl (fun h=>?_) (fun h=>?_))
 ·repeat' constructor
 ·simp only[JE];intros;simp only[VV,seval];exact aR (.inr rfl) rfl ⟨by rw[h];rfl,rfl⟩
 ·simp only[JE];intros;exact aR (.inr rfl) rfl ⟨by rw[h];rfl,rfl⟩
theorem Qh{n:Nat}{J:ae}{K:Exit→St→Prop}(its:List It)(hlen:its.length<2^63):∀ (rest pre:List It) (acc:Int),its=pre++rest →
  ((fj 3 (fh (.i .i64 (dA acc rest)) (fj 24 fo))) fun ZZ=>K (.exit 0) ⟨ZZ,J⟩) →
  fJ n prog Cg K (rest.length+1) ⟨(.sl 3 (its.map It.ahq)::uu 2 (.i .i64 acc::uu 2 (.i .i64 its.length::.i .i64 pre.length::uu 20 []))),J⟩:=by
 intro rest
 induction rest with
 | nil =>
  intro pre acc he h1;have he:its=pre:=by simpa using he
  subst he;refine aD fun R hR=>?_;simp only[Cg,VV,seval];exact⟨fun h=>by simp at h,fun _=>h1 ..⟩
 | cons x rest ih =>
  intro pre acc he h1;subst he
  have hw:IntKind.i64.wrap ((pre.length:Int)+1)=(((pre++[x]).length:Nat):Int):=by
   rw[bu (by simp at hlen;omega)];simp
  refine aD fun R hR=>?_;simp only[Cg,It.ahq,VV,seval];have e:dA acc (x::rest)=dA (IntKind.i64.wrap (acc+width x)) rest:=rfl;rw[e]at h1;refine⟨fun _=>⟨by simp;omega,fun h=>⟨by simp;omega,?_⟩,fun h=>?_⟩,fun h=>by simp at h<;>omega⟩
  ·have h:x.ahr=1:=by simpa using h
   have ew:width x=x.aht.length:=by simp[width,h]
   rw[ew]at h1;refine hR _ (bd ?_ (ih (pre++[x]) _ (by simp) h1));rw[hw];repeat' constructor
  ·have h:¬ x.ahr=1:=by simpa using h
   have ew:width x=1:=by simp[width,h]
   rw[ew]at h1;refine hR _ (bd ?_ (ih (pre++[x]) _ (by simp) h1));rw[hw];repeat' constructor
theorem DF(its:List It)(J:ae):PC prog 102 [.sl 3 (its.map It.ahq)] J (fun r J'=>r=.i .i64 (dA 0 its)∧J'=J):=by
 refine PC.intro func102 acW fun bz dH=>aB ?_;have hlen:=nO (dH 0 _ rfl).1;rw[ah]at hlen;simp only[Xv,SS,seval];simp only[ah,VV,seval];refine cc.bd ?_ (its.length+1) (Qh its hlen its [] 0 rfl ?_)
 ·repeat' constructor
 ·simp only[JE];intros;simp only[VV,seval];exact aR (.inr rfl) rfl ⟨rfl,rfl⟩
theorem FY(b:UInt8)(J:ae):PC prog 212 [.i .u8 b.toNat] J (fun r J'=>r=.i .i64 (dD b)∧J'=J):=by
 refine PC.intro func212 abX fun bz dH=>aB ?_;simp only[Wu,SS,seval];simp only[W,seval];clear dH bz;refine⟨fun h1=>?_,fun h1=>⟨fun h2=>?_,fun h2=>⟨fun h3=>?_,fun h3=>⟨fun h4=>?_,fun h4=>?_⟩⟩⟩⟩<;>refine aR (.inr rfl) rfl ⟨?_,rfl⟩<;>simp at*<;> simp only[Pm.one,dD,aF,aP,V.i.injEq,iH]<;>(repeat' split)<;>omega
theorem rN(x:It)(J:ae):PC prog 81 [.agg x.ahq] J (fun r J'=>r=.b (bG x)∧J'=J):=by
 refine PC.intro func81 c81 fun bz dH=>aB ?_;simp only[p81,It.ahq,SS,seval];simp only[VV,seval];refine bk bz (.inr rfl) rfl (by simp[LW]) ⟨?_,rfl⟩;simp only[Pm.one,bG,aF,aP]
theorem P7{n:Nat}{J:ae}{K:Exit→St→Prop}(s:List UInt8)(hlen:s.length<2^63):∀ (rest pre:List UInt8),s=pre++rest→pre≠[] →
  (rest.all fX=true→((fj 44 fo) fun ZZ=>K (.exit 0) ⟨ZZ,J⟩))→(rest.all fX=false→((fj 2 (fh (.b false) (fj 41 fo))) fun ZZ=>K .ret ⟨ZZ,J⟩)) →
  fJ n prog xO K (rest.length+1) ⟨(.s s::uu 2 (.i .i64 pre.length::uu 40 [])),J⟩:=by
 intro rest
 induction rest with
 | nil =>
  intro pre he hp h1 h2;have he:s=pre:=by simpa using he
  subst he;refine aD fun R hR=>?_;simp only[xO,VV,seval];exact⟨fun h=>by simp at h,fun _=>h1 rfl ..⟩
 | cons c rest ih =>
  intro pre he hp h1 h2;subst he;have zn:0<pre.length:=dK.2 hp;have hd:decide ((0:Int)<pre.length)=true:=by simp;omega
  refine aD fun R hR=>?_;simp only[xO,hd,VV,seval]
  have hn:fX c=((decide (97≤(c.toNat:Int))&&decide ((c.toNat:Int)≤122))||((decide (48≤(c.toNat:Int))&&decide ((c.toNat:Int)≤57))||((c.toNat:Int)==45))):=by
   rw[df];simp[fX];omega
  rw[← hn];refine⟨fun _=>⟨by simp;omega,fun h=>?_,fun h=>?_⟩,fun h=>by simp at h<;>omega⟩
  ·have e:(c::rest).all fX=rest.all fX:=by simp[h]
   rw[e]at h1 h2;refine hR _ (bd ?_ (ih (pre++[c]) (by simp) (by simp) h1 h2));rw[bu (by simp at hlen;omega)];simp only[ak,ag,ay]
   repeat' constructor
  ·exact h2 (by simp[h]) ..
theorem lB(s:List UInt8)(J:ae):PC prog 161 [.s s] J (fun r J'=>r=.b (ahz s)∧J'=J):=by
 refine PC.intro func161 acq fun bz dH=>aB ?_;have hlen:=zy (dH 0 _ rfl).1;simp only[WX,SS,seval];simp only[VV,seval];cases s with
 | nil =>
  refine⟨fun _=>aR (.inr rfl) rfl ⟨rfl,rfl⟩,nofun⟩
 | cons c r =>
  refine⟨fun h=>?_,fun h=>?_⟩
  ·refine aR (.inr rfl) rfl ⟨?_,rfl⟩;simp at h;simp[Pm.one,ahz];omega
  ·simp at h;refine cc.wy (r.length+2) (aD fun R hR=>?_);simp only[xO,aF,VV,Int.reduceBEq,Int.reduceBNe,Nat.reduceAdd,Nat.reduceSub,Nat.reduceLeDiff,Nat.reduceEqDiff,Int.reduceToNat,reduceIte,reduceCtorEq]
   have nM:((decide (97≤(c.toNat:Int))&&decide ((c.toNat:Int)≤122))||(decide ((0:Int)<0)&&((decide (48≤(c.toNat:Int))&&decide ((c.toNat:Int)≤57))||((c.toNat:Int)==45))))=decide (97≤c.toNat∧c.toNat≤122):=by
    rw[df];simp;omega
   have Lw:(c::r).length≤24:=by simp;omega
   rw[nM];refine⟨fun _=>⟨by simp,fun h2=>?_,fun h2=>?_⟩,fun h=>by simp at h<;>omega⟩
   ·have e:ahz (c::r)=r.all fX:=by
     simp only[ahz,h2,Lw,kX,cm]
    refine hR _ (bd ?_ (P7 (c::r) hlen r [c] rfl (by simp) (fun h1=>?_) (fun h1=>?_)))
    ·rw[show IntKind.i64.wrap (0+1)=(([c].length:Nat):Int)from IntWalk.i64_in _ (by decide)]
     repeat' constructor
    ·simp only[JE];intros;simp only[VV,seval];exact aR (.inr rfl) rfl ⟨by simp only[Pm.one,e,h1,aF,aP],rfl⟩
    ·simp only[JE];intros;simp only[VV,seval];exact aR (.inr rfl) rfl ⟨by simp only[Pm.one,e,h1,aF,aP],rfl⟩
   ·refine aR (.inr rfl) rfl ⟨?_,rfl⟩;have e:ahz (c::r)=false:=by simp only[ahz,h2,jF,dN]
    rw[e];rfl
theorem Tw{n:Nat}{J:ae}{K:Exit→St→Prop}(s:List UInt8)(hlen:s.length<2^63):∀ (rest pre:List UInt8),s=pre++rest→32 ∉ pre →
  (32 ∉ s→((fh (.s s) (fj 17 fo)) fun ZZ=>K (.exit 0) ⟨ZZ,J⟩))→(32∈s→((fj 2 (fh (.s (s.take (Lib.indexByte s 32).toNat)) (fj 15 fo))) fun ZZ=>K .ret ⟨ZZ,J⟩)) →
  fJ n prog HK K (rest.length+1) ⟨(.s s::uu 2 (.i .i64 pre.length::uu 14 [])),J⟩:=by
 intro rest
 induction rest with
 | nil =>
  intro pre he hp h1 h2;have he:s=pre:=by simpa using he
  subst he;refine aD fun R hR=>?_;simp only[HK,VV,seval];exact⟨fun h=>by simp at h,fun _=>h1 hp ..⟩
 | cons c rest ih =>
  intro pre he hp h1 h2;subst he;refine aD fun R hR=>?_;simp only[HK,VV,seval];refine⟨fun _=>⟨by simp;omega,fun h=>⟨by simp;omega,?_⟩,fun h=>?_⟩,fun h=>by simp at h<;>omega⟩
  ·have hc:c=32:=by
    rw[show(32:Int)=((32:UInt8).toNat:Int)from rfl,tV]at h;simpa using h
   subst hc
   have e:(Lib.indexByte (pre++32::rest) 32).toNat=pre.length:=by
    rw[oK hp];simp
   have:=h2 (by simp);rw[e]at this;exact this ..
  ·have hc:¬ c=32:=by
    rw[show(32:Int)=((32:UInt8).toNat:Int)from rfl,tV]at h;simpa using h
   refine hR _ (bd ?_ (ih (pre++[c]) (by simp) (by simp[hp,SJ hc]) h1 h2));rw[bu (by simp at hlen;omega)];simp only[ak,ag,ay]
   repeat' constructor
theorem nU(s:List UInt8)(J:ae):PC prog 80 [.s s] J (fun r J'=>r=.s (cG s)∧J'=J):=by
 refine PC.intro func80 c80 fun bz dH=>aB ?_;have hlen:=zy (dH 0 _ rfl).1;simp only[p80,SS,seval];simp only[VV,seval];refine cc.bd ?_ (s.length+1) (Tw s hlen s [] rfl (by simp) (fun h=>?_) (fun h=>?_))
 ·repeat' constructor
 ·simp only[JE];intros;simp only[VV,seval];refine aR (.inr rfl) rfl ⟨?_,rfl⟩;have:Lib.indexByte s 32 = -1:=qc h;simp[Pm.one,cG,cutAt,this]
 ·simp only[JE];intros;refine aR (.inr rfl) rfl ⟨?_,rfl⟩;have:0≤Lib.indexByte s 32:=mF h;simp[Pm.one,cG,cutAt,this]
theorem Qf{J:ae}{K:Exit→St→Prop}(N:Nat)(hN:N<2^40):∀ (k i:Nat),i+k=N →
  ((fj 3 (fh (.own J.length N) (fj 11 fo))) fun ZZ=>K (.exit 0) ⟨ZZ,J++[.row 3 1 8 N false ((b8 N).map b5)]⟩) →
  fJ J.length prog Ce K (k+1) ⟨(.i .i64 N::uu 2 (.own J.length i::.i .i64 ((i+1:Nat):Int)::uu 10 [])),J++[.row 3 1 8 i false ((b8 i).map b5)]⟩:=by
 intro k
 induction k with
 | zero =>
  intro i he h1;have he:i=N:=by omega
  subst he;refine aD fun R hR=>?_;simp only[Ce,VV,seval];exact⟨fun h=>by simp at h<;>omega,fun _=>h1 ..⟩
 | succ k ih =>
  intro i he h1;refine aD fun R hR=>?_;have hc:(b8 i).map b5++[[.i .i64 ((i+1:Nat):Int)]]=(b8 (i+1)).map b5:=by simp[b8,RY,b5]
  have bz:(b8 i).length=i:=by simp[b8]
  simp only[Ce,hc,ah,bz,VV,seval];refine⟨fun _=>⟨⟨by omega,by simp only[maxLen];omega⟩,?_⟩,fun h=>by simp at h<;>omega⟩;refine hR _ (bd ?_ (ih (i+1) (by omega) h1));rw[bu (by omega)]
  repeat' constructor
theorem Jy(n:Nat)(hn:n<2^40)(J:ae):PC prog 105 [.i .i64 n] J (fun r J'=>r=.sl 1 ((b8 n).map b5)∧J'=J):=by
 refine PC.intro func105 acT fun bz dH=>aB ?_;simp only[Xr,SS,seval];simp only[VV,seval];refine cc.wk ((Wk.ko (k:=3) tI rfl).trans (Wk.iS ?_)) (cc.wy (n+1) (Qf n hn n 0 (by omega) ?_))
 ·simp only[VV,seval]
  repeat' constructor
 ·simp only[JE];intros;simp only[VV,seval];refine pO 0 bz (.inr rfl) rfl rfl ?_ ?_
  ·simp[fz,rf,eQ,vo]
  ·simp[fz,rf,Pm.one]
theorem TF{J:ae}{K:Exit→St→Prop}(its:List It)(bz:bK J)(hlen:its.length<2^40):∀ (rest pre:List It) (acc:List Int) (g:Nat),its=pre++rest→acc.length≤pre.length →
  (∀ g,((fj 3 (fh (.own J.length g) (fj 31 fo))) fun ZZ=>K (.exit 0) ⟨ZZ,J++[.row 3 1 8 g true ((ca acc rest).map b5)]⟩)) →
  fJ J.length prog HU K (rest.length+1) ⟨(.sl 3 (its.map It.ahq)::uu 2 (.own J.length g::uu 2 (.i .i64 its.length::.i .i64 pre.length::uu 27 []))),J++[.row 3 1 8 g true (acc.map b5)]⟩:=by
 intro rest
 induction rest with
 | nil =>
  intro pre acc g he ha h1;have he:its=pre:=by simpa using he
  subst he;refine aD fun R hR=>?_;simp only[HU,VV,seval];exact⟨fun h=>by simp at h,fun _=>h1 g ..⟩
 | cons y rest ih =>
  intro pre acc g he ha h1;subst he
  have hw:IntKind.i64.wrap ((pre.length:Int)+1)=(((pre++[y]).length:Nat):Int):=by
   rw[bu (by simp at hlen;omega)];simp
  refine aD fun R hR=>?_;simp only[HU,It.ahq,VV,seval];refine⟨fun _=>⟨by simp;omega,?_⟩,fun h=>by simp at h<;>omega⟩;refine aC (rN y _) rfl ?_;have bnd:(0:Int)≤pre.length∧(pre.length:Int)<(List.map It.ahq (pre++y::rest)).length:=by simp;omega
  cases ht:bG y with
  | false =>
   have e:ca acc (y::rest)=ca acc rest:=by simp[ca,ht]
   rw[e]at h1;simp only[It.ahq,VV,seval];refine⟨nofun,.i .i64 0,nofun,?_⟩;refine cn (c:=false) (v:=.b false) (by rfl) (nofun) rfl ?_;simp only[VV,seval];refine hR _ (bd ?_ (ih (pre++[y]) acc g (by simp) (by simp;omega) h1));rw[hw];repeat' constructor
  | true =>
   simp only[It.ahq,VV,seval];refine⟨bnd,.i .i64 y.id,rfl,?_⟩;refine cn (c:=true) (by rfl) (fun _=>PC.fzs J.length (by simp only[gk];rfl) (Mo acc y.id _) (by simp only[az,bD,ev,aP,aF,fz,rf,kY,aO])) rfl ?_;simp only[It.ahq,VV,seval];refine⟨fun h=>?_,fun h=>?_⟩
   ·have h:acc.contains y.id=false:=by rw[cS]at h;exact h
    have e:ca acc (y::rest)=ca (acc++[y.id]) rest:=by simp only[ca,ht,h,fT,uZ,aO]
    rw[e]at h1;have hr:acc.map b5++[[V.i .i64 y.id]]=(acc++[y.id]).map b5:=by simp[b5]
    rw[hr];refine⟨bnd,⟨by simp at hlen ⊢;omega,by simp at hlen ⊢;simp only[maxLen];omega⟩,?_⟩;refine hR _ (bd ?_ (ih (pre++[y]) (acc++[y.id]) (g+1) (by simp) (by simp;omega) h1));rw[hw];repeat' constructor
   ·have h:acc.contains y.id=true:=by rw[gy]at h;exact h
    have e:ca acc (y::rest)=ca acc rest:=by simp only[ca,ht,h,eB,jF];rfl
    rw[e]at h1;refine hR _ (bd ?_ (ih (pre++[y]) acc g (by simp) (by simp;omega) h1));rw[hw];repeat' constructor
theorem BF(its:List It)(hlen:its.length<2^40)(J:ae):PC prog 36 [.sl 3 (its.map It.ahq)] J (fun r J'=>r=.sl 1 ((ahH its).map b5)∧J'=J):=by
 refine PC.intro func36 c36 fun bz dH=>aB ?_;simp only[p36,SS,seval];simp only[ah,VV,seval];refine cc.wk ((Wk.ko (k:=3) tI rfl).trans (Wk.Ta.trans (Wk.iS ?_))) (cc.wy (its.length+1) (TF its bz hlen its [] [] 0 rfl (au _) ?_))
 ·simp only[VV,seval]
  repeat' constructor
 ·intro g;simp only[JE];intros;simp only[VV,seval];refine pO 0 bz (.inr rfl) rfl rfl ?_ ?_
  ·simp[fz,rf,eQ,vo]
  ·simp[fz,rf,Pm.one,ahH]
theorem Dg:Ti prog 61 3 32:=nA (by kernel_rfl)
theorem MO{J:ae}{K:Exit→St→Prop}(its:List It)(bz:bK J)(hlen:its.length<2^40)(XR:aN its<2^40):∀ (rest pre out:List It) (g:Nat),its=pre++rest→out.length≤pre.length→aN out≤aN pre →
  (∀ g,((fj 3 (fh (.own J.length g) (fj 57 fo))) fun ZZ=>K (.exit 0) ⟨ZZ,J++[.row 61 3 32 g false ((rest.foldl cg out).map It.ahq)]⟩)) →
  fJ J.length prog DR K (rest.length+1) ⟨(.sl 3 (its.map It.ahq)::uu 2 (.own J.length g::uu 4 (.i .i64 its.length::.i .i64 pre.length::uu 51 []))),J++[.row 61 3 32 g false (out.map It.ahq)]⟩:=by
 intro rest
 induction rest with
 | nil =>
  intro pre out g he ho ht h1;have he:its=pre:=by simpa using he
  subst he;refine aD fun R hR=>?_;simp only[DR,VV,seval];exact⟨fun h=>by simp at h,fun _=>h1 g ..⟩
 | cons x rest ih =>
  intro pre out g he ho ht h1;subst he
  have next:∀ (out':List It) (g':Nat) {loc:ae},cg out x=out'→∀ {R:St→Prop} {fr:List V},(∀ st',fJ J.length prog DR K (rest.length+1) st'→R st') →
    oY fr (.sl 3 ((pre++x::rest).map It.ahq)::uu 2 (.own J.length g'::uu 4 (.i .i64 (pre++x::rest).length::.i .i64 (IntKind.i64.wrap ((pre.length:Int)+1))::uu 51 [])))→R ⟨fr,J++(.row 61 3 32 g' false (out'.map It.ahq)::loc)⟩:=by
   intro out' g' loc hw R fr hR hc
   have e1:IntKind.i64.wrap ((pre.length:Int)+1)=(((pre++[x]).length:Nat):Int):=by
    rw[bu (by simp at hlen;omega)];simp
   rw[e1]at hc;have hb:=mD out x;rw[hw]at hb;have e2:(x::rest).foldl cg out=rest.foldl cg out':=by rw[cV,hw]
   rw[e2]at h1;refine hR _ (b7 [_] loc (cv bz (by simp)) hc ?_ (ih (pre++[x]) out' g' (by simp) (by simp;omega) (by simp only[dt,aN];omega) h1));simp only[LW,ag,ay,bo];omega
  have okA:(out.length+1)*32≤2^47∧out.length+1≤maxLen:=by simp at hlen;simp[maxLen];omega
  refine aD fun R hR=>?_;simp only[DR,It.ahq,VV,seval];refine⟨fun _=>⟨by simp;omega,fun hk=>?_,fun hk=>⟨fun Kq=>?_,fun Kq=>?_⟩⟩,fun h=>by simp at h<;>omega⟩
  ·have hk:x.ahr≠1:=by simpa using hk
   have ck:out.map It.ahq++[[.i .i64 x.ahr,.s x.aht,.i .i64 x.id]]=(out++[x]).map It.ahq:=by simp[It.ahq]
   refine⟨by rw[ah];exact okA,?_⟩;rw[ck];refine next (out++[x]) (g+1) (by simp[cg,hk]) hR ?_
   repeat' constructor
  ·have hk:x.ahr=1:=by simpa using hk
   have Kq:x.aht=[]:=by simpa using Kq
   refine next out g (by simp[cg,hk,Kq]) hR ?_
   repeat' constructor
  have hk:x.ahr=1:=by simpa using hk
  have Kq:x.aht≠[]:=by simpa using Kq
  rcases fb out with Gy | ⟨out',y,Gx⟩
  ·subst Gy;have e0:decide ((0:Int)<(([]:List (List V)).length:Int))=false:=rfl;simp only[bD,e0];refine⟨nofun,.i .i64 0,nofun,?_⟩;simp only[VV,seval];refine⟨by decide,next [⟨1,x.aht,0⟩] (g+1) (by simp[cg,hk,Kq]) hR ?_⟩
   repeat' constructor
  ·rw[fc]at Gx;subst Gx
   have hp:IntKind.i64.wrap (((out'++[y]).length:Int) - 1)=out'.length:=by
    have:(out'++[y]).length<2^63:=by simp at ho hlen ⊢;omega
    rw[IntWalk.i64_in _ (by simp at this ⊢;omega)];simp
   have eH:fw (List.map It.ahq (out'++[y])) out'.length 0=some (.i .i64 y.ahr):=by
    rw[oU];rfl
   have e0:decide ((0:Int)<((List.map It.ahq (out'++[y])).length:Int))=true:=by simp
   simp only[e0,ah,hp,aM,eH];refine⟨fun _=>by simp;omega,.i .i64 y.ahr,fun _=>⟨True,rfl,trivial⟩,?_⟩;have e3:decide ((0:Int)<((out'++[y]).length:Int))=true:=by simp
   have QU:fw (List.map It.ahq (out'++[y])) out'.length 1=some (.s y.aht):=by
    rw[oU];rfl
   simp only[e3,hp,aM,QU,ah,VV,seval];have hb:(0:Int)≤(out'.length:Int)∧(out'.length:Int)<((out'++[y]).length:Int):=⟨by omega,by rw[ak,List.length_singleton];omega⟩;refine⟨fun hy=>⟨hb,?_,hb,by omega,?_⟩,fun hy=>⟨okA,?_⟩⟩
   ·simp only[dt,aN]at ht XR;simp only[maxLen];omega
   ·have hy:y.ahr=1:=by simpa using hy
    have ck:(List.map It.ahq (out'++[y])).set out'.length (.i .i64 1::.s (y.aht++x.aht)::.i .i64 0::List.drop 3 y.ahq)=(out'++[(⟨1,y.aht++x.aht,0⟩:It)]).map It.ahq:=by
     simp[List.set_append,It.ahq]
    rw[ck];refine next (out'++[⟨1,y.aht++x.aht,0⟩]) g (by simp[cg,hk,Kq,hy]) hR ?_
    repeat' constructor
   ·have hy:¬ y.ahr=1:=by simpa using hy
    have ck:List.map It.ahq (out'++[y])++[[.i .i64 1,.s x.aht,.i .i64 0]]=(out'++[y]++[(⟨1,x.aht,0⟩:It)]).map It.ahq:=by simp[It.ahq]
    rw[ck];refine next (out'++[y]++[⟨1,x.aht,0⟩]) (g+1) (by simp[cg,hk,Kq,hy]) hR ?_
    repeat' constructor
theorem pU(its:List It)(hlen:its.length<2^40)(ht:aN its<2^40)(J:ae):PC prog 82 [.sl 3 (its.map It.ahq)] J (fun r J'=>r=.sl 3 ((ahy its).map It.ahq)∧J'=J):=by
 refine PC.intro func82 c82 fun bz dH=>aB ?_;simp only[ZI,SS,seval];simp only[ah,VV,seval];refine cc.wk ((Wk.ko (k:=3) Dg rfl).trans (Wk.iS ?_)) (cc.wy (its.length+1) (MO its bz hlen ht its [] [] 0 rfl (au _) (au _) ?_))
 ·simp only[VV,seval]
  repeat' constructor
 ·intro g;simp only[JE];intros;simp only[VV,seval];refine pO 0 bz (.inr rfl) rfl rfl ?_ ?_
  ·simp[fz,rf,eQ,vo]
  ·have e:its.foldl cg []=ahy its:=lE its;simp[fz,rf,Pm.one,e]
theorem kf(a b:List It)(ha:a.length<2^39)(hb:b.length<2^39)(eH:aN a<2^39)(hbt:aN b<2^39)(J:ae):PC prog 48 [.sl 3 (a.map It.ahq),.sl 3 (b.map It.ahq)] J (fun r J'=>r=.sl 3 ((ahy (a++b)).map It.ahq)∧J'=J):=by
 refine PC.intro func48 c48 fun bz dH=>aB ?_;simp only[ZJ,SS,seval];simp only[ah,VV,seval];refine⟨by simp[maxLen];omega,by simp[maxLen];omega,?_⟩;refine nz J.length (by simp only[gk];rfl) (pU (a++b) (by simp;omega) (by rw[dt];omega) _) (by simp[fz,rf,ev]) ?_;simp only[VV,seval];exact lA bz (by rfl) (by simp[LW])
theorem kF{S:ae}{a:Nat}{l:List Int}{k:Nat}{loc:ae}:(iV S a l k++loc)[S.length]?=loc[0]?:=by
 rw[aH (by rw[bC];exact au _),bC,eT]
theorem nb{S:ae}{a:Nat}{l:List Int}{k j:Nat}{loc:ae}:(iV S a l k++loc)[S.length+j]?=loc[j]?:=by
 rw[aH (by rw[bC];omega),bC,cR]
theorem fD{S:ae}{a:Nat}{l:List Int}{k:Nat}{loc:ae}{o:Ob}:(iV S a l k++loc).set S.length o=iV S a l k++loc.set 0 o:=by
 rw[cI _ _ (by rw[bC];exact au _),bC,eT]
theorem ng{S:ae}{a:Nat}{l:List Int}{k j:Nat}{loc:ae}{o:Ob}:(iV S a l k++loc).set (S.length+j) o=iV S a l k++loc.set j o:=by
 rw[cI _ _ (by rw[bC];omega),bC,cR]
theorem kP{S:ae}{a:Nat}{l:List Int}{k k':Nat}(h:bK (iV S a l k)):bK (iV S a l k'):=by
 intro id o hid j x hx
 by_cases e:a=id
 ·subst e;simp only[iV]at hid;rw[List.getElem?_set]at hid;simp only[aO]at hid;split at hid
  ·simp only[aa]at hid;subst hid;rcases j with _ | _ | j
   ·simp only[Ob.refs,aq,aa]at hx;subst hx;exact .sl _ _
   ·simp only[Ob.refs,bF,aq,aa]at hx;subst hx;exact .i _ _
   ·simp[Ob.refs]at hx
  ·simp at hid
 ·have e1:(iV S a l k)[id]?=some o:=by
   simp only[iV]at hid ⊢;rw[aK e]at hid ⊢;exact hid
  have:=h id o e1 j x hx;rw[bC]at this ⊢;exact this
theorem gz(S:ae)(a:Nat)(ha:a<S.length)(l:List Int)(k:Nat)(hk:k<2^60)(n:Int)(hn:0<n)(Es:n<2^62)(loc:ae):
  PC prog 43 [.ptr a 0,.i .i64 n] (iV S a l k++loc) (fun r J'=>∃ v:Int,r=.i .i64 v∧(0≤v∧v<n)∧J'=iV S a l (k+1)++loc):=by
 rw[ln ha];refine(sW (S++loc) a (by rw[ak];omega) l k hk n hn Es).mono ?_;rintro r J' ⟨v,h1,h2,h3⟩;exact⟨v,h1,h2,by rw[h3,ln ha]⟩
theorem Ia(S:ae)(a:Nat)(ha:a<S.length)(l:List Int)(k:Nat)(hk:k<2^58)(n:Nat)(hn:n<2^20)(loc:ae):
  PC prog 79 [.ptr a 0,.i .i64 n] (iV S a l k++loc) (fun r J'=>∃ (s:List UInt8) (k':Nat),r=.s s∧s.length≤6*n∧(k≤k'∧k'≤k+2*n+1)∧J'=iV S a l k'++loc):=by
 rw[ln ha];refine(Qi (S++loc) a (by rw[ak];omega) l k hk n hn).mono ?_;rintro r J' ⟨s,k',h1,h2,h3,h4⟩;exact⟨s,k',h1,h2,h3,by rw[h4,ln ha]⟩
theorem jH{f:List It}(x:It)(h:bh [] f=0):aN (ahy (f++[x]))≤aN f+x.aht.length∧(ahy (f++[x])).length≤f.length+1:=by
 rw[fC (mC h)];exact mD f x
def pE(t:List UInt8):List (List UInt8):=[[114,111,116],[100,97,115,32,65,117,116,111],[],[101,105,110,32]++t,t]
theorem Bp{t w:List UInt8}(h:w∈pE t):w.length≤t.length+8:=by
 simp only[pE,bA,eA,sf]at h;rcases h with rfl | rfl | rfl | rfl | rfl<;>simp
theorem Tu(S:ae)(a:Nat)(ha:a<S.length)(l:List Int){K:Exit→St→Prop}(k0:Nat)(O7:k0<2^50)(bz:bK (iV S a l k0))(src:List It)(rU:bh [] src=0)(hlen:src.length≤100)(Y9:aN src≤10000):
  ∀ (rest pre f:List It) (k:Nat),src=pre++rest→Hf pre f→f.length≤2*pre.length→aN f≤aN pre+20*pre.length→(k0≤k∧k≤k0+10*pre.length) →
  (∀ (k:Nat) (f:List It),Hf src f→f.length≤2*src.length→aN f≤aN src+20*src.length→(k0≤k∧k≤k0+10*src.length)→((fj 5 (fh (.sl 3 (f.map It.ahq)) (fj 40 fo))) fun ZZ=>K (.exit 0) ⟨ZZ,iV S a l k⟩)) →
  fJ S.length prog DP K (rest.length+1) ⟨(.ptr a 0::.sl 3 (src.map It.ahq)::uu 3 (.sl 3 (f.map It.ahq)::uu 3 (.i .i64 src.length::.i .i64 pre.length::uu 35 []))),iV S a l k⟩:=by
 intro rest
 induction rest with
 | nil =>
  intro pre f k he hT qN Zl hk h1;have he:src=pre:=by simpa using he
  subst he;refine aD fun R hR=>?_;simp only[DP,VV,seval];exact⟨fun h=>by simp at h,fun _=>h1 k f hT qN Zl hk ..⟩
 | cons x rest ih =>
  intro pre f k he hT qN Zl hk h1;subst he;have Ln:aN (pre++x::rest)=aN pre+(x.aht.length+aN rest):=by rw[dt];rfl
  have hpt:aN (pre++[x])=aN pre+x.aht.length:=by rw[dt];simp[aN]
  have zn:(pre++[x]).length=pre.length+1:=by simp
  have Sn:(pre++x::rest).length=pre.length+(rest.length+1):=by simp
  have hw:IntKind.i64.wrap ((pre.length:Int)+1)=(((pre++[x]).length:Nat):Int):=by
   rw[bu (by omega),zn]
  have Zc:(0:Int)≤pre.length∧(pre.length:Int)<(List.map It.ahq (pre++x::rest)).length:=by simp;omega
  refine aD fun R hR=>?_
  have fin:∀ (g:List It) (k':Nat) (fr:List V) (loc:ae),Hf (pre++[x]) g→g.length≤f.length+2→aN g≤aN f+x.aht.length+20→(k≤k'∧k'≤k+10) →
    oY fr (.ptr a 0::.sl 3 ((pre++x::rest).map It.ahq)::uu 3 (.sl 3 (g.map It.ahq)::uu 3 (.i .i64 (pre++x::rest).length::.i .i64 (pre++[x]).length::uu 35 [])))→R ⟨fr,iV S a l k'++loc⟩:=by
   intro g k' fr loc g1 g2 g3 g4 hc;refine hR _ (mw (by rw[bC];exact au _) (kP bz) hc ?_ (ih (pre++[x]) g k' (by simp) g1 (by omega) (by omega) (by omega) h1));simp only[bC,ha,LW]
  by_cases rV:x.ahr=1
  ·have e1:(x.ahr==1)=true:=by simp[rV]
   simp only[DP,aM,It.ahq,e1,bC,kF,fD,VV,seval];refine⟨fun _=>⟨Zc,by simp only[maxLen];omega,?_⟩,fun h=>by simp at h<;>omega⟩;refine db (gz S a ha l k (by omega) 5 (by decide) (by decide) _) rfl ?_;rintro _ _ ⟨v,rfl,hv,rfl⟩;obtain⟨w,Gv,ew⟩:=jO (ws:=pE x.aht) (n:=v.toNat) (by simp[pE];omega);have QF:=Bp Gv;simp only[pE,az,bD,bg,aW]at ew;simp only[ew,bC,kF,fD,hw,VV,seval];refine⟨by omega,?_⟩
   have Vn:x.id=0:=by
    rw[pk,rv]at rU;exact(qP rV rU.2.1).2.1
   have hb:=jH ⟨1,w,0⟩ hT.err;refine ly (zs:=[.sl 3 (f.map It.ahq),.sl 3 ([(⟨1,w,0⟩:It)].map It.ahq)]) ?_ (kf f [⟨1,w,0⟩] (by omega) (by simp) (by omega) (by simp[aN];omega) _) ?_
   ·simp only[rV,Vn];exact .cons (.refl _) (.cons (.lit _ _) .nil)
   ·simp only[hw,VV,seval];refine fin _ _ _ _ (hT.aht rV w) (by omega) (by simp only at hb;omega) (by omega) ?_
    repeat' constructor
  ·have e1:(x.ahr==1)=false:=by simpa using rV
   simp only[DP,aM,It.ahq,e1,bC,kF,fD,VV,seval];refine⟨fun _=>⟨Zc,?_⟩,fun h=>by simp at h<;>omega⟩;refine db (gz S a ha l k (by omega) 3 (by decide) (by decide) _) rfl ?_;rintro _ _ ⟨v,rfl,hv,rfl⟩;have hex:(⟨x.ahr,x.aht,x.id⟩:It)=x:=rfl
   by_cases O3:v=0
   ·have e2:(v==0)=true:=by simp[O3]
    simp only[e2,bC,kF,fD,hw,VV,seval];refine db (Ia S a ha l (k+1) (by omega) 2 (by decide) _) rfl ?_;rintro _ _ ⟨t,k',rfl,ht,hk',rfl⟩;have hb:=jH ⟨1,t,0⟩ hT.err;simp only at hb;have hT2:=hT.more t;have jA:=jH x hT2.err;simp only[bC,kF,fD,hw,VV,seval];refine ly (zs:=[.sl 3 (f.map It.ahq),.sl 3 ([(⟨1,t,0⟩:It)].map It.ahq)]) (.cons (.refl _) (.cons (.lit _ _) .nil)) (kf f [⟨1,t,0⟩] (by omega) (by simp) (by omega) (by simp[aN];omega) _) ?_;simp only[bC,kF,fD,hw,VV,seval];refine ly (zs:=[.sl 3 ((ahy (f++[(⟨1,t,0⟩:It)])).map It.ahq),.sl 3 ([x].map It.ahq)]) (.cons (.refl _) (.cons (.lit _ _) .nil)) (kf _ [x] (by omega) (by simp) (by omega) (by simp[aN];omega) _) ?_;simp only[hw,VV,seval];refine fin _ _ _ _ (hT2.item rU rV) (by omega) (by omega) (by omega) ?_
    repeat' constructor
   ·have e2:(v==0)=false:=by simpa using O3
    have jA:=jH x hT.err;simp only[e2,bC,kF,fD,hw,VV,seval];refine ly (zs:=[.sl 3 (f.map It.ahq),.sl 3 ([x].map It.ahq)]) (.cons (.refl _) (.cons (.lit _ _) .nil)) (kf f [x] (by omega) (by simp) (by omega) (by simp[aN];omega) _) ?_;simp only[hw,VV,seval];refine fin _ _ _ _ (hT.item rU rV) (by omega) (by omega) (by omega) ?_
    repeat' constructor
theorem I3(S:ae)(a:Nat)(ha:a<S.length)(l:List Int)(k:Nat)(hk:k<2^50)(src:List It)(rU:bh [] src=0)(hlen:src.length≤100)(Y9:aN src≤10000):
  PC prog 94 [.ptr a 0,.sl 3 (src.map It.ahq)] (iV S a l k) (fun r J'=>∃ (f:List It) (k':Nat),r=.sl 3 (f.map It.ahq)∧bh [] f=0∧f.length≤2*src.length∧aN f≤aN src+20*src.length∧(k≤k'∧k'≤k+10*src.length)∧J'=iV S a l k'):=by
 refine PC.intro func94 c94 fun bz dH=>aB ?_;simp only[p94,SS,seval];simp only[ah,bC,VV,seval];refine cc.bd (fr':=(.ptr a 0::.sl 3 (src.map It.ahq)::uu 3 (.sl 3 (([]:List It).map It.ahq)::uu 3 (.i .i64 src.length::.i .i64 (([]:List It).length:Nat)::uu 35 [])))) ?_ (src.length+1) (Tu S a ha l k hk bz src rU hlen Y9 src [] [] k rfl Hf.nil (by simp) (by simp[aN]) (by simp) ?_)
 ·simp only[bD,ay]
  repeat first | exact .nil | refine .cons (.refl _) ?_ | refine .cons (.nil _) ?_ | refine .cons (.forget _) ?_
 intro k' f hT h1 h2 h3;simp only[JE];intros;simp only[VV,seval];exact fM (.inr rfl) rfl (Wk.refl _ _) (by simp[bC]) ⟨f,k',rfl,hT.err,h1,h2,h3,rfl⟩
theorem vR(its:List It)(hlen:its.length<2^40)(ht:aN its<2^40)(J:ae):PC prog 82 [.sl 3 (its.map It.ahq)] J (fun r J'=>r=.own J.length 0∧J'=J++[.row 61 3 32 0 false ((ahy its).map It.ahq)]):=by
 refine PC.intro func82 c82 fun bz dH=>aB ?_;simp only[ZI,SS,seval];simp only[ah,VV,seval];refine cc.wk ((Wk.ko (k:=3) Dg rfl).trans (Wk.iS ?_)) (cc.wy (its.length+1) (MO its bz hlen ht its [] [] 0 rfl (au _) (au _) ?_))
 ·simp only[VV,seval]
  repeat' constructor
 ·intro g;simp only[JE];intros;simp only[VV,seval];have e:its.foldl cg []=ahy its:=lE its;rw[e];exact sM 0 bz (.inr rfl) rfl rfl rfl (by simp[zP,Ob.gen]) (by simp[Pm.one,PU,Ob.fresh])
theorem BG(a b:List It)(ha:a.length<2^39)(hb:b.length<2^39)(eH:aN a<2^39)(hbt:aN b<2^39)(J:ae):PC prog 48 [.sl 3 (a.map It.ahq),.sl 3 (b.map It.ahq)] J (fun r J'=>r=.own J.length 0∧J'=J++[.row 61 3 32 0 false ((ahy (a++b)).map It.ahq)]):=by
 refine PC.intro func48 c48 fun bz dH=>aB ?_;simp only[ZJ,SS,seval];simp only[ah,VV,seval];refine⟨by simp[maxLen];omega,by simp[maxLen];omega,?_⟩;refine nz J.length (by simp only[gk];rfl) (vR (a++b) (by simp;omega) (by rw[dt];omega) _) (by simp[fz,rf,ev]) ?_;simp only[VV,seval];exact sM 1 bz (.inr rfl) rfl rfl rfl (by simp[zP,Ob.gen]) (by simp[Pm.one,PU,Ob.fresh])
theorem pG(s:List UInt8):(cG s).length≤s.length:=(qS s 32).1
def lH:List (List UInt8):=[[110],[110,97,109,101],[120,49]]
def oM:List (List UInt8):=[[98,114],[105,109,103,32,97]]
def mH:List (List UInt8):=[[98],[105],[97,32,104,61,49]]
theorem qh:∀ s∈lH,ahz s=true∧s.length≤5:=by decide +kernel
theorem z7:∀ s∈oM,cP s=true∧s.length≤5:=by decide +kernel
theorem vB:∀ s∈mH,cP s=true∧ahz (cG s)=true∧s.length≤5:=by decide +kernel
def eV(g:Nat)(sh:Bool)(f:List It):Ob:=.row 61 3 32 g sh (f.map It.ahq)
theorem KG{S:ae}{a:Nat}{l:List Int}{k:Nat}{loc:ae}(bz:bK (iV S a l k)){i j g1 g2:Nat}{sh1 sh2:Bool}{f o:List It}(GC:i≠j)(h1:loc[i]?=some (eV g1 sh1 f))(h2:loc[j]?=some (eV g2 sh2 o))
  {xs ys:List V} (hx:SI S.length loc [i,j] xs ys):Wk prog S.length xs (iV S a l k++loc) ys (iV S a l k++[eV 0 sh1 f,eV 0 sh2 o]):=by
 have:=Wk.XH (P:=prog) (xs:=xs) (ys:=ys) (J:=iV S a l k) (loc:=loc) (os:=[eV 0 sh1 f,eV 0 sh2 o]) [i,j] bz (by simpa using GC) rfl (fun q k' hq=>by
  rcases q with _ | _ | q
  ·simp only[aq,aa]at hq;subst hq;exact⟨_,h1,rfl,rfl⟩
  ·simp only[bF,aq,aa]at hq;subst hq;exact⟨_,h2,rfl,rfl⟩
  ·simp at hq) (by rw[bC];exact hx)
 rwa [bC]at this
set_option maxRecDepth 20000 in
theorem MW(S:ae)(a:Nat)(l:List Int)(k:Nat){K:Exit→St→Prop}(opn:List It)(wI:opn.length≤100)(Ir:∀ y∈opn,y.aht.length≤5)(id:Nat)(hid:id≤100)(g2:Nat):∀ (m:Nat) (cur f:List It) (g1:Nat),cur.length=m→(∃ d,opn=cur++d)→vM f cur id→f.length+m≤1000 →
  (∀ (f':List It) (g1:Nat),bh [] f'=0→f'.length=f.length+m→aN f'≤aN f+5*m→((fj 9 (fh (.own S.length g1) (fj 131 fo))) fun ZZ=>K (.exit 3) ⟨ZZ,iV S a l k++[eV g1 false f',eV g2 false opn]⟩)) →
  fJ S.length prog HW K (m+1) ⟨(uu 3 (.b true::uu 5 (.own S.length g1::.own (S.length+1) g2::uu 4 (.i .i64 ((m:Int) - 1)::uu 125 [])))),iV S a l k++[eV g1 false f,eV g2 false opn]⟩:=by
 intro m
 induction m with
 | zero =>
  intro cur f g1 hc _ hG hf h1;have e1:decide ((0:Int)≤((0:Nat):Int) - 1)=false:=rfl;refine aD fun R hR=>?_;simp only[HW,e1,VV,Int.reduceBEq,Int.reduceBNe,Nat.reduceAdd,Nat.reduceSub,Nat.reduceLeDiff,Nat.reduceEqDiff,Int.reduceToNat,reduceIte,reduceCtorEq];exact h1 f g1 hG.err (by omega) (by omega) ..
 | succ m ih =>
  intro cur f g1 hc Ns hG hf h1;obtain⟨d,Nt⟩:=Ns;rcases fb cur with h0 | ⟨cur',y,h0⟩
  ·subst h0;simp at hc
  rw[fc]at h0;subst h0;have hc':cur'.length=m:=by simpa using hc
  subst hc';rw[aY,ow]at Nt;have e0:((cur'.length+1:Nat):Int) - 1=(cur'.length:Int):=by omega
  have Lx:opn.length=cur'.length+(d.length+1):=by rw[Nt];simp
  have hw:IntKind.i64.wrap ((cur'.length:Int) - 1)=(cur'.length:Int) - 1:=IntWalk.i64_in _ (by omega);have eH:∀ j,fw (List.map It.ahq opn) cur'.length j=y.ahq[j]?:=fun j=>by rw[Nt];exact oU
  have TO:=Ir y (by rw[Nt];simp);have TT:=pG y.aht;have hd:decide ((0:Int)≤(cur'.length:Int))=true:=by simp
  have ye:(0:Int)≤(cur'.length:Int)∧(cur'.length:Int)<((List.map It.ahq opn).length:Int):=⟨by omega,by rw[ah];omega⟩;obtain⟨Iy,_⟩:=hG.close (by omega);rw[e0];refine aD fun R hR=>?_;simp only[HW,eV,hd,hw,aM,bC,kF,nb,eH,It.ahq,VV,seval];refine⟨ye,ye,?_⟩;refine aC (nU y.aht _) rfl ?_;simp only[bC,kF,nb,fD,ng,eH,It.ahq,hw,ah,VV,seval];refine⟨by omega,⟨by omega,by simp only[maxLen];omega⟩,?_⟩;have e3:f.map It.ahq++[[V.i .i64 3,.s (cG y.aht),.i .i64 y.id]]=(f++[(⟨3,cG y.aht,y.id⟩:It)]).map It.ahq:=by simp[It.ahq]
  rw[e3];have ht3:aN (f++[⟨3,cG y.aht,y.id⟩])=aN f+(cG y.aht).length:=by simp[dt,aN]
  have hl3:(f++[(⟨3,cG y.aht,y.id⟩:It)]).length=f.length+1:=by simp
  refine hR _ (bd ?_ (ih cur' _ (g1+1) rfl ⟨y::d,Nt⟩ Iy (by omega) fun f' g' q1 q2 q3=>h1 f' g' q1 (by omega) (by omega)))
  repeat' constructor
set_option maxHeartbeats 4000000 in
set_option maxRecDepth 20000 in
theorem MX(S:ae)(a:Nat)(ha:a<S.length)(l:List Int){K:Exit→St→Prop}(k0:Nat)(O7:k0<2^50)(bz:bK (iV S a l k0))(N:Nat)(hN:N≤20):∀ (m:Nat) (k:Nat) (f opn:List It) (id g1 g2:Nat),m≤N→id+m≤N→opn.length+m≤N →
  (∀ y∈opn,y.aht.length≤5)→vM f opn id→f.length+m≤N→aN f+18*m≤18*N→(k0≤k∧k+12*m≤k0+12*N) →
  (∀ (k:Nat) (f opn:List It) (id g1 g2:Nat),id≤N→opn.length≤N→(∀ y∈opn,y.aht.length≤5)→vM f opn id→f.length≤N→aN f≤18*N→(k0≤k∧k≤k0+12*N) →
   ((fj 3 (fh (.b true) (fj 5 (fh (.own S.length g1) (fh (.own (S.length+1) g2) (fj 130 fo)))))) fun ZZ=>K (.exit 0) ⟨ZZ,iV S a l k++[eV g1 false f,eV g2 false opn]⟩)) →
  fJ S.length prog HX K (m+1) ⟨(.ptr a 0::uu 1 (.b true::.b true::uu 5 (.own S.length g1::.own (S.length+1) g2::.i .i64 id::.i .i64 m::uu 128 []))),iV S a l k++[eV g1 false f,eV g2 false opn]⟩:=by
 intro m
 induction m with
 | zero =>
  intro k f opn id g1 g2 hm hid dI Ir hG hf Zl hk h1;refine aD fun R hR=>?_;simp only[HX,VV,Int.reduceBEq,Int.reduceBNe,Nat.reduceAdd,Nat.reduceSub,Nat.reduceLeDiff,Nat.reduceEqDiff,Int.reduceToNat,reduceIte,reduceCtorEq];exact⟨nofun,fun _=>h1 k f opn id g1 g2 (by omega) (by omega) Ir hG (by omega) (by omega) (by omega) ..⟩
 | succ m ih =>
  intro k f opn id g1 g2 hm hid dI Ir hG hf Zl hk h1;have hw:IntKind.i64.wrap (((m+1:Nat):Int) - 1)=(m:Int):=by rw[IntWalk.i64_in _ (by omega)];omega
  refine Jq fun R hR=>?_;simp only[HX];refine cc.cut fun R1 SA=>?_;simp only[VV,Int.reduceBEq,Int.reduceBNe,Nat.reduceAdd,Nat.reduceSub,Nat.reduceLeDiff,Nat.reduceEqDiff,Int.reduceToNat,reduceIte,reduceCtorEq];refine⟨fun _=>?_,fun h=>by simp at h<;>omega⟩;refine SA _ (cc.iS (fr':=(.ptr a 0::uu 1 (.b true::.b true::uu 5 (.own S.length g1::.own (S.length+1) g2::.i .i64 id::.i .i64 (m+1:Nat)::uu 128 [])))) ?_ (by repeat' constructor));clear SA R1;refine cc.YO fun R2 hR2=>cc.ir ?_;refine cc.cut fun R3 hR3=>?_;simp only[eV,bC,kF,nb,fD,ng,VV,Int.reduceBEq,Int.reduceBNe,Nat.reduceAdd,Nat.reduceSub,Nat.reduceLeDiff,Nat.reduceEqDiff,Int.reduceToNat,reduceIte,reduceCtorEq];refine db (Ia S a ha l k (by omega) 3 (by decide) _) rfl ?_;rintro _ _ ⟨t,k1,rfl,ht,rV,rfl⟩;simp only[bC,kF,nb,fD,ng,VV,Int.reduceBEq,Int.reduceBNe,Nat.reduceAdd,Nat.reduceSub,Nat.reduceLeDiff,Nat.reduceEqDiff,Int.reduceToNat,reduceIte,reduceCtorEq];refine hR3 _ (cc.iS (fr':=(.ptr a 0::uu 1 (.b true::.b true::uu 5 (.own S.length g1::.own (S.length+1) g2::.i .i64 id::.i .i64 (m+1:Nat)::.ptr (S.length+2) 0::uu 127 [])))) ?_ (by repeat' constructor));clear hR3 R3;refine cc.YO fun R4 hR4=>?_
  have tail:∀ (x:It) (r1:Ob) (ext:ae) (j k2:Nat) (opn2:List It) (id2 g2':Nat) {fr:List V},(eV g1 true f::r1::.box 61 x.ahq::(ext++[eV 0 false (ahy (f++[x]))]))[j]?=some (eV g2' false opn2)→ext.length+3≠j →
    id2+m≤N→opn2.length+m≤N→(∀ y∈opn2,y.aht.length≤5)→vM (ahy (f++[x])) opn2 id2→x.aht.length≤18→(k≤k2∧k2≤k+12) →
    oY fr (.ptr a 0::uu 1 (.b true::.b true::uu 5 (.own S.length g1::.own (S.length+j) g2'::.i .i64 id2::.i .i64 (m+1:Nat)::.ptr (S.length+2) 0::uu 127 [])))→R4 ⟨fr,iV S a l k2++(eV g1 false f::r1::.box 61 x.ahq::ext)⟩:=by
   intro x r1 ext j k2 opn2 id2 g2' fr hj ig c1 c2 c3 c4 c5 c6 hc;have hb:=jH x hG.err;refine hR4 _ (cc.iS ?_ hc);clear hR4 hc;refine aB ?_;simp only[eV,It.ahq,bC,kF,nb,fD,ng,VV,Int.reduceBEq,Int.reduceBNe,Nat.reduceAdd,Nat.reduceSub,Nat.reduceLeDiff,Nat.reduceEqDiff,Int.reduceToNat,reduceIte,reduceCtorEq];refine RN (zs:=[.sl 3 (f.map It.ahq),.sl 3 ([x].map It.ahq)]) (σ1:=iV S a l k2++(eV g1 true f::r1::.box 61 x.ahq::ext)) ?_ (BG f [x] (by omega) (by simp) (by omega) (by simp[aN];omega) _) ?_
   ·refine(Wk.fz S.length (E:=61) (sz:=3) (by':=32) (g:=g1) (sh:=false) (rows:=f.map It.ahq) (by rw[kF];rfl)).trans ?_;rw[fD];simp only[az,bD,ev,dh,aF,aP,sj,sk,fz,rf,kY,aO];exact Wk.iS (.cons (.refl _) (.cons (.lit _ _) .nil))
   simp only[bC,kF,nb,fD,ng,VV,Int.reduceBEq,Int.reduceBNe,Nat.reduceAdd,Nat.reduceSub,Nat.reduceLeDiff,Nat.reduceEqDiff,Int.reduceToNat,reduceIte,reduceCtorEq];refine hR2 _ (cc.iS (fr':=(.ptr a 0::uu 1 (.b true::.b true::uu 5 (.own (S.length+(ext.length+1+1+1)) 0::.own (S.length+j) g2'::.i .i64 id2::.i .i64 (m+1:Nat)::uu 128 [])))) (aB ?_) (by repeat' constructor));simp only[hw,VV,Int.reduceBEq,Int.reduceBNe,Nat.reduceAdd,Nat.reduceSub,Nat.reduceLeDiff,Nat.reduceEqDiff,Int.reduceToNat,reduceIte,reduceCtorEq]
   refine hR _ (xy (fr':=(.ptr a 0::uu 1 (.b true::.b true::uu 5 (.own (S.length+0) 0::.own (S.length+1) 0::.i .i64 id2::.i .i64 m::uu 128 [])))) (J':=iV S a l k2++[eV 0 false (ahy (f++[x])),eV 0 false opn2])
    ((Wk.iS (ys:=(.ptr a 0::uu 1 (.b true::.b true::uu 5 (.own (S.length+(ext.length+1+1+1)) 0::.own (S.length+j) g2'::.i .i64 id2::.i .i64 m::uu 128 [])))) (by repeat' constructor)).trans
     (KG (i:=ext.length+1+1+1) (j:=j) (g1:=0) (g2:=g2') (kP bz) ig (by simp[eV]) hj ?_)) (ih k2 (ahy (f++[x])) opn2 id2 0 0 (by omega) c1 c2 c3 c4 (by omega) (by omega) (by omega) h1))
   repeat first | exact .nil | refine .cons (.forget _) ?_ | refine .cons (.own 0 (ext.length+1+1+1) 61 3 32 0 false ((ahy (f++[x])).map It.ahq) rfl (by simp;rfl)) ?_ | refine .cons (.own 1 j 61 3 32 g2' false (opn2.map It.ahq) rfl hj) ?_ | refine .cons (.eO _ (by simp only[ha,LW])) ?_
  refine cc.cut fun R5 hR5=>?_;simp only[bC,VV,Int.reduceBEq,Int.reduceBNe,Nat.reduceAdd,Nat.reduceSub,Nat.reduceLeDiff,Nat.reduceEqDiff,Int.reduceToNat,reduceIte,reduceCtorEq];refine db (gz S a ha l k1 (by omega) 8 (by decide) (by decide) _) rfl ?_;rintro _ _ ⟨v,rfl,hv,rfl⟩;simp only[bC,VV,Int.reduceBEq,Int.reduceBNe,Nat.reduceAdd,Nat.reduceSub,Nat.reduceLeDiff,Nat.reduceEqDiff,Int.reduceToNat,reduceIte,reduceCtorEq];refine hR5 _ (cc.iS (fr':=(.ptr a 0::uu 1 (.b true::.b true::uu 5 (.own S.length g1::.own (S.length+1) g2::.i .i64 id::.i .i64 (m+1:Nat)::.ptr (S.length+2) 0::uu 14 (.i .i64 v::uu 112 []))))) (aB ?_) (by repeat' constructor));clear hR5 R5;have Ko:IntKind.i64.wrap ((id:Int)+1)=((id+1:Nat):Int):=bu (by omega);have T7:((id+1:Nat):Int)=(id:Int)+1:=by omega
  have TS:(v=0∨v=1)∨v=2∨(v=3∨v=4)∨(v=5∨v=6)∨v=7:=by omega
  rcases TS with TS | rfl | TS | TS | rfl
  ·have slot:∀ {w:List UInt8},w∈lH→vM (ahy (f++[⟨5,w,0⟩])) opn id:=fun h=>hG.slot (qh _ h).1;rcases TS with rfl | rfl
   ·simp only[bC,kF,nb,fD,ng,VV,Int.reduceBEq,Int.reduceBNe,Nat.reduceAdd,Nat.reduceSub,Nat.reduceLeDiff,Nat.reduceEqDiff,Int.reduceToNat,reduceIte,reduceCtorEq];refine db (gz S a ha l (k1+1) (by omega) 3 (by decide) (by decide) _) rfl ?_;rintro _ _ ⟨u,rfl,hu,rfl⟩;obtain⟨w,Gv,ew⟩:=jO (ws:=lH) (n:=u.toNat) (by simp[lH];omega);simp only[lH,az,bD]at ew;simp only[ew,bC,kF,nb,fD,ng,VV,Int.reduceBEq,Int.reduceBNe,Nat.reduceAdd,Nat.reduceSub,Nat.reduceLeDiff,Nat.reduceEqDiff,Int.reduceToNat,reduceIte,reduceCtorEq];refine⟨by omega,?_⟩;exact tail ⟨5,w,0⟩ (eV g2 false opn) [] 1 (k1+1+1) opn id g2 rfl (by simp) (by omega) (by omega) Ir (slot Gv) (by have:=(qh _ Gv).2;simp only;omega) (by omega) (by repeat' constructor)
   ·simp only[bC,kF,nb,fD,ng,VV,Int.reduceBEq,Int.reduceBNe,Nat.reduceAdd,Nat.reduceSub,Nat.reduceLeDiff,Nat.reduceEqDiff,Int.reduceToNat,reduceIte,reduceCtorEq];refine db (gz S a ha l (k1+1) (by omega) 3 (by decide) (by decide) _) rfl ?_;rintro _ _ ⟨u,rfl,hu,rfl⟩;obtain⟨w,Gv,ew⟩:=jO (ws:=lH) (n:=u.toNat) (by simp[lH];omega);simp only[lH,az,bD]at ew;simp only[ew,bC,kF,nb,fD,ng,VV,Int.reduceBEq,Int.reduceBNe,Nat.reduceAdd,Nat.reduceSub,Nat.reduceLeDiff,Nat.reduceEqDiff,Int.reduceToNat,reduceIte,reduceCtorEq];refine⟨by omega,?_⟩;exact tail ⟨5,w,0⟩ (eV g2 false opn) [] 1 (k1+1+1) opn id g2 rfl (by simp) (by omega) (by omega) Ir (slot Gv) (by have:=(qh _ Gv).2;simp only;omega) (by omega) (by repeat' constructor)
  ·simp only[bC,kF,nb,fD,ng,Ko,VV,Int.reduceBEq,Int.reduceBNe,Nat.reduceAdd,Nat.reduceSub,Nat.reduceLeDiff,Nat.reduceEqDiff,Int.reduceToNat,reduceIte,reduceCtorEq];refine db (gz S a ha l (k1+1) (by omega) 2 (by decide) (by decide) _) rfl ?_;rintro _ _ ⟨u,rfl,hu,rfl⟩;obtain⟨w,Gv,ew⟩:=jO (ws:=oM) (n:=u.toNat) (by simp[oM];omega);simp only[oM,az,bD]at ew;obtain⟨w1,w3⟩:=z7 _ Gv;simp only[ew,bC,kF,nb,fD,ng,Ko,VV,Int.reduceBEq,Int.reduceBNe,Nat.reduceAdd,Nat.reduceSub,Nat.reduceLeDiff,Nat.reduceEqDiff,Int.reduceToNat,reduceIte,reduceCtorEq];refine⟨by omega,?_⟩;have Iy:=hG.empty w1 (by omega) (by omega);rw[← T7]at Iy;exact tail ⟨4,w,((id+1:Nat):Int)⟩ (eV g2 false opn) [] 1 (k1+1+1) opn (id+1) g2 rfl (by simp) (by omega) (by omega) Ir Iy (by simp only;omega) (by omega) (by repeat' constructor)
  ·rcases TS with rfl | rfl
   ·simp only[bC,kF,nb,fD,ng,Ko,VV,Int.reduceBEq,Int.reduceBNe,Nat.reduceAdd,Nat.reduceSub,Nat.reduceLeDiff,Nat.reduceEqDiff,Int.reduceToNat,reduceIte,reduceCtorEq];refine db (gz S a ha l (k1+1) (by omega) 3 (by decide) (by decide) _) rfl ?_;rintro _ _ ⟨u,rfl,hu,rfl⟩;obtain⟨w,Gv,ew⟩:=jO (ws:=mH) (n:=u.toNat) (by simp[mH];omega);simp only[mH,az,bD]at ew;obtain⟨w1,w2,w3⟩:=vB _ Gv;simp only[ew,bC,kF,nb,fD,ng,Ko,ah,VV,Int.reduceBEq,Int.reduceBNe,Nat.reduceAdd,Nat.reduceSub,Nat.reduceLeDiff,Nat.reduceEqDiff,Int.reduceToNat,reduceIte,reduceCtorEq];refine⟨by omega,⟨by omega,by simp only[maxLen];omega⟩,?_⟩;have e3:opn.map It.ahq++[[V.i .i64 2,.s w,.i .i64 ((id+1:Nat):Int)]]=(opn++[(⟨2,w,((id+1:Nat):Int)⟩:It)]).map It.ahq:=by simp[It.ahq]
    rw[e3];have Iy:=hG.opens w1 w2 (by omega) (by omega);rw[← T7]at Iy
    refine tail ⟨2,w,((id+1:Nat):Int)⟩ (eV (g2+1) false (opn++[⟨2,w,((id+1:Nat):Int)⟩])) [] 1 (k1+1+1) (opn++[⟨2,w,((id+1:Nat):Int)⟩]) (id+1) (g2+1) rfl (by simp) (by omega) (by simp;omega) (fun z hz=>by
     rcases bP.1 hz with hz | hz
     ·exact Ir z hz
     ·rw[b6]at hz;subst hz;exact w3) Iy ?_ ?_ ?_
    ·simp only;omega
    ·omega
    ·repeat' constructor
   ·simp only[bC,kF,nb,fD,ng,Ko,VV,Int.reduceBEq,Int.reduceBNe,Nat.reduceAdd,Nat.reduceSub,Nat.reduceLeDiff,Nat.reduceEqDiff,Int.reduceToNat,reduceIte,reduceCtorEq];refine db (gz S a ha l (k1+1) (by omega) 3 (by decide) (by decide) _) rfl ?_;rintro _ _ ⟨u,rfl,hu,rfl⟩;obtain⟨w,Gv,ew⟩:=jO (ws:=mH) (n:=u.toNat) (by simp[mH];omega);simp only[mH,az,bD]at ew;obtain⟨w1,w2,w3⟩:=vB _ Gv;simp only[ew,bC,kF,nb,fD,ng,Ko,ah,VV,Int.reduceBEq,Int.reduceBNe,Nat.reduceAdd,Nat.reduceSub,Nat.reduceLeDiff,Nat.reduceEqDiff,Int.reduceToNat,reduceIte,reduceCtorEq];refine⟨by omega,⟨by omega,by simp only[maxLen];omega⟩,?_⟩;have e3:opn.map It.ahq++[[V.i .i64 2,.s w,.i .i64 ((id+1:Nat):Int)]]=(opn++[(⟨2,w,((id+1:Nat):Int)⟩:It)]).map It.ahq:=by simp[It.ahq]
    rw[e3];have Iy:=hG.opens w1 w2 (by omega) (by omega);rw[← T7]at Iy
    refine tail ⟨2,w,((id+1:Nat):Int)⟩ (eV (g2+1) false (opn++[⟨2,w,((id+1:Nat):Int)⟩])) [] 1 (k1+1+1) (opn++[⟨2,w,((id+1:Nat):Int)⟩]) (id+1) (g2+1) rfl (by simp) (by omega) (by simp;omega) (fun z hz=>by
     rcases bP.1 hz with hz | hz
     ·exact Ir z hz
     ·rw[b6]at hz;subst hz;exact w3) Iy ?_ ?_ ?_
    ·simp only;omega
    ·omega
    ·repeat' constructor
  ·rcases TS with rfl | rfl
   ·rcases fb opn with h0 | ⟨opn',y,h0⟩
    ·subst h0;have e1:decide ((0:Int)≤IntKind.i64.wrap (((0:Nat):Int) - 1))=false:=rfl;simp only[bC,kF,nb,fD,ng,bD,ay,e1,VV,Int.reduceBEq,Int.reduceBNe,Nat.reduceAdd,Nat.reduceSub,Nat.reduceLeDiff,Nat.reduceEqDiff,Int.reduceToNat,reduceIte,reduceCtorEq];exact tail ⟨1,t,0⟩ (eV g2 false []) [] 1 (k1+1) [] id g2 rfl (by simp) (by omega) (by simp;omega) (by simp) (hG.aht t) (by simp only;omega) (by omega) (by repeat' constructor)
    ·rw[fc]at h0;subst h0;have wI:(opn'++[y]).length=opn'.length+1:=by simp
     have Lo:IntKind.i64.wrap (((opn'.length+1:Nat):Int) - 1)=(opn'.length:Int):=by rw[IntWalk.i64_in _ (by omega)];omega
     have AX:IntKind.i64.wrap ((opn'.length:Int)+1)=((opn'.length+1:Nat):Int):=bu (by omega);have e1:decide ((0:Int)≤(opn'.length:Int))=true:=by simp
     have TO:=Ir y (by simp);have TT:=pG y.aht;have eH:∀ j,fw (List.map It.ahq (opn'++[y])) opn'.length j=y.ahq[j]?:=fun j=>oU;have ye:(0:Int)≤(opn'.length:Int)∧(opn'.length:Int)<((opn'.length+1:Nat):Int):=⟨by omega,by omega⟩;obtain⟨Iy,hn⟩:=hG.close (by omega);simp only[bC,kF,nb,fD,ng,ah,wI,Lo,e1,eH,It.ahq,aM,VV,Int.reduceBEq,Int.reduceBNe,Nat.reduceAdd,Nat.reduceSub,Nat.reduceLeDiff,Nat.reduceEqDiff,Int.reduceToNat,reduceIte,reduceCtorEq];refine⟨ye,ye,?_⟩;refine aC (nU y.aht _) rfl ?_;simp only[bC,kF,nb,fD,ng,ah,wI,Lo,AX,e1,eH,It.ahq,aM,VV,Int.reduceBEq,Int.reduceBNe,Nat.reduceAdd,Nat.reduceSub,Nat.reduceLeDiff,Nat.reduceEqDiff,Int.reduceToNat,reduceIte,reduceCtorEq];have e4:List.take opn'.length (List.map It.ahq (opn'++[y]))=List.map It.ahq opn':=by rw[eN];exact List.take_left' (by simp)
     have e5:List.take (opn'.length+1 - (opn'.length+1)) (List.drop (opn'.length+1) (List.map It.ahq (opn'++[y])))=[]:=by simp
     simp only[e4,e5,bV,ah,ay,dm];refine⟨ye,by omega,by omega,⟨by omega,by simp only[maxLen];omega⟩,by omega,⟨by omega,by simp only[maxLen];omega⟩,?_⟩;exact tail ⟨3,cG y.aht,y.id⟩ (eV g2 false (opn'++[y])) [eV 1 false opn'] 3 (k1+1) opn' id 1 rfl (by simp) (by omega) (by omega) (fun z hz=>Ir z (by simp[hz])) (by rw[hn];exact Iy) (by simp only;omega) (by omega) (by repeat' constructor)
   ·rcases fb opn with h0 | ⟨opn',y,h0⟩
    ·subst h0;have e1:decide ((0:Int)≤IntKind.i64.wrap (((0:Nat):Int) - 1))=false:=rfl;simp only[bC,kF,nb,fD,ng,bD,ay,e1,VV,Int.reduceBEq,Int.reduceBNe,Nat.reduceAdd,Nat.reduceSub,Nat.reduceLeDiff,Nat.reduceEqDiff,Int.reduceToNat,reduceIte,reduceCtorEq];exact tail ⟨1,t,0⟩ (eV g2 false []) [] 1 (k1+1) [] id g2 rfl (by simp) (by omega) (by simp;omega) (by simp) (hG.aht t) (by simp only;omega) (by omega) (by repeat' constructor)
    ·rw[fc]at h0;subst h0;have wI:(opn'++[y]).length=opn'.length+1:=by simp
     have Lo:IntKind.i64.wrap (((opn'.length+1:Nat):Int) - 1)=(opn'.length:Int):=by rw[IntWalk.i64_in _ (by omega)];omega
     have AX:IntKind.i64.wrap ((opn'.length:Int)+1)=((opn'.length+1:Nat):Int):=bu (by omega);have e1:decide ((0:Int)≤(opn'.length:Int))=true:=by simp
     have TO:=Ir y (by simp);have TT:=pG y.aht;have eH:∀ j,fw (List.map It.ahq (opn'++[y])) opn'.length j=y.ahq[j]?:=fun j=>oU;have ye:(0:Int)≤(opn'.length:Int)∧(opn'.length:Int)<((opn'.length+1:Nat):Int):=⟨by omega,by omega⟩;obtain⟨Iy,hn⟩:=hG.close (by omega);simp only[bC,kF,nb,fD,ng,ah,wI,Lo,e1,eH,It.ahq,aM,VV,Int.reduceBEq,Int.reduceBNe,Nat.reduceAdd,Nat.reduceSub,Nat.reduceLeDiff,Nat.reduceEqDiff,Int.reduceToNat,reduceIte,reduceCtorEq];refine⟨ye,ye,?_⟩;refine aC (nU y.aht _) rfl ?_;simp only[bC,kF,nb,fD,ng,ah,wI,Lo,AX,e1,eH,It.ahq,aM,VV,Int.reduceBEq,Int.reduceBNe,Nat.reduceAdd,Nat.reduceSub,Nat.reduceLeDiff,Nat.reduceEqDiff,Int.reduceToNat,reduceIte,reduceCtorEq];have e4:List.take opn'.length (List.map It.ahq (opn'++[y]))=List.map It.ahq opn':=by rw[eN];exact List.take_left' (by simp)
     have e5:List.take (opn'.length+1 - (opn'.length+1)) (List.drop (opn'.length+1) (List.map It.ahq (opn'++[y])))=[]:=by simp
     simp only[e4,e5,bV,ah,ay,dm];refine⟨ye,by omega,by omega,⟨by omega,by simp only[maxLen];omega⟩,by omega,⟨by omega,by simp only[maxLen];omega⟩,?_⟩;exact tail ⟨3,cG y.aht,y.id⟩ (eV g2 false (opn'++[y])) [eV 1 false opn'] 3 (k1+1) opn' id 1 rfl (by simp) (by omega) (by omega) (fun z hz=>Ir z (by simp[hz])) (by rw[hn];exact Iy) (by simp only;omega) (by omega) (by repeat' constructor)
  ·simp only[bC,kF,nb,fD,ng,VV,Int.reduceBEq,Int.reduceBNe,Nat.reduceAdd,Nat.reduceSub,Nat.reduceLeDiff,Nat.reduceEqDiff,Int.reduceToNat,reduceIte,reduceCtorEq];exact tail ⟨1,t,0⟩ (eV g2 false opn) [] 1 (k1+1) opn id g2 rfl (by simp) (by omega) (by omega) Ir (hG.aht t) (by simp only;omega) (by omega) (by repeat' constructor)
set_option maxRecDepth 4000 in
theorem EA(S:ae)(a:Nat)(ha:a<S.length)(l:List Int)(k:Nat)(hk:k<2^49)(N:Nat)(hN:N≤20):
  PC prog 34 [.ptr a 0,.i .i64 N,.b true,.b true] (iV S a l k) (fun r J'=>∃ (f:List It) (k':Nat),r=.sl 3 (f.map It.ahq)∧bh [] f=0∧f.length≤2*N∧aN f≤23*N∧(k≤k'∧k'≤k+12*N+1)∧J'=iV S a l k'):=by
 refine PC.intro func34 c34 fun bz dH=>?_;have hw:IntKind.i64.wrap ((N:Int)+1)=((N+1:Nat):Int):=bu (by omega);simp only[p34,SS,seval];refine cc.cut fun R hR=>?_;simp only[bC,VV,seval];refine hR _ ?_;clear hR R;refine cc.cut fun R hR=>?_;simp only[bC,VV,seval];refine hR _ ?_;clear hR R;refine cc.cut fun R hR=>?_;simp only[bC,VV,seval];refine hR _ ?_;clear hR R;refine cc.cut fun R hR=>?_;simp only[bC,hw,VV,seval];refine db (sW S a ha l k (by omega) ((N+1:Nat):Int) (by omega) (by omega)) rfl ?_;rintro _ _ ⟨v,rfl,hv,rfl⟩;obtain⟨m,rfl⟩:∃ m:Nat,v=m:=⟨v.toNat,by omega⟩;simp only[bC,hw,VV,seval]
 refine cc.wk (((Wk.iS (ys:=(.ptr a 0::uu 1 (.b true::.b true::uu 5 (.nil::.nil::.i .i64 (0:Nat)::.i .i64 m::uu 128 [])))) (by repeat' constructor)).trans (Wk.ko (P:=prog) (J:=iV S a l (k+1)) (k:=9) Dg rfl)).trans ((Wk.kN (P:=prog) (J:=iV S a l (k+1)) [_] (k:=10) Dg rfl).trans (Wk.iS (ys:=(.ptr a 0::uu 1 (.b true::.b true::uu 5 (.own S.length 0::.own (S.length+1) 0::.i .i64 (0:Nat)::.i .i64 m::uu 128 [])))) ?_)))
  (cc.wy (m+1) (MX S a ha l (k+1) (by omega) (kP bz) m (by omega) m (k+1) [] [] 0 0 0 (au _) (by omega) (by simp) (by simp) vM.nil (by simp) (by simp[aN]) (by omega) ?_))
 ·simp only[bC,ag,ay,VV,seval]
  repeat' constructor
 intro k' f opn id g1 g2 c1 c2 c3 c4 c5 c6 c7;simp only[JE];intros;simp only[VV,seval];refine hR _ (cc.iS (fr':=(uu 3 (.b true::uu 5 (.own S.length g1::.own (S.length+1) g2::uu 130 [])))) ?_ (by repeat' constructor));clear hR R;refine cc.cut fun R hR=>?_;simp only[eV,bC,kF,nb,fD,ng,ah,VV,seval];have hwo:IntKind.i64.wrap ((opn.length:Int) - 1)=(opn.length:Int) - 1:=IntWalk.i64_in _ (by omega);rw[hwo];refine cc.bd (fr':=(uu 3 (.b true::uu 5 (.own S.length g1::.own (S.length+1) g2::uu 4 (.i .i64 ((opn.length:Int) - 1)::uu 125 []))))) (by repeat' constructor) (opn.length+1) (MW S a l k' opn (by omega) c3 id (by omega) g2 opn.length opn f g1 rfl ⟨[],by simp⟩ c4 (by omega) ?_);intro f' g1' q1 q2 q3;simp only[JE];intros;simp only[eV,VV,seval];refine hR _ (aB ?_);clear hR R;simp only[eV,bC,kF,nb,fD,ng,VV,seval];refine fM (xs':=[.sl 3 (f'.map It.ahq)]) (.inr rfl) rfl ((Wk.fz S.length (E:=61) (sz:=3) (by':=32) (g:=g1') (sh:=false) (rows:=f'.map It.ahq) (by rw[kF];rfl)).trans ?_) ?_ ⟨f',k',rfl,q1,by omega,by omega,by omega,rfl⟩
 ·rw[fD];simp only[az,bD,ev,dh,aF,aP,sj,sk,fz,rf,kY,aO];have:=Wk.GZ (P:=prog) (xs:=[.sl 3 (f'.map It.ahq)]) (loc:=[Ob.row 61 3 32 g1' true (f'.map It.ahq),Ob.row 61 3 32 g2 false (opn.map It.ahq)]) (kP (k':=k') bz) (by simp only[bC,LW]);rw[bC]at this;exact this
 ·rfl
theorem Ro(S:ae)(a:Nat)(ha:a<S.length)(l:List Int)(k:Nat)(hk:k<2^49)(N:Nat)(hN:N≤20)(loc:ae):
  PC prog 34 [.ptr a 0,.i .i64 N,.b true,.b true] (iV S a l k++loc) (fun r J'=>∃ (f:List It) (k':Nat),r=.sl 3 (f.map It.ahq)∧bh [] f=0∧f.length≤2*N∧aN f≤23*N∧(k≤k'∧k'≤k+12*N+1)∧J'=iV S a l k'++loc):=by
 rw[ln ha];refine(EA (S++loc) a (by rw[ak];omega) l k hk N hN).mono ?_;rintro r J' ⟨f,k',h1,h2,h3,h4,h5,h6⟩;exact⟨f,k',h1,h2,h3,h4,h5,by rw[h6,ln ha]⟩
theorem I4(S:ae)(a:Nat)(ha:a<S.length)(l:List Int)(k:Nat)(hk:k<2^50)(src:List It)(rU:bh [] src=0)(hlen:src.length≤100)(Y9:aN src≤10000)(loc:ae):
  PC prog 94 [.ptr a 0,.sl 3 (src.map It.ahq)] (iV S a l k++loc) (fun r J'=>∃ (f:List It) (k':Nat),r=.sl 3 (f.map It.ahq)∧bh [] f=0∧f.length≤2*src.length∧aN f≤aN src+20*src.length∧(k≤k'∧k'≤k+10*src.length)∧J'=iV S a l k'++loc):=by
 rw[ln ha];refine(I3 (S++loc) a (by rw[ak];omega) l k hk src rU hlen Y9).mono ?_;rintro r J' ⟨f,k',h1,h2,h3,h4,h5,h6⟩;exact⟨f,k',h1,h2,h3,h4,h5,by rw[h6,ln ha]⟩
def Mq(out:List It)(x:It)(o:Option Int):List It:=match o with
 | some b=>out++[⟨x.ahr,x.aht,b⟩]
 | none=>out
theorem MV{J:ae}{K:Exit→St→Prop}(F L I:V)(fr to:List Int)(out:List It)(x:It)(g:Nat)(QO:fr.length<2^62)(okA:(out.length+1)*32≤2^47∧out.length+1≤maxLen):
  ∀ (m k:Nat),k+m=min fr.length to.length →
  (∀ g,((fh (F) (fh (.sl 1 (fr.map b5)) (fh (.sl 1 (to.map b5)) (fj 4 (fh (.own J.length g) (fj 4 (fh (L) (fh (I) (fj 47 fo))))))))) fun ZZ=>K (.exit 2) ⟨ZZ,J++[.row 61 3 32 g false ((Mq out x (zi (fr.drop k) (to.drop k) x.id)).map It.ahq),.box 61 x.ahq]⟩)) →
  fJ J.length prog HV K (m+1) ⟨(F::.sl 1 (fr.map b5)::.sl 1 (to.map b5)::uu 4 (.own J.length g::uu 1 (.ptr (J.length+1) 0::.i .i64 k::uu 1 (L::I::uu 47 [])))),J++[.row 61 3 32 g false (out.map It.ahq),.box 61 x.ahq]⟩:=by
 intro m
 induction m with
 | zero =>
  intro k hk h1;rw[Hs (by omega)]at h1
  have dp:((decide ((k:Int)<(fr.length:Int)))&&decide ((k:Int)<(to.length:Int)))=false:=by
   rw[Ah];simp;omega
  refine aD fun R hR=>?_;simp only[HV,ah,dp,VV,seval];exact h1 g ..
 | succ m ih =>
  intro k hk h1;have k1:k<fr.length:=by omega
  have k2:k<to.length:=by omega
  rw[Df k1 k2]at h1;have e1:decide ((k:Int)<(fr.length:Int))=true:=by simp;omega
  have e2:decide ((k:Int)<(to.length:Int))=true:=by simp;omega
  have hw:IntKind.i64.wrap ((k:Int)+1)=((k+1:Nat):Int):=by rw[IntWalk.i64_in _ (by omega)];omega
  refine aD fun R hR=>?_;simp only[HV,It.ahq,ah,e1,e2,hw,aM,qu k1,qu k2,VV,seval];have Fj:(0:Int)≤(k:Int)∧(k:Int)<(fr.length:Int):=by omega
  have jA:(0:Int)≤(k:Int)∧(k:Int)<(to.length:Int):=by omega
  refine⟨Fj,fun h=>⟨jA,okA,?_⟩,fun h=>?_⟩
  ·have h:x.id=fr.getD k 0:=by rw[bR]at h;exact h.symm
   rw[aI h]at h1;have ck:out.map It.ahq++[[.i .i64 x.ahr,.s x.aht,.i .i64 (to.getD k 0)]]=(Mq out x (some (to.getD k 0))).map It.ahq:=by simp[Mq,It.ahq]
   rw[ck];exact h1 (g+1) ..
  ·have h:¬ x.id=fr.getD k 0:=by rw[cT]at h;exact fun e=>h e.symm
   rw[aw h]at h1;refine hR _ (bd ?_ (ih (k+1) (by omega) h1))
   repeat' constructor
theorem MU{J:ae}{K:Exit→St→Prop}(its:List It)(fr to:List Int)(bz:bK J)(hlen:its.length<2^40)(QO:fr.length<2^62):∀ (rest pre out:List It) (g:Nat),its=pre++rest→out.length≤pre.length →
  (∀ g,((fj 7 (fh (.own J.length g) (fj 53 fo))) fun ZZ=>K (.exit 0) ⟨ZZ,J++[.row 61 3 32 g false ((out++ahJ rest fr to).map It.ahq)]⟩)) →
  fJ J.length prog DV K (rest.length+1) ⟨(.sl 3 (its.map It.ahq)::.sl 1 (fr.map b5)::.sl 1 (to.map b5)::uu 4 (.own J.length g::uu 4 (.i .i64 its.length::.i .i64 pre.length::uu 47 []))),J++[.row 61 3 32 g false (out.map It.ahq)]⟩:=by
 intro rest
 induction rest with
 | nil =>
  intro pre out g he ho h1;have he:its=pre:=by simpa using he
  subst he;have e:out++ahJ [] fr to=out:=by simp[ahJ]
  rw[e]at h1;refine aD fun R hR=>?_;simp only[DV,VV,seval];exact⟨fun h=>by simp at h,fun _=>h1 g ..⟩
 | cons x rest ih =>
  intro pre out g he ho h1;subst he
  have next:∀ (out':List It) (g':Nat) {loc:ae},out++ahJ (x::rest) fr to=out'++ahJ rest fr to→out'.length≤out.length+1→∀ {R:St→Prop} {f0:List V},(∀ st',fJ J.length prog DV K (rest.length+1) st'→R st') →
    oY f0 (.sl 3 ((pre++x::rest).map It.ahq)::.sl 1 (fr.map b5)::.sl 1 (to.map b5)::uu 4 (.own J.length g'::uu 4 (.i .i64 (pre++x::rest).length::.i .i64 (IntKind.i64.wrap ((pre.length:Int)+1))::uu 47 [])))→R ⟨f0,J++(.row 61 3 32 g' false (out'.map It.ahq)::loc)⟩:=by
   intro out' g' loc hw hl R f0 hR hc
   have e1:IntKind.i64.wrap ((pre.length:Int)+1)=(((pre++[x]).length:Nat):Int):=by
    rw[bu (by simp at hlen;omega)];simp
   rw[e1]at hc;rw[hw]at h1;refine hR _ (b7 [_] loc (cv bz (by simp)) hc ?_ (ih (pre++[x]) out' g' (by simp) (by simp;omega) h1));simp only[LW,ag,ay,bo];omega
  have okA:(out.length+1)*32≤2^47∧out.length+1≤maxLen:=by simp at hlen;simp[maxLen];omega
  refine aD fun R hR=>?_;simp only[DV,It.ahq,VV,seval];refine⟨fun _=>⟨by simp;omega,?_⟩,fun h=>by simp at h<;>omega⟩;refine aC (rN x _) rfl ?_;simp only[VV,seval];refine⟨fun ht=>?_,fun ht=>?_⟩
  ·have ht:bG x=false:=by rw[cS]at ht;exact ht
   have ck:out.map It.ahq++[[.i .i64 x.ahr,.s x.aht,.i .i64 x.id]]=(out++[x]).map It.ahq:=by simp[It.ahq]
   refine⟨by rw[ah];exact okA,?_⟩;rw[ck];refine next (out++[x]) (g+1) (by simp[ahJ,Jt,ht]) (by simp) hR ?_
   repeat' constructor
  ·have ht:bG x=true:=by rw[gy]at ht;exact ht
   refine cc.bd ?_ (min fr.length to.length+1) (MV (.sl 3 ((pre++x::rest).map It.ahq)) (.i .i64 (pre++x::rest).length) (.i .i64 pre.length) fr to out x g QO okA (min fr.length to.length) 0 (by omega) ?_)
   ·simp only[It.ahq,jE]
    repeat' constructor
   intro g';simp only[JE];intros;simp only[VV,seval];refine next _ g' ?_ ?_ hR ?_
   ·simp only[lj,ahJ,fW,Jt,ht,aO,Mq];cases zi fr to x.id<;>simp
   ·simp only[Mq];split<;>simp
   ·repeat' constructor
theorem vf(its:List It)(fr to:List Int)(hlen:its.length<2^40)(ht:aN its<2^40)(QO:fr.length<2^62)(J:ae):PC prog 35 [.sl 3 (its.map It.ahq),.sl 1 (fr.map b5),.sl 1 (to.map b5)] J (fun r J'=>r=.sl 3 ((rename its fr to).map It.ahq)∧J'=J):=by
 refine PC.intro func35 c35 fun bz dH=>aB ?_;simp only[p35,SS,seval];simp only[ah,VV,seval];refine cc.wk ((Wk.ko (k:=7) Dg rfl).trans (Wk.iS ?_)) (cc.wy (its.length+1) (MU its fr to bz hlen QO its [] [] 0 rfl (au _) ?_))
 ·simp only[VV,seval]
  repeat' constructor
 ·intro g;simp only[JE];intros;simp only[aW,VV,seval];refine nz J.length (by simp only[gk];rfl) (pU (ahJ its fr to) (mR (vc _ _ _) hlen) (mR (sO _ _ _) ht) _) (by simp[fz,rf,ev]) ?_;simp only[VV,seval];exact lA bz (by rfl) (by simp[LW])
theorem xD(s t:List It)(hs:s.length<2^38)(ht:t.length<2^38)(rT:aN s<2^38)(htt:aN t<2^38)(J:ae):PC prog 49 [.sl 3 (s.map It.ahq),.sl 3 (t.map It.ahq)] J (fun r J'=>r=.fu [.sl 3 ((fO s t).map It.ahq),.sl 3 ((gh s t).map It.ahq)]∧J'=J):=by
 refine PC.intro func49 c49 fun bz dH=>aB ?_;simp only[p49,SS,seval];simp only[ah,VV,seval];refine⟨by simp[maxLen];omega,by simp[maxLen];omega,?_⟩;refine nz J.length (by simp only[gk];rfl) (BF (s++t) (by simp;omega) _) (by simp[fz,rf,ev]) ?_;have hc:=lD (s++t);rw[mA,ak]at hc;rw[mA];simp only[ah,VV,seval];refine aC (Jy (bE s t).length (by omega) _) rfl ?_;simp only[VV,seval];refine aC (vf s (bE s t) (b8 (bE s t).length) (by omega) (by omega) (by omega) _) rfl ?_;simp only[VV,seval];refine aC (vf t (bE s t) (b8 (bE s t).length) (by omega) (by omega) (by omega) _) rfl ?_;simp only[VV,seval];exact bk bz (.inr rfl) (by simp only[RS,seval];rfl) (by simp[LW]) ⟨rfl,rfl⟩
def tn:List (List UInt8):=[[83,97,118,101],[114,101,100,32,99,97,114],[82,101,100,32,99,97,114,115]]
theorem Ez:∀ s∈tn,bh [] [⟨1,s,0⟩]=0∧s.length≤8:=by decide +kernel
def tt:List (List UInt8):=[[],[],[83,97,118,101],[114,101,100,32,99,97,114]]
def tu:List (List UInt8):=[[],[],[120],[83,97,118,101]]
def oN:List (List UInt8):=[[],[97,110,110],[98,111,98]]
def nu:List (List UInt8):=[[],[112],[113]]
theorem Uw:(∀ s∈tt,s∈yq)∧(∀ s∈tu,s∈yq)∧(∀ s∈oN,s∈qi)∧∀ s∈nu,s∈qi:=by decide +kernel
set_option maxHeartbeats 2000000 in
set_option maxRecDepth 20000 in
theorem Oa(S:ae)(a:Nat)(ha:a<S.length)(l:List Int)(k:Nat)(hk:k<2^48):
  PC prog 41 [.ptr a 0] (iV S a l k) (fun r J'=>∃ (e:En) (k':Nat),r=.agg e.ahq∧zb e∧(k≤k'∧k'≤k+200)∧J'=iV S a l k'):=by
 refine PC.intro func41 c41 fun bz dH=>?_;simp only[p41,SS,seval];refine cc.cut fun R hR=>?_;simp only[bC,VV,seval];refine hR _ ?_;clear hR R;refine cc.cut fun R hR=>?_;simp only[bC,VV,seval];refine db (Ro S a ha l k (by omega) 4 (by decide) _) rfl ?_;rintro _ _ ⟨f0,k1,rfl,f1,f2,f3,f4,rfl⟩;simp only[bC,kF,nb,fD,ng,VV,seval];refine hR _ (cc.iS (fr':=(.ptr a 0::uu 1 (.ptr S.length 0::.sl 3 (f0.map It.ahq)::uu 52 []))) ?_ (by repeat' constructor));clear hR R;refine cc.cut fun R hR=>?_
 have tail:∀ (f:List It) (k2:Nat) {fr:List V},bh [] f=0→f≠[]→f.length≤8→aN f≤92→(k≤k2∧k2≤k+50)→oY fr (.ptr a 0::uu 1 (.ptr S.length 0::.sl 3 (f.map It.ahq)::uu 52 [])) →
   R ⟨fr,iV S a l k2++[.box 37 [.nil,.nil,.s [],.s [],.s [],.s [],.i .i64 0,.i .i64 0]]⟩:=by
  intro f k2 fr c1 c2 c3 c4 c5 hc;refine hR _ (cc.iS ?_ hc);clear hR R;refine cc.cut fun R hR=>?_;simp only[bC,kF,nb,fD,ng,VV,seval];refine db (I4 S a ha l k2 (by omega) f c1 (by omega) (by omega) _) rfl ?_;rintro _ _ ⟨t,k3,rfl,t1,t2,t3,t4,rfl⟩;simp only[bC,kF,nb,fD,ng,VV,seval];refine hR _ (cc.iS (fr':=(.ptr a 0::uu 1 (.ptr S.length 0::.sl 3 (f.map It.ahq)::.sl 3 (t.map It.ahq)::uu 51 []))) ?_ (by repeat' constructor));clear hR R;refine cc.cut fun R hR=>?_;simp only[bC,kF,nb,fD,ng,VV,seval];refine aC (xD f t (by omega) (by omega) (by omega) (by omega) _) rfl ?_;simp only[bC,kF,nb,fD,ng,VV,seval];refine hR _ (cc.iS (fr':=(.ptr a 0::uu 1 (.ptr S.length 0::uu 2 (.sl 3 ((fO f t).map It.ahq)::.sl 3 ((gh f t).map It.ahq)::uu 49 [])))) (aB ?_) (by repeat' constructor));clear hR R;simp only[bC,kF,nb,fD,ng,VV,seval];refine db (gz S a ha l k3 (by omega) 4 (by decide) (by decide) _) rfl ?_;rintro _ _ ⟨v1,rfl,QI,rfl⟩;obtain⟨w1,Lo,e1⟩:=jO (ws:=tt) (n:=v1.toNat) (by simp[tt];omega);simp only[tt,az,bD]at e1;simp only[e1,bC,kF,nb,fD,ng,VV,seval];refine⟨by omega,?_⟩;refine db (gz S a ha l (k3+1) (by omega) 4 (by decide) (by decide) _) rfl ?_;rintro _ _ ⟨v2,rfl,Vo,rfl⟩;obtain⟨w2,AX,e2⟩:=jO (ws:=tu) (n:=v2.toNat) (by simp[tu];omega);simp only[tu,az,bD]at e2;simp only[e1,e2,bC,kF,nb,fD,ng,VV,seval]
  iterate 3 (try refine And.intro (by omega) ?_)
  refine db (gz S a ha l (k3+1+1) (by omega) 3 (by decide) (by decide) _) rfl ?_;rintro _ _ ⟨v3,rfl,hv3,rfl⟩;obtain⟨w3,hw3,e3⟩:=jO (ws:=oN) (n:=v3.toNat) (by simp[oN];omega);simp only[oN,az,bD]at e3;simp only[e1,e2,e3,bC,kF,nb,fD,ng,VV,seval]
  iterate 4 (try refine And.intro (by omega) ?_)
  refine db (gz S a ha l (k3+1+1+1) (by omega) 3 (by decide) (by decide) _) rfl ?_;rintro _ _ ⟨v4,rfl,hv4,rfl⟩;obtain⟨w4,hw4,e4⟩:=jO (ws:=nu) (n:=v4.toNat) (by simp[nu];omega);simp only[nu,az,bD]at e4;simp only[e1,e2,e3,e4,bC,kF,nb,fD,ng,VV,seval]
  iterate 6 (try refine And.intro (by omega) ?_)
  refine db (gz S a ha l (k3+1+1+1+1) (by omega) 50 (by decide) (by decide) _) rfl ?_;rintro _ _ ⟨v5,rfl,hv5,rfl⟩;simp only[e1,e2,e3,e4,bC,kF,nb,fD,ng,VV,seval]
  iterate 6 (try refine And.intro (by omega) ?_)
  refine db (gz S a ha l (k3+1+1+1+1+1) (by omega) 3 (by decide) (by decide) _) rfl ?_;rintro _ _ ⟨v6,rfl,hv6,rfl⟩;have hw6:IntKind.i64.wrap (1+v6)=1+v6:=IntWalk.i64_in _ (by omega);simp only[e1,e2,e3,e4,hw6,bC,kF,nb,fD,ng,VV,seval];refine⟨by omega,?_⟩;obtain⟨i1,i2,i3,i4⟩:=Uw;have hE:zb ⟨fO f t,gh f t,w1,w2,w3,w4,v5,1+v6⟩:=KC c1 t1 c2 (by omega) (by omega) (by omega) (by omega) (i1 _ Lo) (i2 _ AX) (i3 _ hw3) (i4 _ hw4) (by omega) (by omega);refine fM (xs:=[.agg (En.ahq ⟨fO f t,gh f t,w1,w2,w3,w4,v5,1+v6⟩)]) (xs':=[.agg (En.ahq ⟨fO f t,gh f t,w1,w2,w3,w4,v5,1+v6⟩)]) (.inr rfl) (by simp only[kn,vQ,kF,VV,seval];rfl) ?_ rfl ⟨_,k3+1+1+1+1+1+1,rfl,hE,by omega,rfl⟩;have:=Wk.GZ (P:=prog) (xs:=[.agg (En.ahq ⟨fO f t,gh f t,w1,w2,w3,w4,v5,1+v6⟩)]) (loc:=[Ob.box 37 (En.ahq ⟨fO f t,gh f t,w1,w2,w3,w4,v5,1+v6⟩)]) (kP (k':=k3+1+1+1+1+1+1) bz) (by simp only[En.ahq,bC,LW]);rw[bC]at this;exact this
 simp only[ah,bC,kF,nb,fD,ng,VV,seval];refine⟨fun h=>?_,fun h=>?_⟩
 ·refine db (gz S a ha l k1 (by omega) 3 (by decide) (by decide) _) rfl ?_;rintro _ _ ⟨v,rfl,hv,rfl⟩;obtain⟨w,hw,e⟩:=jO (ws:=tn) (n:=v.toNat) (by simp[tn];omega);obtain⟨w1,w2⟩:=Ez _ hw;simp only[tn,az,bD]at e;simp only[e,bC,kF,nb,fD,ng,VV,seval];refine⟨by omega,?_⟩;refine tail [⟨1,w,0⟩] (k1+1) w1 (by simp) (by simp) (by simp[aN];omega) (by omega) ?_;simp only[az,bD,It.ahq]
  repeat first | exact .nil | refine .cons (.refl _) ?_ | refine .cons (.lit _ _) ?_ | refine .cons (.forget _) ?_
 ·have h:f0≠[]:=by rintro rfl;simp at h
  refine tail f0 k1 f1 h (by omega) (by omega) (by omega) ?_
  repeat' constructor
theorem Oc(S:ae)(a:Nat)(ha:a<S.length)(l:List Int)(k:Nat)(hk:k<2^48)(loc:ae):
  PC prog 41 [.ptr a 0] (iV S a l k++loc) (fun r J'=>∃ (e:En) (k':Nat),r=.agg e.ahq∧zb e∧(k≤k'∧k'≤k+200)∧J'=iV S a l k'++loc):=by
 rw[ln ha];refine(Oa (S++loc) a (by rw[ak];omega) l k hk).mono ?_;rintro r J' ⟨e,k',h1,h2,h3,h4⟩;exact⟨e,k',h1,h2,h3,by rw[h4,ln ha]⟩
structure YV (q:Qr):Prop where
 en:∃ e,zb e∧q.ahu=e.ahu∧q.bM=e.bM∧q.next=e.next
 now:0≤q.now∧q.now<90
 threshold:1≤q.threshold∧q.threshold≤102
 jX:1≤q.jX∧q.jX≤12
set_option maxHeartbeats 2000000 in
theorem Mp(S:ae)(a:Nat)(ha:a<S.length)(l:List Int)(k:Nat)(hk:k<2^47):
  PC prog 13 [.ptr a 0] (iV S a l k) (fun r J'=>∃ (q:Qr) (k':Nat),r=.agg q.ahq∧YV q∧(k≤k'∧k'≤k+300)∧J'=iV S a l k'):=by
 refine PC.intro func13 c13 fun bz dH=>?_;simp only[p13,SS,seval];refine cc.cut fun R hR=>?_;simp only[bC,VV,seval];refine hR _ ?_;clear hR R;refine cc.cut fun R hR=>?_;simp only[bC,kF,nb,fD,ng,VV,seval];refine db (Oc S a ha l k (by omega) _) rfl ?_;rintro _ _ ⟨e,k1,rfl,hE,rV,rfl⟩;simp only[En.ahq,bC,kF,nb,fD,ng,VV,seval];refine hR _ (aB ?_);clear hR R;simp only[bC,kF,nb,fD,ng,V.pure,VV,seval];refine db (gz S a ha l k1 (by omega) 90 (by decide) (by decide) _) rfl ?_;rintro _ _ ⟨v1,rfl,QI,rfl⟩;simp only[bC,kF,nb,fD,ng,V.pure,VV,seval];refine db (gz S a ha l (k1+1) (by omega) 102 (by decide) (by decide) _) rfl ?_;rintro _ _ ⟨v2,rfl,Vo,rfl⟩;have w2:IntKind.i64.wrap (1+v2)=1+v2:=IntWalk.i64_in _ (by omega);simp only[w2,bC,kF,nb,fD,ng,V.pure,VV,seval];refine db (gz S a ha l (k1+1+1) (by omega) 12 (by decide) (by decide) _) rfl ?_;rintro _ _ ⟨v3,rfl,hv3,rfl⟩;have w3:IntKind.i64.wrap (1+v3)=1+v3:=IntWalk.i64_in _ (by omega);simp only[w2,w3,bC,kF,nb,fD,ng,V.pure,VV,seval]
 have key:∀ loc:ae,Wk prog S.length [.agg (Qr.ahq ⟨e.ahu,e.bM,e.next,v1,1+v2,1+v3⟩)] (iV S a l (k1+1+1+1)++loc) [.agg (Qr.ahq ⟨e.ahu,e.bM,e.next,v1,1+v2,1+v3⟩)] (iV S a l (k1+1+1+1)):=fun loc=>by
  have:=Wk.GZ (P:=prog) (xs:=[.agg (Qr.ahq ⟨e.ahu,e.bM,e.next,v1,1+v2,1+v3⟩)]) (loc:=loc) (kP (k':=k1+1+1+1) bz) (by simp only[Qr.ahq,bC,LW]);rw[bC]at this;exact this
 exact fM (xs':=[.agg (Qr.ahq ⟨e.ahu,e.bM,e.next,v1,1+v2,1+v3⟩)]) (.inr rfl) (by simp only[kn,vQ,kF,VV,seval];rfl) (key _) rfl ⟨_,k1+1+1+1,rfl,⟨⟨e,hE,rfl,rfl,rfl⟩,QI,by simp only;omega,by simp only;omega⟩,by omega,rfl⟩
def EG(f:List It):List V:=[.sl 3 (f.map It.ahq)]
theorem MZ{J:ae}{K:Exit→St→Prop}(bz:bK J)(a7:List (List It))(F8 F9:Int)(f:List It)(hlen:f.length<2^40):∀ (rest pre:List It) (n:Int),f=pre++rest →
  (∀ n:Int,((fh (.sl 1 (a7.map EG)) (fj 2 (fh (.i .i64 n) (fj 4 (fh (.i .i64 F8) (fh (.i .i64 F9) (fj 21 fo))))))) fun ZZ=>K (.exit 2) ⟨ZZ,J⟩)) →
  fJ J.length prog HZ K (rest.length+1) ⟨(.sl 1 (a7.map EG)::uu 2 (.i .i64 n::uu 4 (.i .i64 F8::.i .i64 F9::uu 5 (.sl 3 (f.map It.ahq)::.i .i64 f.length::.i .i64 pre.length::uu 13 [])))),J⟩:=by
 intro rest
 induction rest with
 | nil =>
  intro pre n he h1;have he:f=pre:=by simpa using he
  subst he;refine aD fun R hR=>?_;simp only[HZ,VV,seval];exact⟨fun h=>by simp at h,fun _=>h1 n ..⟩
 | cons x rest ih =>
  intro pre n he h1;have qN:f.length=pre.length+(rest.length+1):=by rw[he];simp
  have hw:IntKind.i64.wrap ((pre.length:Int)+1)=(((pre++[x]).length:Nat):Int):=by
   rw[bu (by omega)];simp
  have eH:(List.map It.ahq f).getD pre.length []=x.ahq:=by rw[he];exact xx
  have hd:decide ((pre.length:Int)<(f.length:Int))=true:=by simp;omega
  refine aD fun R hR=>?_;simp only[HZ,aM,eH,hd,hw,It.ahq,ah,V.pure,VV,seval];refine⟨⟨by omega,by omega⟩,?_⟩;refine hR _ (mw (au _) bz ?_ ?_ (ih (pre++[x]) (IntKind.i64.wrap (n+IntKind.i64.wrap (1+x.aht.length))) (by rw[he];simp) h1))
  ·repeat' constructor
  ·simp only[LW]
theorem MY{J:ae}{K:Exit→St→Prop}(bz:bK J)(fs:List (List It))(hfs:fs.length<2^40)(hlen:∀ f∈fs,f.length<2^40):∀ (rest pre:List (List It)) (n:Int),fs=pre++rest →
  (∀ n:Int,((fj 3 (fh (.i .i64 n) (fj 27 fo))) fun ZZ=>K (.exit 0) ⟨ZZ,J⟩)) →
  fJ J.length prog HY K (rest.length+1) ⟨(.sl 1 (fs.map EG)::uu 2 (.i .i64 n::uu 4 (.i .i64 fs.length::.i .i64 pre.length::uu 21 []))),J⟩:=by
 intro rest
 induction rest with
 | nil =>
  intro pre n he h1;have he:fs=pre:=by simpa using he
  subst he;refine aD fun R hR=>?_;simp only[HY,VV,seval];exact⟨fun h=>by simp at h,fun _=>h1 n ..⟩
 | cons f rest ih =>
  intro pre n he h1;have qN:fs.length=pre.length+(rest.length+1):=by rw[he];simp
  have hw:IntKind.i64.wrap ((pre.length:Int)+1)=(((pre++[f]).length:Nat):Int):=by
   rw[bu (by omega)];simp
  have eH:fw (fs.map EG) pre.length 0=some (.sl 3 (f.map It.ahq)):=by rw[he,oU];rfl
  have hd:decide ((pre.length:Int)<(fs.length:Int))=true:=by simp;omega
  have hl:=hlen f (by rw[he];simp);refine aD fun R hR=>?_;simp only[HY,aM,eH,hd,hw,ah,V.pure,VV,seval];refine⟨⟨by omega,by omega⟩,?_⟩;refine cc.bd (fr':=(.sl 1 (fs.map EG)::uu 2 (.i .i64 n::uu 4 (.i .i64 fs.length::.i .i64 pre.length::uu 5 (.sl 3 (f.map It.ahq)::.i .i64 f.length::.i .i64 (([]:List It).length:Nat)::uu 13 []))))) (by repeat' constructor) (f.length+1) (MZ bz fs _ _ f hl f [] n rfl ?_);intro n;simp only[JE];intros;simp only[hw,VV,seval];refine hR _ (bd ?_ (ih (pre++[f]) n (by rw[he];simp) h1))
  repeat' constructor
theorem M0(fs:List (List It))(hfs:fs.length<2^40)(hlen:∀ f∈fs,f.length<2^40)(J:ae):PC prog 11 [.sl 1 (fs.map EG)] J (fun r J'=>∃ b:Bool,r=.b b∧J'=J):=by
 refine PC.intro func11 c11 fun bz dH=>aB ?_;simp only[p11,SS,seval];simp only[ah,VV,seval];refine cc.bd (fr':=(.sl 1 (fs.map EG)::uu 2 (.i .i64 (0:Int)::uu 4 (.i .i64 fs.length::.i .i64 (([]:List (List It)).length:Nat)::uu 21 [])))) (by repeat' constructor) (fs.length+1) (MY bz fs hfs hlen fs [] 0 rfl ?_);intro n;simp only[JE];intros;simp only[VV,seval];exact aR (.inr rfl) (by simp only[RS,seval];rfl) ⟨_,rfl,rfl⟩
theorem P6{n:Nat}{J:ae}{K:Exit→St→Prop}(s:List UInt8)(hlen:s.length<2^63):∀ (rest pre:List UInt8),s=pre++rest →
  (rest.all (fun b=>!gu b)=true→((fh (.s s) (fj 66 fo)) fun ZZ=>K (.exit 0) ⟨ZZ,J⟩))→(rest.all (fun b=>!gu b)=false→((fj 2 (fh (.b false) (fj 64 fo))) fun ZZ=>K .ret ⟨ZZ,J⟩)) →
  fJ n prog B1 K (rest.length+1) ⟨(.s s::uu 2 (.i .i64 pre.length::uu 63 [])),J⟩:=by
 intro rest
 induction rest with
 | nil =>
  intro pre he h1 h2;have he:s=pre:=by simpa using he
  subst he;refine aD fun R hR=>?_;simp only[B1,VV,seval];exact⟨fun h=>by simp at h,fun _=>h1 rfl ..⟩
 | cons c rest ih =>
  intro pre he h1 h2;subst he
  have hb:gu c=(((((decide ((c.toNat:Int)<32)||decide (126<(c.toNat:Int)))||((c.toNat:Int)==60))||((c.toNat:Int)==62))||((c.toNat:Int)==123))||((c.toNat:Int)==125)):=by
   clear h1 h2 ih hlen;revert c;exact fK (by decide +kernel)
  refine aD fun R hR=>?_;simp only[B1,VV,seval];rw[← hb];refine⟨fun _=>⟨by simp;omega,fun h=>?_,fun h=>?_⟩,fun h=>by simp at h<;>omega⟩
  ·exact h2 (by simp[h]) ..
  ·have e:(c::rest).all (fun b=>!gu b)=rest.all (fun b=>!gu b):=by simp[h]
   rw[e]at h1 h2;refine hR _ (bd ?_ (ih (pre++[c]) (by simp) h1 h2));rw[bu (by simp at hlen;omega)];simp only[ak,ag,ay]
   repeat' constructor
theorem Om(s:List UInt8):iy s=(ahz (cG s)&&(decide ((cG s).length=s.length)||decide ((cG s).length+1<s.length))):=by
 have hb:=jw s 32
 by_cases h:0≤Lib.indexByte s 32
 ·have e0:cutAt s 32=(s.take (Lib.indexByte s 32).toNat,s.drop ((Lib.indexByte s 32).toNat+1),true):=by simp only[cutAt,aI h]
  have e3:cG s=s.take (Lib.indexByte s 32).toNat:=by simp only[cG,e0]
  simp only[iy,e0,e3];have e1:(s.take (Lib.indexByte s 32).toNat).length=(Lib.indexByte s 32).toNat:=by rw[bT];omega
  have e2:(s.drop ((Lib.indexByte s 32).toNat+1)).length=s.length - ((Lib.indexByte s 32).toNat+1):=by simp
  simp only[e1,e2,eB,im];congr 1;rw[df];simp;omega
 ·have e0:cutAt s 32=(s,[],false):=by simp only[cutAt,aw h]
  have e3:cG s=s:=by simp only[cG,e0]
  simp only[iy,e0,e3];simp
theorem mz(s:List UInt8)(J:ae):PC prog 162 [.s s] J (fun r J'=>r=.b (cP s)∧J'=J):=by
 refine PC.intro func162 acp fun bz dH=>aB ?_;have hlen:=zy (dH 0 _ rfl).1;simp only[WW,SS,seval];simp only[VV,seval];refine⟨fun h=>?_,fun h=>?_⟩
 ·refine aR (.inr rfl) rfl ⟨?_,rfl⟩;have h:¬ s.length≤64:=by simp at h;omega
  simp[Pm.one,cP,iz,h]
 have h64:s.length≤64:=by simp at h;omega
 refine cc.bd ?_ (s.length+1) (P6 s hlen s [] rfl (fun ha=>?_) (fun ha=>?_))
 ·repeat' constructor
 ·simp only[JE];intros;simp only[VV,seval];refine aC (nU s _) rfl ?_;simp only[VV,seval];refine aC (lB (cG s) _) rfl ?_;simp only[VV,seval];have hle:(cG s).length≤s.length:=(qS s 32).1;have hw:IntKind.i64.wrap (((cG s).length:Int)+1)=((cG s).length:Int)+1:=IntWalk.i64_in _ (by omega);have hc:(((cG s).length:Int)==(s.length:Int))=decide ((cG s).length=s.length):=by rw[df];simp;omega
  have hd:decide (((cG s).length:Int)+1<(s.length:Int))=decide ((cG s).length+1<s.length):=by rw[df];simp;omega
  rw[hw,hc,hd,← Om]
  have ig:iy s=true→0<s.length:=fun h=>by
   cases s with
   | nil=>revert h;decide
   | cons c s=>simp
  refine⟨fun h=>?_,?_⟩
  ·have h:iy s=true:=by simpa using h
   have:=ig h;rw[IntWalk.i64_in _ (by omega)];omega
  ·refine aR (.inr rfl) rfl ⟨?_,rfl⟩;cases hn:iy s with
   | false=>simp[Pm.one,cP,hn]
   | true =>
    have h0:=ig hn;have e1:(IntKind.i64.wrap ((s.length:Int) - 1)).toNat=s.length - 1:=by rw[IntWalk.i64_in _ (by omega)];omega
    simp only[Pm.one,aF,aP,e1,cP,iz,hn,ha,cm,dQ,h64,kX];have h3:s.length≠0:=by omega
    simp only[h3,eX,cL,kX,cm,V.b.injEq];rw[df];simp;omega
 ·simp only[JE];intros;exact aR (.inr rfl) rfl ⟨by simp[Pm.one,cP,ha],rfl⟩
end Go.Proofs.Tryz

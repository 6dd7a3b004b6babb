/- A part of a proof; the claim's last text says of what. -/
import Derived.Test.YtlakkaamfadipaaGreatDoorS18
import Derived.Test.YtlakkaamfadipaaGreatDoorS20
set_option linter.all false

namespace Go.Proofs.Tryz
open Go Go.Pm Go.Bt
theorem ED(x n:Int)(hn:0<n)(h2:n<2^62)(J:ae):PC prog 14 [.i .i64 x,.i .i64 n] J (fun r J'=>r=.i .i64 (place x n)∧J'=J):=by
 refine PC.intro func14 c14 fun bj dx=>ax ?_;simp only[p14,SS,seval];simp only[VV,seval];refine⟨by omega,fun h=>?_,fun h=>?_⟩
 ·have h:x.tmod n<0:=by simpa using h
  have hr:=vY (x:=x) hn;have e:place x n=x.tmod n+n:=by simp only[place,bf h]
  refine aU (.inr rfl) rfl ⟨?_,rfl⟩;rw[e]at hr ⊢;simp only[Pm.one,aV,aW];rw[IntWalk.i64_in _ (by omega)]
 ·have h:¬ x.tmod n<0:=by simpa using h
  have e:place x n=x.tmod n:=by simp only[place,aI h]
  exact aU (.inr rfl) rfl ⟨by rw[e];rfl,rfl⟩
def fA(S:ae)(a:Nat)(l:List Int)(k:Nat):ae:=S.set a (.box 31 [.sl 1 (l.map bR),.i .i64 k])
theorem aN(S:ae)(a:Nat)(l:List Int)(k:Nat):(fA S a l k).length=S.length:=by simp[fA]
theorem jN{S:ae}{a:Nat}{l:List Int}{k:Nat}{loc:ae}(h:a<S.length):fA S a l k++loc=fA (S++loc) a l k:=by
 simp only[fA];rw[gz _ _ h]
theorem IZ{S:ae}{a:Nat}{l:List Int}{k:Nat}(h:a<S.length):(fA S a l k)[a]?=some (.box 31 [.sl 1 (l.map bR),.i .i64 k]):=by
 simp[fA,h]
theorem IY{S:ae}{a:Nat}{l:List Int}{k k':Nat}:(fA S a l k).set a (.box 31 [.sl 1 (l.map bR),.i .i64 (k':Int)])=fA S a l k':=by
 simp[fA]
theorem Nn(S:ae)(a:Nat)(ha:a<S.length)(l:List Int)(k:Nat)(hk:k<2^60)(n:Int)(hn:0<n)(Fq:n<2^62):
  PC prog 43 [.ptr a 0,.i .i64 n] (fA S a l k) (fun r J'=>r=.i .i64 (place (l.getD k 0) n)∧J'=fA S a l (k+1)):=by
 refine PC.intro func43 c43 fun bj dx=>ax ?_;simp only[p43,SS,seval];have hw:IntKind.i64.wrap ((k:Int)+1)=((k+1:Nat):Int):=bd (by omega)
 by_cases h:k<l.length
 ·have hd:decide ((k:Int)<(l.length:Int))=true:=by simp;omega
  simp only[IZ ha,ag,hd,hw,IY,aD,qN h,VV,seval];refine⟨by omega,?_⟩;refine az (ED (l.getD k 0) n hn Fq _) rfl ?_;simp only[VV,seval];exact eP (.inr rfl) rfl (Wk.refl _ _) rfl ⟨rfl,rfl⟩
 ·have hd:decide ((k:Int)<(l.length:Int))=false:=by simp;omega
  have h0:l.getD k 0=0:=by rw[an,bl (by omega)];rfl
  simp only[IZ ha,ag,hd,hw,IY,VV,seval];refine az (ED 0 n hn Fq _) rfl ?_;simp only[VV,seval];exact eP (.inr rfl) rfl (Wk.refl _ _) rfl ⟨by rw[h0];rfl,rfl⟩
theorem o7(S:ae)(a:Nat)(ha:a<S.length)(l:List Int)(k:Nat)(hk:k<2^60)(n:Int)(hn:0<n)(Fq:n<2^62):
  PC prog 43 [.ptr a 0,.i .i64 n] (fA S a l k) (fun r J'=>∃ v:Int,r=.i .i64 v∧(0≤v∧v<n)∧J'=fA S a l (k+1)) :=
 (Nn S a ha l k hk n hn Fq).mono fun _ _ h=>⟨_,h.1,vY hn,h.2⟩
def qA:List (List UInt8):=[[114,101,100],[99,97,114],[82,101,100],[97],[99,97,114,115],[49,44,53],[50,50],[100,111,110,39,116],[46],[33],[32],[32,32],[60],[38],[123],[34],[92],[120,45,121],[10],[61],[125],[62],[9],[98]]
theorem ix{ws:List (List UInt8)}{n:Nat}(h:n<ws.length):∃ w∈ws,eS (ws.map fun s=>[V.s s]) n 0=some (V.s w):=by
 refine⟨ws[n],cA h,?_⟩;simp[eS,h]
theorem P1(S:ae)(a:Nat)(ha:a<S.length)(l:List Int)(k:Nat)(hk:k<2^60):
  PC prog 141 [.ptr a 0] (fA S a l k) (fun r J'=>∃ w:List UInt8,r=.s w∧w∈qA∧J'=fA S a l (k+1)):=by
 refine PC.intro func141 adw fun bj dx=>ax ?_;simp only[XL,SS,seval];simp only[VV,seval];refine cm (o7 S a ha l k hk 24 (by decide) (by decide)) rfl ?_;rintro _ _ ⟨v,rfl,hv,rfl⟩;obtain⟨w,hw,e⟩:=ix (ws:=qA) (n:=v.toNat) (by simp[qA];omega);simp only[qA,ay,bo]at e;simp only[e,VV,seval];refine⟨by omega,?_⟩;exact eP (.inr rfl) rfl (Wk.refl _ _) rfl ⟨w,rfl,hw,rfl⟩
theorem MA{w:List UInt8}(h:w∈qA):w.length≤5:=by
 revert w;decide
theorem Ui(S:ae)(a:Nat)(ha:a<S.length)(l:List Int){K:Exit→St→Prop}(k0:Nat)(Ml:k0<2^59)(n:Nat)(hn:n<2^20):∀ (m k:Nat) (out:List UInt8),m≤n→(k0≤k∧k≤k0+2*(n - m))→out.length≤6*(n - m) →
  (∀ (k:Nat) (out:List UInt8),(k0≤k∧k≤k0+2*n)→out.length≤6*n→((fj 5 (fh (.s out) (fj 25 fo))) fun ZZ=>K (.exit 0) ⟨ZZ,fA S a l k⟩)) →
  fp S.length prog IE K (m+1) ⟨(.ptr a 0::uu 4 (.s out::.i .i64 m::uu 24 [])),fA S a l k⟩:=by
 intro m
 induction m with
 | zero =>
  intro k out hm hk ho h1;refine aB fun R hR=>?_;simp only[IE,VV,seval];exact⟨nofun,fun _=>h1 k out (by omega) (by omega) ..⟩
 | succ m ih =>
  intro k out hm hk ho h1;have hw:IntKind.i64.wrap (((m+1:Nat):Int) - 1)=(m:Int):=by rw[IntWalk.i64_in _ (by omega)];omega
  refine aB fun R hR=>?_;simp only[IE,hw,VV,seval];refine⟨fun _=>?_,fun h=>by simp at h<;>omega⟩;refine cm (P1 S a ha l k (by omega)) rfl ?_;rintro _ _ ⟨w,rfl,Hq,rfl⟩;have VZ:=MA Hq;simp only[hw,VV,seval]
  by_cases gv:out=[]
  ·have e1:(!out==[])=false:=by simp[gv]
   refine oK (Q:=fun _ _=>True) (c:=false) (by simp only[e1,VV,seval]<;>rfl) (nofun) rfl (nofun) fun _=>⟨.i .i64 0,?_⟩;simp only[e1,hw,VV,seval];refine⟨by simp only[maxLen];omega,?_⟩;refine hR _ (aZ ?_ (ih (k+1) (out++w) (by omega) (by omega) (by rw[al];omega) h1))
   repeat' constructor
  ·have e1:(!out==[])=true:=by simp[gv]
   refine oK (c:=true) (by simp only[e1,VV,seval]<;>rfl) (fun _=>o7 S a ha l (k+1) (by omega) 3 (by decide) (by decide)) rfl ?_ (nofun);rintro _ _ _ ⟨v,rfl,hv,rfl⟩;simp only[e1,hw,VV,seval];refine⟨fun h=>⟨by simp only[maxLen];omega,by simp only[maxLen,al,ai,aC];omega,?_⟩,fun h=>⟨by simp only[maxLen];omega,?_⟩⟩
   ·refine hR _ (aZ ?_ (ih (k+1+1) (out++32::w) (by omega) (by omega) (by rw[al,ai];omega) h1))
    repeat' constructor
   ·refine hR _ (aZ ?_ (ih (k+1+1) (out++w) (by omega) (by omega) (by rw[al];omega) h1))
    repeat' constructor
theorem QQ(S:ae)(a:Nat)(ha:a<S.length)(l:List Int)(k:Nat)(hk:k<2^58)(n:Nat)(hn:n<2^20):
  PC prog 79 [.ptr a 0,.i .i64 n] (fA S a l k) (fun r J'=>∃ (s:List UInt8) (k':Nat),r=.s s∧s.length≤6*n∧(k≤k'∧k'≤k+2*n+1)∧J'=fA S a l k'):=by
 refine PC.intro func79 c79 fun bj dx=>ax ?_;have hw:IntKind.i64.wrap ((n:Int)+1)=((n+1:Nat):Int):=bd (by omega);simp only[p79,SS,seval];simp only[hw,VV,seval];refine cm (o7 S a ha l k (by omega) ((n+1:Nat):Int) (by omega) (by omega)) rfl ?_;rintro _ _ ⟨v,rfl,hv,rfl⟩;obtain⟨m,rfl⟩:∃ m:Nat,v=m:=⟨v.toNat,by omega⟩;simp only[hw,aN,VV,seval];refine b6.aZ ?_ (m+1) (Ui S a ha l (k+1) (by omega) m (by omega) m (k+1) [] (aq _) (by omega) (by simp) ?_)
 ·repeat' constructor
 intro k' out h1 h2;simp only[JE];intros;simp only[VV,seval];exact eP (.inr rfl) rfl (Wk.refl _ _) (by simp[aN]) ⟨out,k',rfl,by omega,by omega,rfl⟩
theorem Ug{n:Nat}{J:ae}{K:Exit→St→Prop}(l:List Int)(x:Int)(hlen:l.length<2^63):∀ (rest pre:List Int),l=pre++rest →
  (rest.contains x=false→((fj 18 fo) fun ZZ=>K (.exit 0) ⟨ZZ,J⟩))→(rest.contains x=true→((fj 4 (fh (.b true) (fj 13 fo))) fun ZZ=>K .ret ⟨ZZ,J⟩)) →
  fp n prog IC K (rest.length+1) ⟨(.sl 1 (l.map bR)::.i .i64 x::uu 5 (.i .i64 l.length::.i .i64 pre.length::uu 9 [])),J⟩:=by
 intro rest
 induction rest with
 | nil =>
  intro pre he h1 h2;have he:l=pre:=by simpa using he
  subst he;refine aB fun R hR=>?_;simp only[IC,VV,seval];exact⟨fun h=>by simp at h,fun _=>h1 rfl ..⟩
 | cons c rest ih =>
  intro pre he h1 h2;subst he;refine aB fun R hR=>?_;simp only[IC,bR,VV,seval];refine⟨fun _=>⟨by simp;omega,fun h=>?_,fun h=>?_⟩,fun h=>by simp at h<;>omega⟩
  ·have h:c=x:=by simpa using h
   exact h2 (by simp[h]) ..
  ·have h:¬ c=x:=by simpa using h
   have e:(c::rest).contains x=rest.contains x:=by
    have:(x==c)=false:=by simpa using fun e=>h e.symm
    simp only[List.contains_cons,this,im]
   rw[e]at h1 h2;refine hR _ (aZ ?_ (ih (pre++[c]) (by simp) h1 h2));rw[bd (by simp at hlen;omega)];simp only[al,ai,aC]
   repeat' constructor
theorem M9(l:List Int)(x:Int)(J:ae):PC prog 83 [.sl 1 (l.map bR),.i .i64 x] J (fun r J'=>r=.b (l.contains x)∧J'=J):=by
 refine PC.intro func83 c83 fun bj dx=>ax ?_;have hlen:=rQ (dx 0 _ rfl).1;rw[ag]at hlen;simp only[p83,SS,seval];simp only[ag,VV,seval];refine b6.aZ ?_ (l.length+1) (Ug l x hlen l [] rfl (fun h=>?_) (fun h=>?_))
 ·repeat' constructor
 ·simp only[JE];intros;simp only[VV,seval];exact aU (.inr rfl) rfl ⟨by rw[h];rfl,rfl⟩
 ·simp only[JE];intros;exact aU (.inr rfl) rfl ⟨by rw[h];rfl,rfl⟩
theorem iX(b:UInt8)(J:ae):PC prog 212 [.i .u8 b.toNat] J (fun r J'=>r=.i .i64 (dd b)∧J'=J):=by
 refine PC.intro func212 acP fun bj dx=>ax ?_;simp only[W5,SS,seval];simp only[W,seval];clear dx bj;refine⟨fun h1=>?_,fun h1=>⟨fun h2=>?_,fun h2=>⟨fun h3=>?_,fun h3=>⟨fun h4=>?_,fun h4=>?_⟩⟩⟩⟩<;>refine aU (.inr rfl) rfl ⟨?_,rfl⟩<;>simp at*<;> simp only[Pm.one,dd,aV,aW,V.i.injEq,gk]<;>(repeat' split)<;>omega
theorem yo(x:It)(J:ae):PC prog 81 [.agg x.ah7] J (fun r J'=>r=.b (bW x)∧J'=J):=by
 refine PC.intro func81 c81 fun bj dx=>ax ?_;simp only[p81,It.ah7,SS,seval];simp only[VV,seval];refine bF bj (.inr rfl) rfl (by simp[LW]) ⟨?_,rfl⟩;simp only[Pm.one,bW,aV,aW]
theorem Uh{n:Nat}{J:ae}{K:Exit→St→Prop}(s:List UInt8)(hlen:s.length<2^63):∀ (rest pre:List UInt8),s=pre++rest→32 ∉ pre →
  (32 ∉ s→((fh (.s s) (fj 17 fo)) fun ZZ=>K (.exit 0) ⟨ZZ,J⟩))→(32∈s→((fj 2 (fh (.s (s.take (Lib.indexByte s 32).toNat)) (fj 15 fo))) fun ZZ=>K .ret ⟨ZZ,J⟩)) →
  fp n prog ID K (rest.length+1) ⟨(.s s::uu 2 (.i .i64 pre.length::uu 14 [])),J⟩:=by
 intro rest
 induction rest with
 | nil =>
  intro pre he hp h1 h2;have he:s=pre:=by simpa using he
  subst he;refine aB fun R hR=>?_;simp only[ID,VV,seval];exact⟨fun h=>by simp at h,fun _=>h1 hp ..⟩
 | cons c rest ih =>
  intro pre he hp h1 h2;subst he;refine aB fun R hR=>?_;simp only[ID,VV,seval];refine⟨fun _=>⟨by simp;omega,fun h=>⟨by simp;omega,?_⟩,fun h=>?_⟩,fun h=>by simp at h<;>omega⟩
  ·have hc:c=32:=by
    rw[show(32:Int)=((32:UInt8).toNat:Int)from rfl,uC]at h;simpa using h
   subst hc
   have e:(Lib.indexByte (pre++32::rest) 32).toNat=pre.length:=by
    rw[De hp];simp
   have:=h2 (by simp);rw[e]at this;exact this ..
  ·have hc:¬ c=32:=by
    rw[show(32:Int)=((32:UInt8).toNat:Int)from rfl,uC]at h;simpa using h
   refine hR _ (aZ ?_ (ih (pre++[c]) (by simp) (by simp[hp,Tq hc]) h1 h2));rw[bd (by simp at hlen;omega)];simp only[al,ai,aC]
   repeat' constructor
theorem uO(s:List UInt8)(J:ae):PC prog 80 [.s s] J (fun r J'=>r=.s (ey s)∧J'=J):=by
 refine PC.intro func80 c80 fun bj dx=>ax ?_;have hlen:=DR (dx 0 _ rfl).1;simp only[p80,SS,seval];simp only[VV,seval];refine b6.aZ ?_ (s.length+1) (Uh s hlen s [] rfl (by simp) (fun h=>?_) (fun h=>?_))
 ·repeat' constructor
 ·simp only[JE];intros;simp only[VV,seval];refine aU (.inr rfl) rfl ⟨?_,rfl⟩;have:Lib.indexByte s 32 = -1:=yU h;simp[Pm.one,ey,cutAt,this]
 ·simp only[JE];intros;refine aU (.inr rfl) rfl ⟨?_,rfl⟩;have:0≤Lib.indexByte s 32:=yS h;simp[Pm.one,ey,cutAt,this]
theorem QP{J:ae}{K:Exit→St→Prop}(N:Nat)(hN:N<2^40):∀ (k i:Nat),i+k=N →
  ((fj 3 (fh (.own J.length N) (fj 11 fo))) fun ZZ=>K (.exit 0) ⟨ZZ,J++[.row 3 1 8 N false ((cc N).map bR)]⟩) →
  fp J.length prog CY K (k+1) ⟨(.i .i64 N::uu 2 (.own J.length i::.i .i64 ((i+1:Nat):Int)::uu 10 [])),J++[.row 3 1 8 i false ((cc i).map bR)]⟩:=by
 intro k
 induction k with
 | zero =>
  intro i he h1;have he:i=N:=by omega
  subst he;refine aB fun R hR=>?_;simp only[CY,VV,seval];exact⟨fun h=>by simp at h<;>omega,fun _=>h1 ..⟩
 | succ k ih =>
  intro i he h1;refine aB fun R hR=>?_;have hc:(cc i).map bR++[[.i .i64 ((i+1:Nat):Int)]]=(cc (i+1)).map bR:=by simp[cc,Ai,bR]
  have bj:(cc i).length=i:=by simp[cc]
  simp only[CY,hc,ag,bj,VV,seval];refine⟨fun _=>⟨⟨by omega,by simp only[maxLen];omega⟩,?_⟩,fun h=>by simp at h<;>omega⟩;refine hR _ (aZ ?_ (ih (i+1) (by omega) h1));rw[bd (by omega)]
  repeat' constructor
theorem Ko(n:Nat)(hn:n<2^40)(J:ae):PC prog 105 [.i .i64 n] J (fun r J'=>r=.sl 1 ((cc n).map bR)∧J'=J):=by
 refine PC.intro func105 adQ fun bj dx=>ax ?_;simp only[Yc,SS,seval];simp only[VV,seval];refine b6.wk ((Wk.iy (k:=3) tI rfl).trans (Wk.gA ?_)) (b6.vP (n+1) (QP n hn n 0 (by omega) ?_))
 ·simp only[VV,seval]
  repeat' constructor
 ·simp only[JE];intros;simp only[VV,seval];refine qc 0 bj (.inr rfl) rfl rfl ?_ ?_
  ·simp[fz,qD,eI,wh]
  ·simp[fz,qD,Pm.one]
theorem Uq{J:ae}{K:Exit→St→Prop}(its:List It)(bj:bG J)(hlen:its.length<2^40):∀ (rest pre:List It) (acc:List Int) (g:Nat),its=pre++rest→acc.length≤pre.length →
  (∀ g,((fj 3 (fh (.own J.length g) (fj 31 fo))) fun ZZ=>K (.exit 0) ⟨ZZ,J++[.row 3 1 8 g true ((ck acc rest).map bR)]⟩)) →
  fp J.length prog IM K (rest.length+1) ⟨(.sl 3 (its.map It.ah7)::uu 2 (.own J.length g::uu 2 (.i .i64 its.length::.i .i64 pre.length::uu 27 []))),J++[.row 3 1 8 g true (acc.map bR)]⟩:=by
 intro rest
 induction rest with
 | nil =>
  intro pre acc g he ha h1;have he:its=pre:=by simpa using he
  subst he;refine aB fun R hR=>?_;simp only[IM,VV,seval];exact⟨fun h=>by simp at h,fun _=>h1 g ..⟩
 | cons y rest ih =>
  intro pre acc g he ha h1;subst he
  have hw:IntKind.i64.wrap ((pre.length:Int)+1)=(((pre++[y]).length:Nat):Int):=by
   rw[bd (by simp at hlen;omega)];simp
  refine aB fun R hR=>?_;simp only[IM,It.ah7,VV,seval];refine⟨fun _=>⟨by simp;omega,?_⟩,fun h=>by simp at h<;>omega⟩;refine az (yo y _) rfl ?_;have bnd:(0:Int)≤pre.length∧(pre.length:Int)<(List.map It.ah7 (pre++y::rest)).length:=by simp;omega
  cases ht:bW y with
  | false =>
   have e:ck acc (y::rest)=ck acc rest:=by simp[ck,ht]
   rw[e]at h1;simp only[It.ah7,VV,seval];refine⟨nofun,.i .i64 0,nofun,?_⟩;refine cu (c:=false) (v:=.b false) (by rfl) (nofun) rfl ?_;simp only[VV,seval];refine hR _ (aZ ?_ (ih (pre++[y]) acc g (by simp) (by simp;omega) h1));rw[hw];repeat' constructor
  | true =>
   simp only[It.ah7,VV,seval];refine⟨bnd,.i .i64 y.id,rfl,?_⟩;refine cu (c:=true) (by rfl) (fun _=>PC.fzs J.length (by simp only[gj];rfl) (M9 acc y.id _) (by simp only[ay,bo,ev,aW,aV,fz,qD,jx,aL])) rfl ?_;simp only[It.ah7,VV,seval];refine⟨fun h=>?_,fun h=>?_⟩
   ·have h:acc.contains y.id=false:=by rw[dm]at h;exact h
    have e:ck acc (y::rest)=ck (acc++[y.id]) rest:=by simp only[ck,ht,h,iF,vH,aL]
    rw[e]at h1;have hr:acc.map bR++[[V.i .i64 y.id]]=(acc++[y.id]).map bR:=by simp[bR]
    rw[hr];refine⟨bnd,⟨by simp at hlen ⊢;omega,by simp at hlen ⊢;simp only[maxLen];omega⟩,?_⟩;refine hR _ (aZ ?_ (ih (pre++[y]) (acc++[y.id]) (g+1) (by simp) (by simp;omega) h1));rw[hw];repeat' constructor
   ·have h:acc.contains y.id=true:=by rw[mS]at h;exact h
    have e:ck acc (y::rest)=ck acc rest:=by simp only[ck,ht,h,fG,iG];rfl
    rw[e]at h1;refine hR _ (aZ ?_ (ih (pre++[y]) acc g (by simp) (by simp;omega) h1));rw[hw];repeat' constructor
theorem Ch(its:List It)(hlen:its.length<2^40)(J:ae):PC prog 36 [.sl 3 (its.map It.ah7)] J (fun r J'=>r=.sl 1 ((aio its).map bR)∧J'=J):=by
 refine PC.intro func36 c36 fun bj dx=>ax ?_;simp only[p36,SS,seval];simp only[ag,VV,seval];refine b6.wk ((Wk.iy (k:=3) tI rfl).trans (Wk.TS.trans (Wk.gA ?_))) (b6.vP (its.length+1) (Uq its bj hlen its [] [] 0 rfl (aq _) ?_))
 ·simp only[VV,seval]
  repeat' constructor
 ·intro g;simp only[JE];intros;simp only[VV,seval];refine qc 0 bj (.inr rfl) rfl rfl ?_ ?_
  ·simp[fz,qD,eI,wh]
  ·simp[fz,qD,Pm.one,aio]
theorem D2:Ti prog 61 3 32:=lN (by kernel_rfl)
theorem Nx{J:ae}{K:Exit→St→Prop}(its:List It)(bj:bG J)(hlen:its.length<2^40)(YC:aH its<2^40):∀ (rest pre out:List It) (g:Nat),its=pre++rest→out.length≤pre.length→aH out≤aH pre →
  (∀ g,((fj 3 (fh (.own J.length g) (fj 57 fo))) fun ZZ=>K (.exit 0) ⟨ZZ,J++[.row 61 3 32 g false ((rest.foldl cv out).map It.ah7)]⟩)) →
  fp J.length prog EK K (rest.length+1) ⟨(.sl 3 (its.map It.ah7)::uu 2 (.own J.length g::uu 4 (.i .i64 its.length::.i .i64 pre.length::uu 51 []))),J++[.row 61 3 32 g false (out.map It.ah7)]⟩:=by
 intro rest
 induction rest with
 | nil =>
  intro pre out g he ho ht h1;have he:its=pre:=by simpa using he
  subst he;refine aB fun R hR=>?_;simp only[EK,VV,seval];exact⟨fun h=>by simp at h,fun _=>h1 g ..⟩
 | cons x rest ih =>
  intro pre out g he ho ht h1;subst he
  have next:∀ (out':List It) (g':Nat) {loc:ae},cv out x=out'→∀ {R:St→Prop} {fr:List V},(∀ st',fp J.length prog EK K (rest.length+1) st'→R st') →
    nU fr (.sl 3 ((pre++x::rest).map It.ah7)::uu 2 (.own J.length g'::uu 4 (.i .i64 (pre++x::rest).length::.i .i64 (IntKind.i64.wrap ((pre.length:Int)+1))::uu 51 [])))→R ⟨fr,J++(.row 61 3 32 g' false (out'.map It.ah7)::loc)⟩:=by
   intro out' g' loc hw R fr hR hc
   have e1:IntKind.i64.wrap ((pre.length:Int)+1)=(((pre++[x]).length:Nat):Int):=by
    rw[bd (by simp at hlen;omega)];simp
   rw[e1]at hc;have hb:=mD out x;rw[hw]at hb;have e2:(x::rest).foldl cv out=rest.foldl cv out':=by rw[c8,hw]
   rw[e2]at h1;refine hR _ (b5 [_] loc (cj bj (by simp)) hc ?_ (ih (pre++[x]) out' g' (by simp) (by simp;omega) (by simp only[dF,aH];omega) h1));simp only[LW,ai,aC,bz];omega
  have okA:(out.length+1)*32≤2^47∧out.length+1≤maxLen:=by simp at hlen;simp[maxLen];omega
  refine aB fun R hR=>?_;simp only[EK,It.ah7,VV,seval];refine⟨fun _=>⟨by simp;omega,fun hk=>?_,fun hk=>⟨fun Lj=>?_,fun Lj=>?_⟩⟩,fun h=>by simp at h<;>omega⟩
  ·have hk:x.ah9≠1:=by simpa using hk
   have cq:out.map It.ah7++[[.i .i64 x.ah9,.s x.aib,.i .i64 x.id]]=(out++[x]).map It.ah7:=by simp[It.ah7]
   refine⟨by rw[ag];exact okA,?_⟩;rw[cq];refine next (out++[x]) (g+1) (by simp[cv,hk]) hR ?_
   repeat' constructor
  ·have hk:x.ah9=1:=by simpa using hk
   have Lj:x.aib=[]:=by simpa using Lj
   refine next out g (by simp[cv,hk,Lj]) hR ?_
   repeat' constructor
  have hk:x.ah9=1:=by simpa using hk
  have Lj:x.aib≠[]:=by simpa using Lj
  rcases kD out with Hs | ⟨out',y,Hr⟩
  ·subst Hs;have e0:decide ((0:Int)<(([]:List (List V)).length:Int))=false:=rfl;simp only[bo,e0];refine⟨nofun,.i .i64 0,nofun,?_⟩;simp only[VV,seval];refine⟨by decide,next [⟨1,x.aib,0⟩] (g+1) (by simp[cv,hk,Lj]) hR ?_⟩
   repeat' constructor
  ·rw[kE]at Hr;subst Hr
   have hp:IntKind.i64.wrap (((out'++[y]).length:Int) - 1)=out'.length:=by
    have:(out'++[y]).length<2^63:=by simp at ho hlen ⊢;omega
    rw[IntWalk.i64_in _ (by simp at this ⊢;omega)];simp
   have eA:eS (List.map It.ah7 (out'++[y])) out'.length 0=some (.i .i64 y.ah9):=by
    rw[qO];rfl
   have e0:decide ((0:Int)<((List.map It.ah7 (out'++[y])).length:Int))=true:=by simp
   simp only[e0,ag,hp,aD,eA];refine⟨fun _=>by simp;omega,.i .i64 y.ah9,fun _=>⟨True,rfl,trivial⟩,?_⟩;have e3:decide ((0:Int)<((out'++[y]).length:Int))=true:=by simp
   have Rt:eS (List.map It.ah7 (out'++[y])) out'.length 1=some (.s y.aib):=by
    rw[qO];rfl
   simp only[e3,hp,aD,Rt,ag,VV,seval];have hb:(0:Int)≤(out'.length:Int)∧(out'.length:Int)<((out'++[y]).length:Int):=⟨by omega,by rw[al,AY];omega⟩;refine⟨fun hy=>⟨hb,?_,hb,by omega,?_⟩,fun hy=>⟨okA,?_⟩⟩
   ·simp only[dF,aH]at ht YC;simp only[maxLen];omega
   ·have hy:y.ah9=1:=by simpa using hy
    have cq:(List.map It.ah7 (out'++[y])).set out'.length (.i .i64 1::.s (y.aib++x.aib)::.i .i64 0::List.drop 3 y.ah7)=(out'++[(⟨1,y.aib++x.aib,0⟩:It)]).map It.ah7:=by
     simp[List.set_append,It.ah7]
    rw[cq];refine next (out'++[⟨1,y.aib++x.aib,0⟩]) g (by simp[cv,hk,Lj,hy]) hR ?_
    repeat' constructor
   ·have hy:¬ y.ah9=1:=by simpa using hy
    have cq:List.map It.ah7 (out'++[y])++[[.i .i64 1,.s x.aib,.i .i64 0]]=(out'++[y]++[(⟨1,x.aib,0⟩:It)]).map It.ah7:=by simp[It.ah7]
    rw[cq];refine next (out'++[y]++[⟨1,x.aib,0⟩]) (g+1) (by simp[cv,hk,Lj,hy]) hR ?_
    repeat' constructor
theorem qf(its:List It)(hlen:its.length<2^40)(ht:aH its<2^40)(J:ae):PC prog 82 [.sl 3 (its.map It.ah7)] J (fun r J'=>r=.sl 3 ((aih its).map It.ah7)∧J'=J):=by
 refine PC.intro func82 c82 fun bj dx=>ax ?_;simp only[p82,SS,seval];simp only[ag,VV,seval];refine b6.wk ((Wk.iy (k:=3) D2 rfl).trans (Wk.gA ?_)) (b6.vP (its.length+1) (Nx its bj hlen ht its [] [] 0 rfl (aq _) (aq _) ?_))
 ·simp only[VV,seval]
  repeat' constructor
 ·intro g;simp only[JE];intros;simp only[VV,seval];refine qc 0 bj (.inr rfl) rfl rfl ?_ ?_
  ·simp[fz,qD,eI,wh]
  ·have e:its.foldl cv []=aih its:=lB its;simp[fz,qD,Pm.one,e]
theorem kb(a b:List It)(ha:a.length<2^39)(hb:b.length<2^39)(eA:aH a<2^39)(hbt:aH b<2^39)(J:ae):PC prog 48 [.sl 3 (a.map It.ah7),.sl 3 (b.map It.ah7)] J (fun r J'=>r=.sl 3 ((aih (a++b)).map It.ah7)∧J'=J):=by
 refine PC.intro func48 c48 fun bj dx=>ax ?_;simp only[p48,SS,seval];simp only[ag,VV,seval];refine⟨by simp[maxLen];omega,by simp[maxLen];omega,?_⟩;refine nF J.length (by simp only[gj];rfl) (qf (a++b) (by simp;omega) (by rw[dF];omega) _) (by simp[fz,qD,ev]) ?_;simp only[VV,seval];exact jz bj (by rfl) (by simp[LW])
theorem gE{S:ae}{a:Nat}{l:List Int}{k:Nat}{loc:ae}:(fA S a l k++loc)[S.length]?=loc[0]?:=by
 rw[aA (by rw[aN];exact aq _),aN,eJ]
theorem nb{S:ae}{a:Nat}{l:List Int}{k j:Nat}{loc:ae}:(fA S a l k++loc)[S.length+j]?=loc[j]?:=by
 rw[aA (by rw[aN];omega),aN,cU]
theorem dt{S:ae}{a:Nat}{l:List Int}{k:Nat}{loc:ae}{o:Ob}:(fA S a l k++loc).set S.length o=fA S a l k++loc.set 0 o:=by
 rw[cd _ _ (by rw[aN];exact aq _),aN,eJ]
theorem iQ{S:ae}{a:Nat}{l:List Int}{k j:Nat}{loc:ae}{o:Ob}:(fA S a l k++loc).set (S.length+j) o=fA S a l k++loc.set j o:=by
 rw[cd _ _ (by rw[aN];omega),aN,cU]
theorem fe{S:ae}{a:Nat}{l:List Int}{k k':Nat}(h:bG (fA S a l k)):bG (fA S a l k'):=by
 intro id o hid j x hx
 by_cases e:a=id
 ·subst e;simp only[fA]at hid;rw[List.getElem?_set]at hid;simp only[aL]at hid;split at hid
  ·simp only[aa]at hid;subst hid;rcases j with _ | _ | j
   ·simp only[Ob.refs,aw,aa]at hx;subst hx;exact .sl _ _
   ·simp only[Ob.refs,bI,aw,aa]at hx;subst hx;exact .i _ _
   ·simp[Ob.refs]at hx
  ·simp at hid
 ·have e1:(fA S a l k)[id]?=some o:=by
   simp only[fA]at hid ⊢;rw[aJ e]at hid ⊢;exact hid
  have:=h id o e1 j x hx;rw[aN]at this ⊢;exact this
theorem dJ(S:ae)(a:Nat)(ha:a<S.length)(l:List Int)(k:Nat)(hk:k<2^60)(n:Int)(hn:0<n)(Fq:n<2^62)(loc:ae):
  PC prog 43 [.ptr a 0,.i .i64 n] (fA S a l k++loc) (fun r J'=>∃ v:Int,r=.i .i64 v∧(0≤v∧v<n)∧J'=fA S a l (k+1)++loc):=by
 rw[jN ha];refine(o7 (S++loc) a (by rw[al];omega) l k hk n hn Fq).mono ?_;rintro r J' ⟨v,h1,h2,h3⟩;exact⟨v,h1,h2,by rw[h3,jN ha]⟩
theorem I6(S:ae)(a:Nat)(ha:a<S.length)(l:List Int)(k:Nat)(hk:k<2^58)(n:Nat)(hn:n<2^20)(loc:ae):
  PC prog 79 [.ptr a 0,.i .i64 n] (fA S a l k++loc) (fun r J'=>∃ (s:List UInt8) (k':Nat),r=.s s∧s.length≤6*n∧(k≤k'∧k'≤k+2*n+1)∧J'=fA S a l k'++loc):=by
 rw[jN ha];refine(QQ (S++loc) a (by rw[al];omega) l k hk n hn).mono ?_;rintro r J' ⟨s,k',h1,h2,h3,h4⟩;exact⟨s,k',h1,h2,h3,by rw[h4,jN ha]⟩
theorem jD{f:List It}(x:It)(h:bA [] f=0):aH (aih (f++[x]))≤aH f+x.aib.length∧(aih (f++[x])).length≤f.length+1:=by
 rw[iZ (kS h)];exact mD f x
def pU(t:List UInt8):List (List UInt8):=[[114,111,116],[100,97,115,32,65,117,116,111],[],[101,105,110,32]++t,t]
theorem B6{t w:List UInt8}(h:w∈pU t):w.length≤t.length+8:=by
 simp only[pU,bJ,eL,DB]at h;rcases h with rfl | rfl | rfl | rfl | rfl<;>simp
theorem Uf(S:ae)(a:Nat)(ha:a<S.length)(l:List Int){K:Exit→St→Prop}(k0:Nat)(Ml:k0<2^50)(bj:bG (fA S a l k0))(src:List It)(sH:bA [] src=0)(hlen:src.length≤100)(ZS:aH src≤10000):
  ∀ (rest pre f:List It) (k:Nat),src=pre++rest→H6 pre f→f.length≤2*pre.length→aH f≤aH pre+20*pre.length→(k0≤k∧k≤k0+10*pre.length) →
  (∀ (k:Nat) (f:List It),H6 src f→f.length≤2*src.length→aH f≤aH src+20*src.length→(k0≤k∧k≤k0+10*src.length)→((fj 5 (fh (.sl 3 (f.map It.ah7)) (fj 40 fo))) fun ZZ=>K (.exit 0) ⟨ZZ,fA S a l k⟩)) →
  fp S.length prog EI K (rest.length+1) ⟨(.ptr a 0::.sl 3 (src.map It.ah7)::uu 3 (.sl 3 (f.map It.ah7)::uu 3 (.i .i64 src.length::.i .i64 pre.length::uu 35 []))),fA S a l k⟩:=by
 intro rest
 induction rest with
 | nil =>
  intro pre f k he hT rq Z6 hk h1;have he:src=pre:=by simpa using he
  subst he;refine aB fun R hR=>?_;simp only[EI,VV,seval];exact⟨fun h=>by simp at h,fun _=>h1 k f hT rq Z6 hk ..⟩
 | cons x rest ih =>
  intro pre f k he hT rq Z6 hk h1;subst he;have SU:aH (pre++x::rest)=aH pre+(x.aib.length+aH rest):=by rw[dF];rfl
  have hpt:aH (pre++[x])=aH pre+x.aib.length:=by rw[dF];simp[aH]
  have Fo:(pre++[x]).length=pre.length+1:=by simp
  have SX:(pre++x::rest).length=pre.length+(rest.length+1):=by simp
  have hw:IntKind.i64.wrap ((pre.length:Int)+1)=(((pre++[x]).length:Nat):Int):=by
   rw[bd (by omega),Fo]
  have xc:(0:Int)≤pre.length∧(pre.length:Int)<(List.map It.ah7 (pre++x::rest)).length:=by simp;omega
  refine aB fun R hR=>?_
  have fin:∀ (g:List It) (k':Nat) (fr:List V) (loc:ae),H6 (pre++[x]) g→g.length≤f.length+2→aH g≤aH f+x.aib.length+20→(k≤k'∧k'≤k+10) →
    nU fr (.ptr a 0::.sl 3 ((pre++x::rest).map It.ah7)::uu 3 (.sl 3 (g.map It.ah7)::uu 3 (.i .i64 (pre++x::rest).length::.i .i64 (pre++[x]).length::uu 35 [])))→R ⟨fr,fA S a l k'++loc⟩:=by
   intro g k' fr loc g1 g2 g3 g4 hc;refine hR _ (oh (by rw[aN];exact aq _) (fe bj) hc ?_ (ih (pre++[x]) g k' (by simp) g1 (by omega) (by omega) (by omega) h1));simp only[aN,ha,LW]
  by_cases rZ:x.ah9=1
  ·have e1:(x.ah9==1)=true:=by simp[rZ]
   simp only[EI,aD,It.ah7,e1,aN,gE,dt,VV,seval];refine⟨fun _=>⟨xc,by simp only[maxLen];omega,?_⟩,fun h=>by simp at h<;>omega⟩;refine cm (dJ S a ha l k (by omega) 5 (by decide) (by decide) _) rfl ?_;rintro _ _ ⟨v,rfl,hv,rfl⟩;obtain⟨w,Hq,ew⟩:=ix (ws:=pU x.aib) (n:=v.toNat) (by simp[pU];omega);have VZ:=B6 Hq;simp only[pU,ay,bo,bn,bk]at ew;simp only[ew,aN,gE,dt,hw,VV,seval];refine⟨by omega,?_⟩
   have VY:x.id=0:=by
    rw[pD,rX]at sH;exact(ry rZ sH.2.1).2.1
   have hb:=jD ⟨1,w,0⟩ hT.err;refine lx (zs:=[.sl 3 (f.map It.ah7),.sl 3 ([(⟨1,w,0⟩:It)].map It.ah7)]) ?_ (kb f [⟨1,w,0⟩] (by omega) (by simp) (by omega) (by simp[aH];omega) _) ?_
   ·simp only[rZ,VY];exact .cons (.refl _) (.cons (.lit _ _) .nil)
   ·simp only[hw,VV,seval];refine fin _ _ _ _ (hT.aib rZ w) (by omega) (by simp only at hb;omega) (by omega) ?_
    repeat' constructor
  ·have e1:(x.ah9==1)=false:=by simpa using rZ
   simp only[EI,aD,It.ah7,e1,aN,gE,dt,VV,seval];refine⟨fun _=>⟨xc,?_⟩,fun h=>by simp at h<;>omega⟩;refine cm (dJ S a ha l k (by omega) 3 (by decide) (by decide) _) rfl ?_;rintro _ _ ⟨v,rfl,hv,rfl⟩;have hex:(⟨x.ah9,x.aib,x.id⟩:It)=x:=rfl
   by_cases Gl:v=0
   ·have e2:(v==0)=true:=by simp[Gl]
    simp only[e2,aN,gE,dt,hw,VV,seval];refine cm (I6 S a ha l (k+1) (by omega) 2 (by decide) _) rfl ?_;rintro _ _ ⟨t,k',rfl,ht,hk',rfl⟩;have hb:=jD ⟨1,t,0⟩ hT.err;simp only at hb;have hT2:=hT.more t;have jr:=jD x hT2.err;simp only[aN,gE,dt,hw,VV,seval];refine lx (zs:=[.sl 3 (f.map It.ah7),.sl 3 ([(⟨1,t,0⟩:It)].map It.ah7)]) (.cons (.refl _) (.cons (.lit _ _) .nil)) (kb f [⟨1,t,0⟩] (by omega) (by simp) (by omega) (by simp[aH];omega) _) ?_;simp only[aN,gE,dt,hw,VV,seval];refine lx (zs:=[.sl 3 ((aih (f++[(⟨1,t,0⟩:It)])).map It.ah7),.sl 3 ([x].map It.ah7)]) (.cons (.refl _) (.cons (.lit _ _) .nil)) (kb _ [x] (by omega) (by simp) (by omega) (by simp[aH];omega) _) ?_;simp only[hw,VV,seval];refine fin _ _ _ _ (hT2.item sH rZ) (by omega) (by omega) (by omega) ?_
    repeat' constructor
   ·have e2:(v==0)=false:=by simpa using Gl
    have jr:=jD x hT.err;simp only[e2,aN,gE,dt,hw,VV,seval];refine lx (zs:=[.sl 3 (f.map It.ah7),.sl 3 ([x].map It.ah7)]) (.cons (.refl _) (.cons (.lit _ _) .nil)) (kb f [x] (by omega) (by simp) (by omega) (by simp[aH];omega) _) ?_;simp only[hw,VV,seval];refine fin _ _ _ _ (hT.item sH rZ) (by omega) (by omega) (by omega) ?_
    repeat' constructor
theorem JY(S:ae)(a:Nat)(ha:a<S.length)(l:List Int)(k:Nat)(hk:k<2^50)(src:List It)(sH:bA [] src=0)(hlen:src.length≤100)(ZS:aH src≤10000):
  PC prog 94 [.ptr a 0,.sl 3 (src.map It.ah7)] (fA S a l k) (fun r J'=>∃ (f:List It) (k':Nat),r=.sl 3 (f.map It.ah7)∧bA [] f=0∧f.length≤2*src.length∧aH f≤aH src+20*src.length∧(k≤k'∧k'≤k+10*src.length)∧J'=fA S a l k'):=by
 refine PC.intro func94 c94 fun bj dx=>ax ?_;simp only[p94,SS,seval];simp only[ag,aN,VV,seval];refine b6.aZ (fr':=(.ptr a 0::.sl 3 (src.map It.ah7)::uu 3 (.sl 3 (([]:List It).map It.ah7)::uu 3 (.i .i64 src.length::.i .i64 (([]:List It).length:Nat)::uu 35 [])))) ?_ (src.length+1) (Uf S a ha l k hk bj src sH hlen ZS src [] [] k rfl H6.nil (by simp) (by simp[aH]) (by simp) ?_)
 ·simp only[bo,aC]
  repeat first | exact .nil | refine .cons (.refl _) ?_ | refine .cons (.nil _) ?_ | refine .cons (.forget _) ?_
 intro k' f hT h1 h2 h3;simp only[JE];intros;simp only[VV,seval];exact eP (.inr rfl) rfl (Wk.refl _ _) (by simp[aN]) ⟨f,k',rfl,hT.err,h1,h2,h3,rfl⟩
theorem wV(its:List It)(hlen:its.length<2^40)(ht:aH its<2^40)(J:ae):PC prog 82 [.sl 3 (its.map It.ah7)] J (fun r J'=>r=.own J.length 0∧J'=J++[.row 61 3 32 0 false ((aih its).map It.ah7)]):=by
 refine PC.intro func82 c82 fun bj dx=>ax ?_;simp only[p82,SS,seval];simp only[ag,VV,seval];refine b6.wk ((Wk.iy (k:=3) D2 rfl).trans (Wk.gA ?_)) (b6.vP (its.length+1) (Nx its bj hlen ht its [] [] 0 rfl (aq _) (aq _) ?_))
 ·simp only[VV,seval]
  repeat' constructor
 ·intro g;simp only[JE];intros;simp only[VV,seval];have e:its.foldl cv []=aih its:=lB its;rw[e];exact oX 0 bj (.inr rfl) rfl rfl rfl (by simp[wY,Ob.gen]) (by simp[Pm.one,Nr,Ob.fresh])
theorem Ci(a b:List It)(ha:a.length<2^39)(hb:b.length<2^39)(eA:aH a<2^39)(hbt:aH b<2^39)(J:ae):PC prog 48 [.sl 3 (a.map It.ah7),.sl 3 (b.map It.ah7)] J (fun r J'=>r=.own J.length 0∧J'=J++[.row 61 3 32 0 false ((aih (a++b)).map It.ah7)]):=by
 refine PC.intro func48 c48 fun bj dx=>ax ?_;simp only[p48,SS,seval];simp only[ag,VV,seval];refine⟨by simp[maxLen];omega,by simp[maxLen];omega,?_⟩;refine nF J.length (by simp only[gj];rfl) (wV (a++b) (by simp;omega) (by rw[dF];omega) _) (by simp[fz,qD,ev]) ?_;simp only[VV,seval];exact oX 1 bj (.inr rfl) rfl rfl rfl (by simp[wY,Ob.gen]) (by simp[Pm.one,Nr,Ob.fresh])
theorem pY(s:List UInt8):(ey s).length≤s.length:=(vl s 32).1
def lG:List (List UInt8):=[[110],[110,97,109,101],[120,49]]
def pg:List (List UInt8):=[[98,114],[105,109,103,32,97]]
def mG:List (List UInt8):=[[98],[105],[97,32,104,61,49]]
theorem qB:∀ s∈lG,ain s=true∧s.length≤5:=by decide +kernel
theorem AN:∀ s∈pg,fB s=true∧s.length≤5:=by decide +kernel
theorem wB:∀ s∈mG,fB s=true∧ain (ey s)=true∧s.length≤5:=by decide +kernel
def eN(g:Nat)(sh:Bool)(f:List It):Ob:=.row 61 3 32 g sh (f.map It.ah7)
theorem LD{S:ae}{a:Nat}{l:List Int}{k:Nat}{loc:ae}(bj:bG (fA S a l k)){i j g1 g2:Nat}{sh1 sh2:Bool}{f o:List It}(Hw:i≠j)(h1:loc[i]?=some (eN g1 sh1 f))(h2:loc[j]?=some (eN g2 sh2 o))
  {xs ys:List V} (hx:Tn S.length loc [i,j] xs ys):Wk prog S.length xs (fA S a l k++loc) ys (fA S a l k++[eN 0 sh1 f,eN 0 sh2 o]):=by
 have:=Wk.Yo (P:=prog) (xs:=xs) (ys:=ys) (J:=fA S a l k) (loc:=loc) (os:=[eN 0 sh1 f,eN 0 sh2 o]) [i,j] bj (by simpa using Hw) rfl (fun q k' hq=>by
  rcases q with _ | _ | q
  ·simp only[aw,aa]at hq;subst hq;exact⟨_,h1,rfl,rfl⟩
  ·simp only[bI,aw,aa]at hq;subst hq;exact⟨_,h2,rfl,rfl⟩
  ·simp at hq) (by rw[aN];exact hx)
 rwa [aN]at this
set_option maxRecDepth 20000 in
theorem NG(S:ae)(a:Nat)(l:List Int)(k:Nat){K:Exit→St→Prop}(opn:List It)(s7:opn.length≤100)(Jk:∀ y∈opn,y.aib.length≤5)(id:Nat)(hid:id≤100)(g2:Nat):∀ (m:Nat) (cur f:List It) (g1:Nat),cur.length=m→(∃ d,opn=cur++d)→wR f cur id→f.length+m≤1000 →
  (∀ (f':List It) (g1:Nat),bA [] f'=0→f'.length=f.length+m→aH f'≤aH f+5*m→((fj 9 (fh (.own S.length g1) (fj 131 fo))) fun ZZ=>K (.exit 3) ⟨ZZ,fA S a l k++[eN g1 false f',eN g2 false opn]⟩)) →
  fp S.length prog IP K (m+1) ⟨(uu 3 (.b true::uu 5 (.own S.length g1::.own (S.length+1) g2::uu 4 (.i .i64 ((m:Int) - 1)::uu 125 [])))),fA S a l k++[eN g1 false f,eN g2 false opn]⟩:=by
 intro m
 induction m with
 | zero =>
  intro cur f g1 hc _ hG hf h1;have e1:decide ((0:Int)≤((0:Nat):Int) - 1)=false:=rfl;refine aB fun R hR=>?_;simp only[IP,e1,VV,Int.reduceBEq,Int.reduceBNe,Nat.reduceAdd,Nat.reduceSub,Nat.reduceLeDiff,Nat.reduceEqDiff,Int.reduceToNat,reduceIte,reduceCtorEq];exact h1 f g1 hG.err (by omega) (by omega) ..
 | succ m ih =>
  intro cur f g1 hc N6 hG hf h1;obtain⟨d,N7⟩:=N6;rcases kD cur with h0 | ⟨cur',y,h0⟩
  ·subst h0;simp at hc
  rw[kE]at h0;subst h0;have hc':cur'.length=m:=by simpa using hc
  subst hc';rw[aR,iH]at N7;have e0:((cur'.length+1:Nat):Int) - 1=(cur'.length:Int):=by omega
  have Mk:opn.length=cur'.length+(d.length+1):=by rw[N7];simp
  have hw:IntKind.i64.wrap ((cur'.length:Int) - 1)=(cur'.length:Int) - 1:=IntWalk.i64_in _ (by omega);have eA:∀ j,eS (List.map It.ah7 opn) cur'.length j=y.ah7[j]?:=fun j=>by rw[N7];exact qO
  have hyt:=Jk y (by rw[N7];simp);have htn:=pY y.aib;have hd:decide ((0:Int)≤(cur'.length:Int))=true:=by simp
  have sI:(0:Int)≤(cur'.length:Int)∧(cur'.length:Int)<((List.map It.ah7 opn).length:Int):=⟨by omega,by rw[ag];omega⟩;obtain⟨Jr,_⟩:=hG.close (by omega);rw[e0];refine aB fun R hR=>?_;simp only[IP,eN,hd,hw,aD,aN,gE,nb,eA,It.ah7,VV,seval];refine⟨sI,sI,?_⟩;refine az (uO y.aib _) rfl ?_;simp only[aN,gE,nb,dt,iQ,eA,It.ah7,hw,ag,VV,seval];refine⟨by omega,⟨by omega,by simp only[maxLen];omega⟩,?_⟩;have e3:f.map It.ah7++[[V.i .i64 3,.s (ey y.aib),.i .i64 y.id]]=(f++[(⟨3,ey y.aib,y.id⟩:It)]).map It.ah7:=by simp[It.ah7]
  rw[e3];have ht3:aH (f++[⟨3,ey y.aib,y.id⟩])=aH f+(ey y.aib).length:=by simp[dF,aH]
  have hl3:(f++[(⟨3,ey y.aib,y.id⟩:It)]).length=f.length+1:=by simp
  refine hR _ (aZ ?_ (ih cur' _ (g1+1) rfl ⟨y::d,N7⟩ Jr (by omega) fun f' g' q1 q2 q3=>h1 f' g' q1 (by omega) (by omega)))
  repeat' constructor
set_option maxHeartbeats 4000000 in
set_option maxRecDepth 20000 in
theorem NH(S:ae)(a:Nat)(ha:a<S.length)(l:List Int){K:Exit→St→Prop}(k0:Nat)(Ml:k0<2^50)(bj:bG (fA S a l k0))(N:Nat)(hN:N≤20):∀ (m:Nat) (k:Nat) (f opn:List It) (id g1 g2:Nat),m≤N→id+m≤N→opn.length+m≤N →
  (∀ y∈opn,y.aib.length≤5)→wR f opn id→f.length+m≤N→aH f+18*m≤18*N→(k0≤k∧k+12*m≤k0+12*N) →
  (∀ (k:Nat) (f opn:List It) (id g1 g2:Nat),id≤N→opn.length≤N→(∀ y∈opn,y.aib.length≤5)→wR f opn id→f.length≤N→aH f≤18*N→(k0≤k∧k≤k0+12*N) →
   ((fj 3 (fh (.b true) (fj 5 (fh (.own S.length g1) (fh (.own (S.length+1) g2) (fj 130 fo)))))) fun ZZ=>K (.exit 0) ⟨ZZ,fA S a l k++[eN g1 false f,eN g2 false opn]⟩)) →
  fp S.length prog IQ K (m+1) ⟨(.ptr a 0::uu 1 (.b true::.b true::uu 5 (.own S.length g1::.own (S.length+1) g2::.i .i64 id::.i .i64 m::uu 128 []))),fA S a l k++[eN g1 false f,eN g2 false opn]⟩:=by
 intro m
 induction m with
 | zero =>
  intro k f opn id g1 g2 hm hid dG Jk hG hf Z6 hk h1;refine aB fun R hR=>?_;simp only[IQ,VV,Int.reduceBEq,Int.reduceBNe,Nat.reduceAdd,Nat.reduceSub,Nat.reduceLeDiff,Nat.reduceEqDiff,Int.reduceToNat,reduceIte,reduceCtorEq];exact⟨nofun,fun _=>h1 k f opn id g1 g2 (by omega) (by omega) Jk hG (by omega) (by omega) (by omega) ..⟩
 | succ m ih =>
  intro k f opn id g1 g2 hm hid dG Jk hG hf Z6 hk h1;have hw:IntKind.i64.wrap (((m+1:Nat):Int) - 1)=(m:Int):=by rw[IntWalk.i64_in _ (by omega)];omega
  refine uN fun R hR=>?_;simp only[IQ];refine b6.cut fun R1 Jq=>?_;simp only[VV,Int.reduceBEq,Int.reduceBNe,Nat.reduceAdd,Nat.reduceSub,Nat.reduceLeDiff,Nat.reduceEqDiff,Int.reduceToNat,reduceIte,reduceCtorEq];refine⟨fun _=>?_,fun h=>by simp at h<;>omega⟩;refine Jq _ (b6.gA (fr':=(.ptr a 0::uu 1 (.b true::.b true::uu 5 (.own S.length g1::.own (S.length+1) g2::.i .i64 id::.i .i64 (m+1:Nat)::uu 128 [])))) ?_ (by repeat' constructor));clear Jq R1;refine b6.LO fun R2 Zl=>b6.ic ?_;refine b6.cut fun R3 Zk=>?_;simp only[eN,aN,gE,nb,dt,iQ,VV,Int.reduceBEq,Int.reduceBNe,Nat.reduceAdd,Nat.reduceSub,Nat.reduceLeDiff,Nat.reduceEqDiff,Int.reduceToNat,reduceIte,reduceCtorEq];refine cm (I6 S a ha l k (by omega) 3 (by decide) _) rfl ?_;rintro _ _ ⟨t,k1,rfl,ht,rZ,rfl⟩;simp only[aN,gE,nb,dt,iQ,VV,Int.reduceBEq,Int.reduceBNe,Nat.reduceAdd,Nat.reduceSub,Nat.reduceLeDiff,Nat.reduceEqDiff,Int.reduceToNat,reduceIte,reduceCtorEq];refine Zk _ (b6.gA (fr':=(.ptr a 0::uu 1 (.b true::.b true::uu 5 (.own S.length g1::.own (S.length+1) g2::.i .i64 id::.i .i64 (m+1:Nat)::.ptr (S.length+2) 0::uu 127 [])))) ?_ (by repeat' constructor));clear Zk R3;refine b6.LO fun R4 hR4=>?_
  have tail:∀ (x:It) (r1:Ob) (ext:ae) (j k2:Nat) (opn2:List It) (id2 g2':Nat) {fr:List V},(eN g1 true f::r1::.box 61 x.ah7::(ext++[eN 0 false (aih (f++[x]))]))[j]?=some (eN g2' false opn2)→ext.length+3≠j →
    id2+m≤N→opn2.length+m≤N→(∀ y∈opn2,y.aib.length≤5)→wR (aih (f++[x])) opn2 id2→x.aib.length≤18→(k≤k2∧k2≤k+12) →
    nU fr (.ptr a 0::uu 1 (.b true::.b true::uu 5 (.own S.length g1::.own (S.length+j) g2'::.i .i64 id2::.i .i64 (m+1:Nat)::.ptr (S.length+2) 0::uu 127 [])))→R4 ⟨fr,fA S a l k2++(eN g1 false f::r1::.box 61 x.ah7::ext)⟩:=by
   intro x r1 ext j k2 opn2 id2 g2' fr hj gv c1 c2 c3 c4 c5 c6 hc;have hb:=jD x hG.err;refine hR4 _ (b6.gA ?_ hc);clear hR4 hc;refine ax ?_;simp only[eN,It.ah7,aN,gE,nb,dt,iQ,VV,Int.reduceBEq,Int.reduceBNe,Nat.reduceAdd,Nat.reduceSub,Nat.reduceLeDiff,Nat.reduceEqDiff,Int.reduceToNat,reduceIte,reduceCtorEq];refine Sn (zs:=[.sl 3 (f.map It.ah7),.sl 3 ([x].map It.ah7)]) (σ1:=fA S a l k2++(eN g1 true f::r1::.box 61 x.ah7::ext)) ?_ (Ci f [x] (by omega) (by simp) (by omega) (by simp[aH];omega) _) ?_
   ·refine(Wk.fz S.length (E:=61) (sz:=3) (by':=32) (g:=g1) (sh:=false) (rows:=f.map It.ah7) (by rw[gE];rfl)).trans ?_;rw[dt];simp only[ay,bo,ev,di,aV,aW,jV,iD,fz,qD,jx,aL];exact Wk.gA (.cons (.refl _) (.cons (.lit _ _) .nil))
   simp only[aN,gE,nb,dt,iQ,VV,Int.reduceBEq,Int.reduceBNe,Nat.reduceAdd,Nat.reduceSub,Nat.reduceLeDiff,Nat.reduceEqDiff,Int.reduceToNat,reduceIte,reduceCtorEq];refine Zl _ (b6.gA (fr':=(.ptr a 0::uu 1 (.b true::.b true::uu 5 (.own (S.length+(ext.length+1+1+1)) 0::.own (S.length+j) g2'::.i .i64 id2::.i .i64 (m+1:Nat)::uu 128 [])))) (ax ?_) (by repeat' constructor));simp only[hw,VV,Int.reduceBEq,Int.reduceBNe,Nat.reduceAdd,Nat.reduceSub,Nat.reduceLeDiff,Nat.reduceEqDiff,Int.reduceToNat,reduceIte,reduceCtorEq]
   refine hR _ (sy (fr':=(.ptr a 0::uu 1 (.b true::.b true::uu 5 (.own (S.length+0) 0::.own (S.length+1) 0::.i .i64 id2::.i .i64 m::uu 128 [])))) (J':=fA S a l k2++[eN 0 false (aih (f++[x])),eN 0 false opn2])
    ((Wk.gA (ys:=(.ptr a 0::uu 1 (.b true::.b true::uu 5 (.own (S.length+(ext.length+1+1+1)) 0::.own (S.length+j) g2'::.i .i64 id2::.i .i64 m::uu 128 [])))) (by repeat' constructor)).trans
     (LD (i:=ext.length+1+1+1) (j:=j) (g1:=0) (g2:=g2') (fe bj) gv (by simp[eN]) hj ?_)) (ih k2 (aih (f++[x])) opn2 id2 0 0 (by omega) c1 c2 c3 c4 (by omega) (by omega) (by omega) h1))
   repeat first | exact .nil | refine .cons (.forget _) ?_ | refine .cons (.own 0 (ext.length+1+1+1) 61 3 32 0 false ((aih (f++[x])).map It.ah7) rfl (by simp;rfl)) ?_ | refine .cons (.own 1 j 61 3 32 g2' false (opn2.map It.ah7) rfl hj) ?_ | refine .cons (.eH _ (by simp only[ha,LW])) ?_
  refine b6.cut fun R5 PM=>?_;simp only[aN,VV,Int.reduceBEq,Int.reduceBNe,Nat.reduceAdd,Nat.reduceSub,Nat.reduceLeDiff,Nat.reduceEqDiff,Int.reduceToNat,reduceIte,reduceCtorEq];refine cm (dJ S a ha l k1 (by omega) 8 (by decide) (by decide) _) rfl ?_;rintro _ _ ⟨v,rfl,hv,rfl⟩;simp only[aN,VV,Int.reduceBEq,Int.reduceBNe,Nat.reduceAdd,Nat.reduceSub,Nat.reduceLeDiff,Nat.reduceEqDiff,Int.reduceToNat,reduceIte,reduceCtorEq];refine PM _ (b6.gA (fr':=(.ptr a 0::uu 1 (.b true::.b true::uu 5 (.own S.length g1::.own (S.length+1) g2::.i .i64 id::.i .i64 (m+1:Nat)::.ptr (S.length+2) 0::uu 14 (.i .i64 v::uu 112 []))))) (ax ?_) (by repeat' constructor));clear PM R5;have Lh:IntKind.i64.wrap ((id:Int)+1)=((id+1:Nat):Int):=bd (by omega);have UN:((id+1:Nat):Int)=(id:Int)+1:=by omega
  have UC:(v=0∨v=1)∨v=2∨(v=3∨v=4)∨(v=5∨v=6)∨v=7:=by omega
  rcases UC with UC | rfl | UC | UC | rfl
  ·have slot:∀ {w:List UInt8},w∈lG→wR (aih (f++[⟨5,w,0⟩])) opn id:=fun h=>hG.slot (qB _ h).1;rcases UC with rfl | rfl
   ·simp only[aN,gE,nb,dt,iQ,VV,Int.reduceBEq,Int.reduceBNe,Nat.reduceAdd,Nat.reduceSub,Nat.reduceLeDiff,Nat.reduceEqDiff,Int.reduceToNat,reduceIte,reduceCtorEq];refine cm (dJ S a ha l (k1+1) (by omega) 3 (by decide) (by decide) _) rfl ?_;rintro _ _ ⟨u,rfl,hu,rfl⟩;obtain⟨w,Hq,ew⟩:=ix (ws:=lG) (n:=u.toNat) (by simp[lG];omega);simp only[lG,ay,bo]at ew;simp only[ew,aN,gE,nb,dt,iQ,VV,Int.reduceBEq,Int.reduceBNe,Nat.reduceAdd,Nat.reduceSub,Nat.reduceLeDiff,Nat.reduceEqDiff,Int.reduceToNat,reduceIte,reduceCtorEq];refine⟨by omega,?_⟩;exact tail ⟨5,w,0⟩ (eN g2 false opn) [] 1 (k1+1+1) opn id g2 rfl (by simp) (by omega) (by omega) Jk (slot Hq) (by have:=(qB _ Hq).2;simp only;omega) (by omega) (by repeat' constructor)
   ·simp only[aN,gE,nb,dt,iQ,VV,Int.reduceBEq,Int.reduceBNe,Nat.reduceAdd,Nat.reduceSub,Nat.reduceLeDiff,Nat.reduceEqDiff,Int.reduceToNat,reduceIte,reduceCtorEq];refine cm (dJ S a ha l (k1+1) (by omega) 3 (by decide) (by decide) _) rfl ?_;rintro _ _ ⟨u,rfl,hu,rfl⟩;obtain⟨w,Hq,ew⟩:=ix (ws:=lG) (n:=u.toNat) (by simp[lG];omega);simp only[lG,ay,bo]at ew;simp only[ew,aN,gE,nb,dt,iQ,VV,Int.reduceBEq,Int.reduceBNe,Nat.reduceAdd,Nat.reduceSub,Nat.reduceLeDiff,Nat.reduceEqDiff,Int.reduceToNat,reduceIte,reduceCtorEq];refine⟨by omega,?_⟩;exact tail ⟨5,w,0⟩ (eN g2 false opn) [] 1 (k1+1+1) opn id g2 rfl (by simp) (by omega) (by omega) Jk (slot Hq) (by have:=(qB _ Hq).2;simp only;omega) (by omega) (by repeat' constructor)
  ·simp only[aN,gE,nb,dt,iQ,Lh,VV,Int.reduceBEq,Int.reduceBNe,Nat.reduceAdd,Nat.reduceSub,Nat.reduceLeDiff,Nat.reduceEqDiff,Int.reduceToNat,reduceIte,reduceCtorEq];refine cm (dJ S a ha l (k1+1) (by omega) 2 (by decide) (by decide) _) rfl ?_;rintro _ _ ⟨u,rfl,hu,rfl⟩;obtain⟨w,Hq,ew⟩:=ix (ws:=pg) (n:=u.toNat) (by simp[pg];omega);simp only[pg,ay,bo]at ew;obtain⟨w1,w3⟩:=AN _ Hq;simp only[ew,aN,gE,nb,dt,iQ,Lh,VV,Int.reduceBEq,Int.reduceBNe,Nat.reduceAdd,Nat.reduceSub,Nat.reduceLeDiff,Nat.reduceEqDiff,Int.reduceToNat,reduceIte,reduceCtorEq];refine⟨by omega,?_⟩;have Jr:=hG.empty w1 (by omega) (by omega);rw[← UN]at Jr;exact tail ⟨4,w,((id+1:Nat):Int)⟩ (eN g2 false opn) [] 1 (k1+1+1) opn (id+1) g2 rfl (by simp) (by omega) (by omega) Jk Jr (by simp only;omega) (by omega) (by repeat' constructor)
  ·rcases UC with rfl | rfl
   ·simp only[aN,gE,nb,dt,iQ,Lh,VV,Int.reduceBEq,Int.reduceBNe,Nat.reduceAdd,Nat.reduceSub,Nat.reduceLeDiff,Nat.reduceEqDiff,Int.reduceToNat,reduceIte,reduceCtorEq];refine cm (dJ S a ha l (k1+1) (by omega) 3 (by decide) (by decide) _) rfl ?_;rintro _ _ ⟨u,rfl,hu,rfl⟩;obtain⟨w,Hq,ew⟩:=ix (ws:=mG) (n:=u.toNat) (by simp[mG];omega);simp only[mG,ay,bo]at ew;obtain⟨w1,w2,w3⟩:=wB _ Hq;simp only[ew,aN,gE,nb,dt,iQ,Lh,ag,VV,Int.reduceBEq,Int.reduceBNe,Nat.reduceAdd,Nat.reduceSub,Nat.reduceLeDiff,Nat.reduceEqDiff,Int.reduceToNat,reduceIte,reduceCtorEq];refine⟨by omega,⟨by omega,by simp only[maxLen];omega⟩,?_⟩;have e3:opn.map It.ah7++[[V.i .i64 2,.s w,.i .i64 ((id+1:Nat):Int)]]=(opn++[(⟨2,w,((id+1:Nat):Int)⟩:It)]).map It.ah7:=by simp[It.ah7]
    rw[e3];have Jr:=hG.opens w1 w2 (by omega) (by omega);rw[← UN]at Jr
    refine tail ⟨2,w,((id+1:Nat):Int)⟩ (eN (g2+1) false (opn++[⟨2,w,((id+1:Nat):Int)⟩])) [] 1 (k1+1+1) (opn++[⟨2,w,((id+1:Nat):Int)⟩]) (id+1) (g2+1) rfl (by simp) (by omega) (by simp;omega) (fun z hz=>by
     rcases bL.1 hz with hz | hz
     ·exact Jk z hz
     ·rw[bU]at hz;subst hz;exact w3) Jr ?_ ?_ ?_
    ·simp only;omega
    ·omega
    ·repeat' constructor
   ·simp only[aN,gE,nb,dt,iQ,Lh,VV,Int.reduceBEq,Int.reduceBNe,Nat.reduceAdd,Nat.reduceSub,Nat.reduceLeDiff,Nat.reduceEqDiff,Int.reduceToNat,reduceIte,reduceCtorEq];refine cm (dJ S a ha l (k1+1) (by omega) 3 (by decide) (by decide) _) rfl ?_;rintro _ _ ⟨u,rfl,hu,rfl⟩;obtain⟨w,Hq,ew⟩:=ix (ws:=mG) (n:=u.toNat) (by simp[mG];omega);simp only[mG,ay,bo]at ew;obtain⟨w1,w2,w3⟩:=wB _ Hq;simp only[ew,aN,gE,nb,dt,iQ,Lh,ag,VV,Int.reduceBEq,Int.reduceBNe,Nat.reduceAdd,Nat.reduceSub,Nat.reduceLeDiff,Nat.reduceEqDiff,Int.reduceToNat,reduceIte,reduceCtorEq];refine⟨by omega,⟨by omega,by simp only[maxLen];omega⟩,?_⟩;have e3:opn.map It.ah7++[[V.i .i64 2,.s w,.i .i64 ((id+1:Nat):Int)]]=(opn++[(⟨2,w,((id+1:Nat):Int)⟩:It)]).map It.ah7:=by simp[It.ah7]
    rw[e3];have Jr:=hG.opens w1 w2 (by omega) (by omega);rw[← UN]at Jr
    refine tail ⟨2,w,((id+1:Nat):Int)⟩ (eN (g2+1) false (opn++[⟨2,w,((id+1:Nat):Int)⟩])) [] 1 (k1+1+1) (opn++[⟨2,w,((id+1:Nat):Int)⟩]) (id+1) (g2+1) rfl (by simp) (by omega) (by simp;omega) (fun z hz=>by
     rcases bL.1 hz with hz | hz
     ·exact Jk z hz
     ·rw[bU]at hz;subst hz;exact w3) Jr ?_ ?_ ?_
    ·simp only;omega
    ·omega
    ·repeat' constructor
  ·rcases UC with rfl | rfl
   ·rcases kD opn with h0 | ⟨opn',y,h0⟩
    ·subst h0;have e1:decide ((0:Int)≤IntKind.i64.wrap (((0:Nat):Int) - 1))=false:=rfl;simp only[aN,gE,nb,dt,iQ,bo,aC,e1,VV,Int.reduceBEq,Int.reduceBNe,Nat.reduceAdd,Nat.reduceSub,Nat.reduceLeDiff,Nat.reduceEqDiff,Int.reduceToNat,reduceIte,reduceCtorEq];exact tail ⟨1,t,0⟩ (eN g2 false []) [] 1 (k1+1) [] id g2 rfl (by simp) (by omega) (by simp;omega) (by simp) (hG.aib t) (by simp only;omega) (by omega) (by repeat' constructor)
    ·rw[kE]at h0;subst h0;have s7:(opn'++[y]).length=opn'.length+1:=by simp
     have Mf:IntKind.i64.wrap (((opn'.length+1:Nat):Int) - 1)=(opn'.length:Int):=by rw[IntWalk.i64_in _ (by omega)];omega
     have s5:IntKind.i64.wrap ((opn'.length:Int)+1)=((opn'.length+1:Nat):Int):=bd (by omega);have e1:decide ((0:Int)≤(opn'.length:Int))=true:=by simp
     have hyt:=Jk y (by simp);have htn:=pY y.aib;have eA:∀ j,eS (List.map It.ah7 (opn'++[y])) opn'.length j=y.ah7[j]?:=fun j=>qO;have sI:(0:Int)≤(opn'.length:Int)∧(opn'.length:Int)<((opn'.length+1:Nat):Int):=⟨by omega,by omega⟩;obtain⟨Jr,hn⟩:=hG.close (by omega);simp only[aN,gE,nb,dt,iQ,ag,s7,Mf,e1,eA,It.ah7,aD,VV,Int.reduceBEq,Int.reduceBNe,Nat.reduceAdd,Nat.reduceSub,Nat.reduceLeDiff,Nat.reduceEqDiff,Int.reduceToNat,reduceIte,reduceCtorEq];refine⟨sI,sI,?_⟩;refine az (uO y.aib _) rfl ?_;simp only[aN,gE,nb,dt,iQ,ag,s7,Mf,s5,e1,eA,It.ah7,aD,VV,Int.reduceBEq,Int.reduceBNe,Nat.reduceAdd,Nat.reduceSub,Nat.reduceLeDiff,Nat.reduceEqDiff,Int.reduceToNat,reduceIte,reduceCtorEq];have e4:List.take opn'.length (List.map It.ah7 (opn'++[y]))=List.map It.ah7 opn':=by rw[ee];exact List.take_left' (by simp)
     have e5:List.take (opn'.length+1 - (opn'.length+1)) (List.drop (opn'.length+1) (List.map It.ah7 (opn'++[y])))=[]:=by simp
     simp only[e4,e5,bV,ag,aC,dK];refine⟨sI,by omega,by omega,⟨by omega,by simp only[maxLen];omega⟩,by omega,⟨by omega,by simp only[maxLen];omega⟩,?_⟩;exact tail ⟨3,ey y.aib,y.id⟩ (eN g2 false (opn'++[y])) [eN 1 false opn'] 3 (k1+1) opn' id 1 rfl (by simp) (by omega) (by omega) (fun z hz=>Jk z (by simp[hz])) (by rw[hn];exact Jr) (by simp only;omega) (by omega) (by repeat' constructor)
   ·rcases kD opn with h0 | ⟨opn',y,h0⟩
    ·subst h0;have e1:decide ((0:Int)≤IntKind.i64.wrap (((0:Nat):Int) - 1))=false:=rfl;simp only[aN,gE,nb,dt,iQ,bo,aC,e1,VV,Int.reduceBEq,Int.reduceBNe,Nat.reduceAdd,Nat.reduceSub,Nat.reduceLeDiff,Nat.reduceEqDiff,Int.reduceToNat,reduceIte,reduceCtorEq];exact tail ⟨1,t,0⟩ (eN g2 false []) [] 1 (k1+1) [] id g2 rfl (by simp) (by omega) (by simp;omega) (by simp) (hG.aib t) (by simp only;omega) (by omega) (by repeat' constructor)
    ·rw[kE]at h0;subst h0;have s7:(opn'++[y]).length=opn'.length+1:=by simp
     have Mf:IntKind.i64.wrap (((opn'.length+1:Nat):Int) - 1)=(opn'.length:Int):=by rw[IntWalk.i64_in _ (by omega)];omega
     have s5:IntKind.i64.wrap ((opn'.length:Int)+1)=((opn'.length+1:Nat):Int):=bd (by omega);have e1:decide ((0:Int)≤(opn'.length:Int))=true:=by simp
     have hyt:=Jk y (by simp);have htn:=pY y.aib;have eA:∀ j,eS (List.map It.ah7 (opn'++[y])) opn'.length j=y.ah7[j]?:=fun j=>qO;have sI:(0:Int)≤(opn'.length:Int)∧(opn'.length:Int)<((opn'.length+1:Nat):Int):=⟨by omega,by omega⟩;obtain⟨Jr,hn⟩:=hG.close (by omega);simp only[aN,gE,nb,dt,iQ,ag,s7,Mf,e1,eA,It.ah7,aD,VV,Int.reduceBEq,Int.reduceBNe,Nat.reduceAdd,Nat.reduceSub,Nat.reduceLeDiff,Nat.reduceEqDiff,Int.reduceToNat,reduceIte,reduceCtorEq];refine⟨sI,sI,?_⟩;refine az (uO y.aib _) rfl ?_;simp only[aN,gE,nb,dt,iQ,ag,s7,Mf,s5,e1,eA,It.ah7,aD,VV,Int.reduceBEq,Int.reduceBNe,Nat.reduceAdd,Nat.reduceSub,Nat.reduceLeDiff,Nat.reduceEqDiff,Int.reduceToNat,reduceIte,reduceCtorEq];have e4:List.take opn'.length (List.map It.ah7 (opn'++[y]))=List.map It.ah7 opn':=by rw[ee];exact List.take_left' (by simp)
     have e5:List.take (opn'.length+1 - (opn'.length+1)) (List.drop (opn'.length+1) (List.map It.ah7 (opn'++[y])))=[]:=by simp
     simp only[e4,e5,bV,ag,aC,dK];refine⟨sI,by omega,by omega,⟨by omega,by simp only[maxLen];omega⟩,by omega,⟨by omega,by simp only[maxLen];omega⟩,?_⟩;exact tail ⟨3,ey y.aib,y.id⟩ (eN g2 false (opn'++[y])) [eN 1 false opn'] 3 (k1+1) opn' id 1 rfl (by simp) (by omega) (by omega) (fun z hz=>Jk z (by simp[hz])) (by rw[hn];exact Jr) (by simp only;omega) (by omega) (by repeat' constructor)
  ·simp only[aN,gE,nb,dt,iQ,VV,Int.reduceBEq,Int.reduceBNe,Nat.reduceAdd,Nat.reduceSub,Nat.reduceLeDiff,Nat.reduceEqDiff,Int.reduceToNat,reduceIte,reduceCtorEq];exact tail ⟨1,t,0⟩ (eN g2 false opn) [] 1 (k1+1) opn id g2 rfl (by simp) (by omega) (by omega) Jk (hG.aib t) (by simp only;omega) (by omega) (by repeat' constructor)
set_option maxRecDepth 4000 in
theorem FD(S:ae)(a:Nat)(ha:a<S.length)(l:List Int)(k:Nat)(hk:k<2^49)(N:Nat)(hN:N≤20):
  PC prog 34 [.ptr a 0,.i .i64 N,.b true,.b true] (fA S a l k) (fun r J'=>∃ (f:List It) (k':Nat),r=.sl 3 (f.map It.ah7)∧bA [] f=0∧f.length≤2*N∧aH f≤23*N∧(k≤k'∧k'≤k+12*N+1)∧J'=fA S a l k'):=by
 refine PC.intro func34 c34 fun bj dx=>?_;have hw:IntKind.i64.wrap ((N:Int)+1)=((N+1:Nat):Int):=bd (by omega);simp only[p34,SS,seval];refine b6.cut fun R hR=>?_;simp only[aN,VV,seval];refine hR _ ?_;clear hR R;refine b6.cut fun R hR=>?_;simp only[aN,VV,seval];refine hR _ ?_;clear hR R;refine b6.cut fun R hR=>?_;simp only[aN,VV,seval];refine hR _ ?_;clear hR R;refine b6.cut fun R hR=>?_;simp only[aN,hw,VV,seval];refine cm (o7 S a ha l k (by omega) ((N+1:Nat):Int) (by omega) (by omega)) rfl ?_;rintro _ _ ⟨v,rfl,hv,rfl⟩;obtain⟨m,rfl⟩:∃ m:Nat,v=m:=⟨v.toNat,by omega⟩;simp only[aN,hw,VV,seval]
 refine b6.wk (((Wk.gA (ys:=(.ptr a 0::uu 1 (.b true::.b true::uu 5 (.nil::.nil::.i .i64 (0:Nat)::.i .i64 m::uu 128 [])))) (by repeat' constructor)).trans (Wk.iy (P:=prog) (J:=fA S a l (k+1)) (k:=9) D2 rfl)).trans ((Wk.kR (P:=prog) (J:=fA S a l (k+1)) [_] (k:=10) D2 rfl).trans (Wk.gA (ys:=(.ptr a 0::uu 1 (.b true::.b true::uu 5 (.own S.length 0::.own (S.length+1) 0::.i .i64 (0:Nat)::.i .i64 m::uu 128 [])))) ?_)))
  (b6.vP (m+1) (NH S a ha l (k+1) (by omega) (fe bj) m (by omega) m (k+1) [] [] 0 0 0 (aq _) (by omega) (by simp) (by simp) wR.nil (by simp) (by simp[aH]) (by omega) ?_))
 ·simp only[aN,ai,aC,VV,seval]
  repeat' constructor
 intro k' f opn id g1 g2 c1 c2 c3 c4 c5 c6 c7;simp only[JE];intros;simp only[VV,seval];refine hR _ (b6.gA (fr':=(uu 3 (.b true::uu 5 (.own S.length g1::.own (S.length+1) g2::uu 130 [])))) ?_ (by repeat' constructor));clear hR R;refine b6.cut fun R hR=>?_;simp only[eN,aN,gE,nb,dt,iQ,ag,VV,seval];have hwo:IntKind.i64.wrap ((opn.length:Int) - 1)=(opn.length:Int) - 1:=IntWalk.i64_in _ (by omega);rw[hwo];refine b6.aZ (fr':=(uu 3 (.b true::uu 5 (.own S.length g1::.own (S.length+1) g2::uu 4 (.i .i64 ((opn.length:Int) - 1)::uu 125 []))))) (by repeat' constructor) (opn.length+1) (NG S a l k' opn (by omega) c3 id (by omega) g2 opn.length opn f g1 rfl ⟨[],by simp⟩ c4 (by omega) ?_);intro f' g1' q1 q2 q3;simp only[JE];intros;simp only[eN,VV,seval];refine hR _ (ax ?_);clear hR R;simp only[eN,aN,gE,nb,dt,iQ,VV,seval];refine eP (xs':=[.sl 3 (f'.map It.ah7)]) (.inr rfl) rfl ((Wk.fz S.length (E:=61) (sz:=3) (by':=32) (g:=g1') (sh:=false) (rows:=f'.map It.ah7) (by rw[gE];rfl)).trans ?_) ?_ ⟨f',k',rfl,q1,by omega,by omega,by omega,rfl⟩
 ·rw[dt];simp only[ay,bo,ev,di,aV,aW,jV,iD,fz,qD,jx,aL];have:=Wk.AP (P:=prog) (xs:=[.sl 3 (f'.map It.ah7)]) (loc:=[Ob.row 61 3 32 g1' true (f'.map It.ah7),Ob.row 61 3 32 g2 false (opn.map It.ah7)]) (fe (k':=k') bj) (by simp only[aN,LW]);rw[aN]at this;exact this
 ·rfl
theorem RY(S:ae)(a:Nat)(ha:a<S.length)(l:List Int)(k:Nat)(hk:k<2^49)(N:Nat)(hN:N≤20)(loc:ae):
  PC prog 34 [.ptr a 0,.i .i64 N,.b true,.b true] (fA S a l k++loc) (fun r J'=>∃ (f:List It) (k':Nat),r=.sl 3 (f.map It.ah7)∧bA [] f=0∧f.length≤2*N∧aH f≤23*N∧(k≤k'∧k'≤k+12*N+1)∧J'=fA S a l k'++loc):=by
 rw[jN ha];refine(FD (S++loc) a (by rw[al];omega) l k hk N hN).mono ?_;rintro r J' ⟨f,k',h1,h2,h3,h4,h5,h6⟩;exact⟨f,k',h1,h2,h3,h4,h5,by rw[h6,jN ha]⟩
theorem JZ(S:ae)(a:Nat)(ha:a<S.length)(l:List Int)(k:Nat)(hk:k<2^50)(src:List It)(sH:bA [] src=0)(hlen:src.length≤100)(ZS:aH src≤10000)(loc:ae):
  PC prog 94 [.ptr a 0,.sl 3 (src.map It.ah7)] (fA S a l k++loc) (fun r J'=>∃ (f:List It) (k':Nat),r=.sl 3 (f.map It.ah7)∧bA [] f=0∧f.length≤2*src.length∧aH f≤aH src+20*src.length∧(k≤k'∧k'≤k+10*src.length)∧J'=fA S a l k'++loc):=by
 rw[jN ha];refine(JY (S++loc) a (by rw[al];omega) l k hk src sH hlen ZS).mono ?_;rintro r J' ⟨f,k',h1,h2,h3,h4,h5,h6⟩;exact⟨f,k',h1,h2,h3,h4,h5,by rw[h6,jN ha]⟩
def Nc(out:List It)(x:It)(o:Option Int):List It:=match o with
 | some b=>out++[⟨x.ah9,x.aib,b⟩]
 | none=>out
theorem NF{J:ae}{K:Exit→St→Prop}(F L I:V)(fr to:List Int)(out:List It)(x:It)(g:Nat)(Rl:fr.length<2^62)(okA:(out.length+1)*32≤2^47∧out.length+1≤maxLen):
  ∀ (m k:Nat),k+m=min fr.length to.length →
  (∀ g,((fh (F) (fh (.sl 1 (fr.map bR)) (fh (.sl 1 (to.map bR)) (fj 4 (fh (.own J.length g) (fj 4 (fh (L) (fh (I) (fj 47 fo))))))))) fun ZZ=>K (.exit 2) ⟨ZZ,J++[.row 61 3 32 g false ((Nc out x (Ab (fr.drop k) (to.drop k) x.id)).map It.ah7),.box 61 x.ah7]⟩)) →
  fp J.length prog IN K (m+1) ⟨(F::.sl 1 (fr.map bR)::.sl 1 (to.map bR)::uu 4 (.own J.length g::uu 1 (.ptr (J.length+1) 0::.i .i64 k::uu 1 (L::I::uu 47 [])))),J++[.row 61 3 32 g false (out.map It.ah7),.box 61 x.ah7]⟩:=by
 intro m
 induction m with
 | zero =>
  intro k hk h1;rw[Im (by omega)]at h1
  have dc:((decide ((k:Int)<(fr.length:Int)))&&decide ((k:Int)<(to.length:Int)))=false:=by
   rw[AZ];simp;omega
  refine aB fun R hR=>?_;simp only[IN,ag,dc,VV,seval];exact h1 g ..
 | succ m ih =>
  intro k hk h1;have k1:k<fr.length:=by omega
  have k2:k<to.length:=by omega
  rw[D1 k1 k2]at h1;have e1:decide ((k:Int)<(fr.length:Int))=true:=by simp;omega
  have e2:decide ((k:Int)<(to.length:Int))=true:=by simp;omega
  have hw:IntKind.i64.wrap ((k:Int)+1)=((k+1:Nat):Int):=by rw[IntWalk.i64_in _ (by omega)];omega
  refine aB fun R hR=>?_;simp only[IN,It.ah7,ag,e1,e2,hw,aD,qN k1,qN k2,VV,seval];have zd:(0:Int)≤(k:Int)∧(k:Int)<(fr.length:Int):=by omega
  have jr:(0:Int)≤(k:Int)∧(k:Int)<(to.length:Int):=by omega
  refine⟨zd,fun h=>⟨jr,okA,?_⟩,fun h=>?_⟩
  ·have h:x.id=fr.getD k 0:=by rw[bT]at h;exact h.symm
   rw[bf h]at h1;have cq:out.map It.ah7++[[.i .i64 x.ah9,.s x.aib,.i .i64 (to.getD k 0)]]=(Nc out x (some (to.getD k 0))).map It.ah7:=by simp[Nc,It.ah7]
   rw[cq];exact h1 (g+1) ..
  ·have h:¬ x.id=fr.getD k 0:=by rw[cI]at h;exact fun e=>h e.symm
   rw[aI h]at h1;refine hR _ (aZ ?_ (ih (k+1) (by omega) h1))
   repeat' constructor
theorem ND{J:ae}{K:Exit→St→Prop}(its:List It)(fr to:List Int)(bj:bG J)(hlen:its.length<2^40)(Rl:fr.length<2^62):∀ (rest pre out:List It) (g:Nat),its=pre++rest→out.length≤pre.length →
  (∀ g,((fj 7 (fh (.own J.length g) (fj 53 fo))) fun ZZ=>K (.exit 0) ⟨ZZ,J++[.row 61 3 32 g false ((out++aip rest fr to).map It.ah7)]⟩)) →
  fp J.length prog EO K (rest.length+1) ⟨(.sl 3 (its.map It.ah7)::.sl 1 (fr.map bR)::.sl 1 (to.map bR)::uu 4 (.own J.length g::uu 4 (.i .i64 its.length::.i .i64 pre.length::uu 47 []))),J++[.row 61 3 32 g false (out.map It.ah7)]⟩:=by
 intro rest
 induction rest with
 | nil =>
  intro pre out g he ho h1;have he:its=pre:=by simpa using he
  subst he;have e:out++aip [] fr to=out:=by simp[aip]
  rw[e]at h1;refine aB fun R hR=>?_;simp only[EO,VV,seval];exact⟨fun h=>by simp at h,fun _=>h1 g ..⟩
 | cons x rest ih =>
  intro pre out g he ho h1;subst he
  have next:∀ (out':List It) (g':Nat) {loc:ae},out++aip (x::rest) fr to=out'++aip rest fr to→out'.length≤out.length+1→∀ {R:St→Prop} {f0:List V},(∀ st',fp J.length prog EO K (rest.length+1) st'→R st') →
    nU f0 (.sl 3 ((pre++x::rest).map It.ah7)::.sl 1 (fr.map bR)::.sl 1 (to.map bR)::uu 4 (.own J.length g'::uu 4 (.i .i64 (pre++x::rest).length::.i .i64 (IntKind.i64.wrap ((pre.length:Int)+1))::uu 47 [])))→R ⟨f0,J++(.row 61 3 32 g' false (out'.map It.ah7)::loc)⟩:=by
   intro out' g' loc hw hl R f0 hR hc
   have e1:IntKind.i64.wrap ((pre.length:Int)+1)=(((pre++[x]).length:Nat):Int):=by
    rw[bd (by simp at hlen;omega)];simp
   rw[e1]at hc;rw[hw]at h1;refine hR _ (b5 [_] loc (cj bj (by simp)) hc ?_ (ih (pre++[x]) out' g' (by simp) (by simp;omega) h1));simp only[LW,ai,aC,bz];omega
  have okA:(out.length+1)*32≤2^47∧out.length+1≤maxLen:=by simp at hlen;simp[maxLen];omega
  refine aB fun R hR=>?_;simp only[EO,It.ah7,VV,seval];refine⟨fun _=>⟨by simp;omega,?_⟩,fun h=>by simp at h<;>omega⟩;refine az (yo x _) rfl ?_;simp only[VV,seval];refine⟨fun ht=>?_,fun ht=>?_⟩
  ·have ht:bW x=false:=by rw[dm]at ht;exact ht
   have cq:out.map It.ah7++[[.i .i64 x.ah9,.s x.aib,.i .i64 x.id]]=(out++[x]).map It.ah7:=by simp[It.ah7]
   refine⟨by rw[ag];exact okA,?_⟩;rw[cq];refine next (out++[x]) (g+1) (by simp[aip,Kk,ht]) (by simp) hR ?_
   repeat' constructor
  ·have ht:bW x=true:=by rw[mS]at ht;exact ht
   refine b6.aZ ?_ (min fr.length to.length+1) (NF (.sl 3 ((pre++x::rest).map It.ah7)) (.i .i64 (pre++x::rest).length) (.i .i64 pre.length) fr to out x g Rl okA (min fr.length to.length) 0 (by omega) ?_)
   ·simp only[It.ah7,Int.natCast_zero]
    repeat' constructor
   intro g';simp only[JE];intros;simp only[VV,seval];refine next _ g' ?_ ?_ hR ?_
   ·simp only[lk,aip,fR,Kk,ht,aL,Nc];cases Ab fr to x.id<;>simp
   ·simp only[Nc];split<;>simp
   ·repeat' constructor
theorem vU(its:List It)(fr to:List Int)(hlen:its.length<2^40)(ht:aH its<2^40)(Rl:fr.length<2^62)(J:ae):PC prog 35 [.sl 3 (its.map It.ah7),.sl 1 (fr.map bR),.sl 1 (to.map bR)] J (fun r J'=>r=.sl 3 ((rename its fr to).map It.ah7)∧J'=J):=by
 refine PC.intro func35 c35 fun bj dx=>ax ?_;simp only[p35,SS,seval];simp only[ag,VV,seval];refine b6.wk ((Wk.iy (k:=7) D2 rfl).trans (Wk.gA ?_)) (b6.vP (its.length+1) (ND its fr to bj hlen Rl its [] [] 0 rfl (aq _) ?_))
 ·simp only[VV,seval]
  repeat' constructor
 ·intro g;simp only[JE];intros;simp only[bk,VV,seval];refine nF J.length (by simp only[gj];rfl) (qf (aip its fr to) (mR (vR _ _ _) hlen) (mR (tt _ _ _) ht) _) (by simp[fz,qD,ev]) ?_;simp only[VV,seval];exact jz bj (by rfl) (by simp[LW])
theorem qg(s t:List It)(hs:s.length<2^38)(ht:t.length<2^38)(rH:aH s<2^38)(YA:aH t<2^38)(J:ae):PC prog 49 [.sl 3 (s.map It.ah7),.sl 3 (t.map It.ah7)] J (fun r J'=>r=.fi [.sl 3 ((eu s t).map It.ah7),.sl 3 ((eF s t).map It.ah7)]∧J'=J):=by
 refine PC.intro func49 c49 fun bj dx=>ax ?_;simp only[p49,SS,seval];simp only[ag,VV,seval];refine⟨by simp[maxLen];omega,by simp[maxLen];omega,?_⟩;refine nF J.length (by simp only[gj];rfl) (Ch (s++t) (by simp;omega) _) (by simp[fz,qD,ev]) ?_;have hc:=lA (s++t);rw[mB,al]at hc;rw[mB];simp only[ag,VV,seval];refine az (Ko (bE s t).length (by omega) _) rfl ?_;simp only[VV,seval];refine az (vU s (bE s t) (cc (bE s t).length) (by omega) (by omega) (by omega) _) rfl ?_;simp only[VV,seval];refine az (vU t (bE s t) (cc (bE s t).length) (by omega) (by omega) (by omega) _) rfl ?_;simp only[VV,seval];exact bF bj (.inr rfl) (by simp only[RS,seval];rfl) (by simp[LW]) ⟨rfl,rfl⟩
def tX:List (List UInt8):=[[83,97,118,101],[114,101,100,32,99,97,114],[82,101,100,32,99,97,114,115]]
theorem FC:∀ s∈tX,bA [] [⟨1,s,0⟩]=0∧s.length≤8:=by decide +kernel
def tY:List (List UInt8):=[[],[],[83,97,118,101],[114,101,100,32,99,97,114]]
def tZ:List (List UInt8):=[[],[],[120],[83,97,118,101]]
def ph:List (List UInt8):=[[],[97,110,110],[98,111,98]]
def nB:List (List UInt8):=[[],[112],[113]]
theorem Vb:(∀ s∈tY,s∈zo)∧(∀ s∈tZ,s∈zo)∧(∀ s∈ph,s∈qC)∧∀ s∈nB,s∈qC:=by decide +kernel
set_option maxHeartbeats 2000000 in
set_option maxRecDepth 20000 in
theorem OW(S:ae)(a:Nat)(ha:a<S.length)(l:List Int)(k:Nat)(hk:k<2^48):
  PC prog 41 [.ptr a 0] (fA S a l k) (fun r J'=>∃ (e:En) (k':Nat),r=.agg e.ah7∧uv e∧(k≤k'∧k'≤k+200)∧J'=fA S a l k'):=by
 refine PC.intro func41 c41 fun bj dx=>?_;simp only[p41,SS,seval];refine b6.cut fun R hR=>?_;simp only[aN,VV,seval];refine hR _ ?_;clear hR R;refine b6.cut fun R hR=>?_;simp only[aN,VV,seval];refine cm (RY S a ha l k (by omega) 4 (by decide) _) rfl ?_;rintro _ _ ⟨f0,k1,rfl,f1,f2,f3,f4,rfl⟩;simp only[aN,gE,nb,dt,iQ,VV,seval];refine hR _ (b6.gA (fr':=(.ptr a 0::uu 1 (.ptr S.length 0::.sl 3 (f0.map It.ah7)::uu 52 []))) ?_ (by repeat' constructor));clear hR R;refine b6.cut fun R hR=>?_
 have tail:∀ (f:List It) (k2:Nat) {fr:List V},bA [] f=0→f≠[]→f.length≤8→aH f≤92→(k≤k2∧k2≤k+50)→nU fr (.ptr a 0::uu 1 (.ptr S.length 0::.sl 3 (f.map It.ah7)::uu 52 [])) →
   R ⟨fr,fA S a l k2++[.box 37 [.nil,.nil,.s [],.s [],.s [],.s [],.i .i64 0,.i .i64 0]]⟩:=by
  intro f k2 fr c1 c2 c3 c4 c5 hc;refine hR _ (b6.gA ?_ hc);clear hR R;refine b6.cut fun R hR=>?_;simp only[aN,gE,nb,dt,iQ,VV,seval];refine cm (JZ S a ha l k2 (by omega) f c1 (by omega) (by omega) _) rfl ?_;rintro _ _ ⟨t,k3,rfl,t1,t2,t3,t4,rfl⟩;simp only[aN,gE,nb,dt,iQ,VV,seval];refine hR _ (b6.gA (fr':=(.ptr a 0::uu 1 (.ptr S.length 0::.sl 3 (f.map It.ah7)::.sl 3 (t.map It.ah7)::uu 51 []))) ?_ (by repeat' constructor));clear hR R;refine b6.cut fun R hR=>?_;simp only[aN,gE,nb,dt,iQ,VV,seval];refine az (qg f t (by omega) (by omega) (by omega) (by omega) _) rfl ?_;simp only[aN,gE,nb,dt,iQ,VV,seval];refine hR _ (b6.gA (fr':=(.ptr a 0::uu 1 (.ptr S.length 0::uu 2 (.sl 3 ((eu f t).map It.ah7)::.sl 3 ((eF f t).map It.ah7)::uu 49 [])))) (ax ?_) (by repeat' constructor));clear hR R;simp only[aN,gE,nb,dt,iQ,VV,seval];refine cm (dJ S a ha l k3 (by omega) 4 (by decide) (by decide) _) rfl ?_;rintro _ _ ⟨v1,rfl,NX,rfl⟩;obtain⟨w1,Mf,e1⟩:=ix (ws:=tY) (n:=v1.toNat) (by simp[tY];omega);simp only[tY,ay,bo]at e1;simp only[e1,aN,gE,nb,dt,iQ,VV,seval];refine⟨by omega,?_⟩;refine cm (dJ S a ha l (k3+1) (by omega) 4 (by decide) (by decide) _) rfl ?_;rintro _ _ ⟨v2,rfl,PE,rfl⟩;obtain⟨w2,s5,e2⟩:=ix (ws:=tZ) (n:=v2.toNat) (by simp[tZ];omega);simp only[tZ,ay,bo]at e2;simp only[e1,e2,aN,gE,nb,dt,iQ,VV,seval]
  iterate 3 (try refine And.intro (by omega) ?_)
  refine cm (dJ S a ha l (k3+1+1) (by omega) 3 (by decide) (by decide) _) rfl ?_;rintro _ _ ⟨v3,rfl,Yy,rfl⟩;obtain⟨w3,hw3,e3⟩:=ix (ws:=ph) (n:=v3.toNat) (by simp[ph];omega);simp only[ph,ay,bo]at e3;simp only[e1,e2,e3,aN,gE,nb,dt,iQ,VV,seval]
  iterate 4 (try refine And.intro (by omega) ?_)
  refine cm (dJ S a ha l (k3+1+1+1) (by omega) 3 (by decide) (by decide) _) rfl ?_;rintro _ _ ⟨v4,rfl,hv4,rfl⟩;obtain⟨w4,hw4,e4⟩:=ix (ws:=nB) (n:=v4.toNat) (by simp[nB];omega);simp only[nB,ay,bo]at e4;simp only[e1,e2,e3,e4,aN,gE,nb,dt,iQ,VV,seval]
  iterate 6 (try refine And.intro (by omega) ?_)
  refine cm (dJ S a ha l (k3+1+1+1+1) (by omega) 50 (by decide) (by decide) _) rfl ?_;rintro _ _ ⟨v5,rfl,hv5,rfl⟩;simp only[e1,e2,e3,e4,aN,gE,nb,dt,iQ,VV,seval]
  iterate 6 (try refine And.intro (by omega) ?_)
  refine cm (dJ S a ha l (k3+1+1+1+1+1) (by omega) 3 (by decide) (by decide) _) rfl ?_;rintro _ _ ⟨v6,rfl,hv6,rfl⟩;have hw6:IntKind.i64.wrap (1+v6)=1+v6:=IntWalk.i64_in _ (by omega);simp only[e1,e2,e3,e4,hw6,aN,gE,nb,dt,iQ,VV,seval];refine⟨by omega,?_⟩;obtain⟨i1,i2,i3,i4⟩:=Vb;have hE:uv ⟨eu f t,eF f t,w1,w2,w3,w4,v5,1+v6⟩:=Ly c1 t1 c2 (by omega) (by omega) (by omega) (by omega) (i1 _ Mf) (i2 _ s5) (i3 _ hw3) (i4 _ hw4) (by omega) (by omega);refine eP (xs:=[.agg (En.ah7 ⟨eu f t,eF f t,w1,w2,w3,w4,v5,1+v6⟩)]) (xs':=[.agg (En.ah7 ⟨eu f t,eF f t,w1,w2,w3,w4,v5,1+v6⟩)]) (.inr rfl) (by simp only[jt,sA,gE,VV,seval];rfl) ?_ rfl ⟨_,k3+1+1+1+1+1+1,rfl,hE,by omega,rfl⟩;have:=Wk.AP (P:=prog) (xs:=[.agg (En.ah7 ⟨eu f t,eF f t,w1,w2,w3,w4,v5,1+v6⟩)]) (loc:=[Ob.box 37 (En.ah7 ⟨eu f t,eF f t,w1,w2,w3,w4,v5,1+v6⟩)]) (fe (k':=k3+1+1+1+1+1+1) bj) (by simp only[En.ah7,aN,LW]);rw[aN]at this;exact this
 simp only[ag,aN,gE,nb,dt,iQ,VV,seval];refine⟨fun h=>?_,fun h=>?_⟩
 ·refine cm (dJ S a ha l k1 (by omega) 3 (by decide) (by decide) _) rfl ?_;rintro _ _ ⟨v,rfl,hv,rfl⟩;obtain⟨w,hw,e⟩:=ix (ws:=tX) (n:=v.toNat) (by simp[tX];omega);obtain⟨w1,w2⟩:=FC _ hw;simp only[tX,ay,bo]at e;simp only[e,aN,gE,nb,dt,iQ,VV,seval];refine⟨by omega,?_⟩;refine tail [⟨1,w,0⟩] (k1+1) w1 (by simp) (by simp) (by simp[aH];omega) (by omega) ?_;simp only[ay,bo,It.ah7]
  repeat first | exact .nil | refine .cons (.refl _) ?_ | refine .cons (.lit _ _) ?_ | refine .cons (.forget _) ?_
 ·have h:f0≠[]:=by rintro rfl;simp at h
  refine tail f0 k1 f1 h (by omega) (by omega) (by omega) ?_
  repeat' constructor
theorem FL(S:ae)(a:Nat)(ha:a<S.length)(l:List Int)(k:Nat)(hk:k<2^48)(loc:ae):
  PC prog 41 [.ptr a 0] (fA S a l k++loc) (fun r J'=>∃ (e:En) (k':Nat),r=.agg e.ah7∧uv e∧(k≤k'∧k'≤k+200)∧J'=fA S a l k'++loc):=by
 rw[jN ha];refine(OW (S++loc) a (by rw[al];omega) l k hk).mono ?_;rintro r J' ⟨e,k',h1,h2,h3,h4⟩;exact⟨e,k',h1,h2,h3,by rw[h4,jN ha]⟩
structure To (q:Qr):Prop where
 en:∃ e,uv e∧q.aia=e.aia∧q.bQ=e.bQ∧q.next=e.next
 now:0≤q.now∧q.now<90
 threshold:1≤q.threshold∧q.threshold≤102
 nO:1≤q.nO∧q.nO≤12
set_option maxHeartbeats 2000000 in
theorem Na(S:ae)(a:Nat)(ha:a<S.length)(l:List Int)(k:Nat)(hk:k<2^47):
  PC prog 13 [.ptr a 0] (fA S a l k) (fun r J'=>∃ (q:Qr) (k':Nat),r=.agg q.ah7∧To q∧(k≤k'∧k'≤k+300)∧J'=fA S a l k'):=by
 refine PC.intro func13 c13 fun bj dx=>?_;simp only[p13,SS,seval];refine b6.cut fun R hR=>?_;simp only[aN,VV,seval];refine hR _ ?_;clear hR R;refine b6.cut fun R hR=>?_;simp only[aN,gE,nb,dt,iQ,VV,seval];refine cm (FL S a ha l k (by omega) _) rfl ?_;rintro _ _ ⟨e,k1,rfl,hE,rZ,rfl⟩;simp only[En.ah7,aN,gE,nb,dt,iQ,VV,seval];refine hR _ (ax ?_);clear hR R;simp only[aN,gE,nb,dt,iQ,V.pure,VV,seval];refine cm (dJ S a ha l k1 (by omega) 90 (by decide) (by decide) _) rfl ?_;rintro _ _ ⟨v1,rfl,NX,rfl⟩;simp only[aN,gE,nb,dt,iQ,V.pure,VV,seval];refine cm (dJ S a ha l (k1+1) (by omega) 102 (by decide) (by decide) _) rfl ?_;rintro _ _ ⟨v2,rfl,PE,rfl⟩;have w2:IntKind.i64.wrap (1+v2)=1+v2:=IntWalk.i64_in _ (by omega);simp only[w2,aN,gE,nb,dt,iQ,V.pure,VV,seval];refine cm (dJ S a ha l (k1+1+1) (by omega) 12 (by decide) (by decide) _) rfl ?_;rintro _ _ ⟨v3,rfl,Yy,rfl⟩;have w3:IntKind.i64.wrap (1+v3)=1+v3:=IntWalk.i64_in _ (by omega);simp only[w2,w3,aN,gE,nb,dt,iQ,V.pure,VV,seval]
 have key:∀ loc:ae,Wk prog S.length [.agg (Qr.ah7 ⟨e.aia,e.bQ,e.next,v1,1+v2,1+v3⟩)] (fA S a l (k1+1+1+1)++loc) [.agg (Qr.ah7 ⟨e.aia,e.bQ,e.next,v1,1+v2,1+v3⟩)] (fA S a l (k1+1+1+1)):=fun loc=>by
  have:=Wk.AP (P:=prog) (xs:=[.agg (Qr.ah7 ⟨e.aia,e.bQ,e.next,v1,1+v2,1+v3⟩)]) (loc:=loc) (fe (k':=k1+1+1+1) bj) (by simp only[Qr.ah7,aN,LW]);rw[aN]at this;exact this
 exact eP (xs':=[.agg (Qr.ah7 ⟨e.aia,e.bQ,e.next,v1,1+v2,1+v3⟩)]) (.inr rfl) (by simp only[jt,sA,gE,VV,seval];rfl) (key _) rfl ⟨_,k1+1+1+1,rfl,⟨⟨e,hE,rfl,rfl,rfl⟩,NX,by simp only;omega,by simp only;omega⟩,by omega,rfl⟩
theorem Nb(S:ae)(a:Nat)(ha:a<S.length)(l:List Int)(k:Nat)(hk:k<2^47)(loc:ae):
  PC prog 13 [.ptr a 0] (fA S a l k++loc) (fun r J'=>∃ (q:Qr) (k':Nat),r=.agg q.ah7∧To q∧(k≤k'∧k'≤k+300)∧J'=fA S a l k'++loc):=by
 rw[jN ha];refine(Na (S++loc) a (by rw[al];omega) l k hk).mono ?_;rintro r J' ⟨q,k',h1,h2,h3,h4⟩;exact⟨q,k',h1,h2,h3,by rw[h4,jN ha]⟩
theorem TM:Ti prog 37 8 128:=lN (by kernel_rfl)
def mJ(g:Nat)(sh:Bool)(f:List En):Ob:=.row 37 8 128 g sh (f.map En.ah7)
theorem OX{out:List En}{n:Nat}(h:n<out.length):∃ x∈out,(out.map En.ah7).getD n []=x.ah7 :=
 ⟨out[n],cA h,by simp[an,h]⟩
def tj:List (List UInt8):=[[32],[46],[32,99,97,114],[115]]
theorem Cc{s:List UInt8}(h:s∈tj):s.length≤4:=by revert s;decide
set_option maxHeartbeats 4000000 in
set_option maxRecDepth 20000 in
theorem Ut(S:ae)(a:Nat)(ha:a<S.length)(l:List Int){K:Exit→St→Prop}(k0:Nat)(Ml:k0<2^46)(bj:bG (fA S a l k0))(N:Nat)(hN:N≤20):∀ (m:Nat) (k:Nat) (out:List En) (g:Nat),m≤N→out.length+m≤N→(∀ o∈out,nc out.length o)→k+1000*m≤k0+1000*N →
  (∀ (k:Nat) (out:List En) (g:Nat),(∀ o∈out,nc out.length o)→out.length≤N→k≤k0+1000*N→((fj 5 (fh (.own S.length g) (fj 53 fo))) fun ZZ=>K (.exit 0) ⟨ZZ,fA S a l k++[mJ g false out]⟩)) →
  fp S.length prog IU K (m+1) ⟨(.ptr a 0::uu 4 (.own S.length g::.i .i64 m::uu 52 [])),fA S a l k++[mJ g false out]⟩:=by
 intro m
 induction m with
 | zero =>
  intro k out g hm s7 ho hk h1;refine aB fun R hR=>?_;simp only[IU,VV,seval];exact⟨fun h=>by simp at h,fun _=>h1 k out g ho (by omega) (by omega) ..⟩
 | succ m ih =>
  intro k out g hm s7 ho hk h1;have hw:IntKind.i64.wrap (((m+1:Nat):Int) - 1)=(m:Int):=by rw[IntWalk.i64_in _ (by omega)];omega
  refine uN fun R hR=>?_;simp only[IU];refine b6.cut fun R1 Jq=>?_;simp only[VV,seval];refine⟨fun _=>?_,fun h=>by simp at h<;>omega⟩;refine Jq _ (b6.gA (fr':=(.ptr a 0::uu 4 (.own S.length g::.i .i64 (m+1:Nat)::uu 52 []))) ?_ (by repeat' constructor));clear Jq R1;refine b6.LO fun R2 Zl=>b6.ic ?_
  have again:∀ (out2:List En) (g2 k2:Nat) (ext:ae) {fr:List V},(∀ o∈out2,nc out2.length o)→out2.length≤out.length+1→k2≤k+1000→nU fr (.ptr a 0::uu 4 (.own S.length g2::.i .i64 (m+1:Nat)::uu 52 []))→R2 ⟨fr,fA S a l k2++(mJ g2 false out2::ext)⟩:=by
   intro out2 g2 k2 ext fr c1 c2 c3 hc;refine Zl _ (b6.gA (ax ?_) hc);simp only[hw,VV,seval]
   have s5:Wk prog S.length (.ptr a 0::uu 4 (.own S.length g2::.i .i64 m::uu 52 [])) (fA S a l k2++(mJ g2 false out2::ext)) (.ptr a 0::uu 4 (.own S.length g2::.i .i64 m::uu 52 [])) (fA S a l k2++[mJ g2 false out2]):=by
    have:=Wk.wF (P:=prog) (n:=S.length) (xs:=(.ptr a 0::uu 4 (.own S.length g2::.i .i64 m::uu 52 []))) (J:=fA S a l k2++[mJ g2 false out2]) (loc:=ext) (by simp[aN]) (cj (fe bj) (by simp[mJ])) (dS.1 (by
     rw[al,aN];simp only[ai,aC,Nat.lt_add_one,Nat.lt_add_right 1 ha,bz,LW]))
    rwa [aR,iH]at this
   exact hR _ (sy ((Wk.gA (by repeat' constructor)).trans s5) (ih k2 out2 g2 (by omega) (by omega) c1 (by omega) h1))
  refine b6.cut fun R3 Zk=>?_;simp only[mJ,aN,gE,nb,dt,iQ,VV,seval];refine cm (FL S a ha l k (by omega) _) rfl ?_;rintro _ _ ⟨e,k1,rfl,hE,rZ,rfl⟩;simp only[En.ah7,aN,gE,nb,dt,iQ,VV,seval];refine Zk _ (b6.gA (fr':=(.ptr a 0::uu 4 (.own S.length g::.i .i64 (m+1:Nat)::.ptr (S.length+1) 0::uu 51 []))) ?_ (by repeat' constructor));clear Zk R3;refine b6.LO fun R4 hR4=>?_
  have tail:∀ (e:En) (k2:Nat) (ext:ae) {fr:List V},nc (out.length+1) e→k2≤k+1000→nU fr (.ptr a 0::uu 4 (.own S.length g::.i .i64 (m+1:Nat)::.ptr (S.length+1) 0::uu 51 [])) →
    R4 ⟨fr,fA S a l k2++(mJ g false out::.box 37 e.ah7::ext)⟩:=by
   intro e k2 ext fr c1 c3 hc;refine hR4 _ (b6.gA (ax ?_) hc);simp only[mJ,En.ah7,bn,bk,aN,gE,nb,dt,iQ,ag,V.pure,VV,seval];refine⟨⟨by omega,by simp only[maxLen];omega⟩,?_⟩
   have e0:out.map En.ah7++[[.sl 3 (e.aia.map It.ah7),.sl 3 (e.aii.map It.ah7),.s e.bQ,.s e.next,.s e.cJ,.s e.b8,.i .i64 e.aif,.i .i64 e.ail]]=(out++[e]).map En.ah7:=by
    simp[En.ah7]
   rw[e0];refine again (out++[e]) (g+1) k2 _ (fun z hz=>?_) (by simp) c3 (by repeat' constructor);rw[al,AY];rcases bL.1 hz with hz | hz
   ·exact(ho z hz).mono (by omega)
   ·rw[bU]at hz;subst hz;exact c1
  refine b6.cut fun R5 PM=>?_
  have skip:∀ (k2:Nat) {fr:List V},k2≤k1+1→nU fr (.ptr a 0::uu 4 (.own S.length g::.i .i64 (m+1:Nat)::.ptr (S.length+1) 0::uu 19 (.b false::uu 31 [])))→R5 ⟨fr,fA S a l k2++[mJ g false out,.box 37 e.ah7]⟩:=by
   intro k2 fr nX hc;refine PM _ (b6.gA (b6.Ys rfl (ax ?_)) hc);simp only[VV,seval];exact tail e k2 [] (hE.toB _) (by omega) (by repeat' constructor)
  simp only[mJ,aN,gE,nb,dt,iQ,ag,VV,seval]
  by_cases gv:out=[]
  ·have e1:decide ((0:Int)<(out.length:Int))=false:=by simp[gv]
   refine oK (Q:=fun _ _=>True) (c:=false) (by simp only[e1,VV,seval]<;>rfl) (fun h=>by simp at h) rfl (fun h=>by simp at h) fun _=>⟨.i .i64 0,?_⟩;simp only[e1,VV,seval];refine skip k1 (by omega) ?_
   repeat' constructor
  have e1:decide ((0:Int)<(out.length:Int))=true:=by
   have:=gR.2 gv;simp;omega
  refine oK (c:=true) (by simp only[e1,VV,seval]<;>rfl) (fun _=>dJ S a ha l k1 (by omega) 2 (by decide) (by decide) _) rfl ?_ (fun h=>by simp at h);rintro _ _ _ ⟨v,rfl,hv,rfl⟩
  by_cases Gl:v=0
  ·have e2:(v==0)=true:=by simp[Gl]
   simp only[e1,e2,VV,seval];refine PM _ (b6.gA (fr':=(.ptr a 0::uu 4 (.own S.length g::.i .i64 (m+1:Nat)::.ptr (S.length+1) 0::uu 19 (.b true::uu 31 [])))) (b6.Yr rfl ?_) (by repeat' constructor));clear PM skip R5;refine b6.cut fun R6 Zj=>?_;simp only[mJ,aN,gE,nb,dt,iQ,ag,VV,seval];refine cm (dJ S a ha l (k1+1) (by omega) out.length (by have:=gR.2 gv;omega) (by omega) _) rfl ?_;rintro _ _ ⟨j,rfl,hj,rfl⟩;simp only[mJ,aN,gE,nb,dt,iQ,ag,VV,seval];obtain⟨x,Yu,NW⟩:=OX (out:=out) (n:=j.toNat) (by omega);have hX:=ho x Yu;simp only[NW,En.ah7,V.pure,VV,seval];refine⟨⟨hj.1,hj.2⟩,?_⟩;refine Zj _ (b6.gA (fr':=(.ptr a 0::uu 4 (.own S.length g::.i .i64 (m+1:Nat)::.ptr (S.length+1) 0::.ptr (S.length+2) 0::uu 50 []))) ?_ (by repeat' constructor));clear Zj R6;refine b6.cut fun R7 Zi=>?_;simp only[aN,gE,nb,dt,iQ,V.pure,VV,seval];refine cm (dJ S a ha l (k1+1+1) (by omega) 4 (by decide) (by decide) _) rfl ?_;rintro _ _ ⟨w,rfl,hw4,rfl⟩;obtain⟨t,ht,et⟩:=ix (ws:=tj) (n:=w.toNat) (by simp[tj];omega);have wx:=Cc ht;simp only[tj,ay,bo]at et;have b1:=hX.kp;have b2:=hX.iP;have b3:=hX.pV;have b4:=hX.nf;simp only[et,aN,gE,nb,dt,iQ,V.pure,VV,seval];refine⟨by omega,?_⟩;refine lx (zs:=[.sl 3 (x.aia.map It.ah7),.sl 3 ([(⟨1,t,0⟩:It)].map It.ah7)]) (.cons (.refl _) (.cons (.lit _ _) .nil)) (kb x.aia [⟨1,t,0⟩] (by omega) (by simp) (by omega) (by simp[aH];omega) _) ?_;simp only[aN,gE,nb,dt,iQ,V.pure,VV,seval];obtain⟨_,_,f1,f2⟩:=ye hX.src (mI hX.ok).nonempty t;refine Zi _ (b6.gA (fr':=(.ptr a 0::uu 4 (.own S.length g::.i .i64 (m+1:Nat)::.ptr (S.length+1) 0::.ptr (S.length+2) 0::.sl 3 ((aih (x.aia++[⟨1,t,0⟩])).map It.ah7)::uu 49 []))) (ax ?_) (by repeat' constructor));clear Zi R7;simp only[aN,gE,nb,dt,iQ,V.pure,VV,seval];refine az (qg (aih (x.aia++[⟨1,t,0⟩])) x.aii (by omega) (by omega) (by omega) (by omega) _) rfl ?_;simp only[aN,gE,nb,dt,iQ,V.pure,VV,seval];refine tail ⟨eu (aih (x.aia++[⟨1,t,0⟩])) x.aii,eF (aih (x.aia++[⟨1,t,0⟩])) x.aii,e.bQ,e.next,e.cJ,e.b8,e.aif,e.ail⟩ (k1+1+1+1) _ (J6 (by omega) (hE.toB 0) hX wx) (by omega) ?_
   repeat' constructor
  ·have e2:(v==0)=false:=by simpa using Gl
   simp only[e1,e2,VV,seval];refine skip (k1+1) (by omega) ?_
   repeat' constructor
theorem HQ(S:ae)(a:Nat)(ha:a<S.length)(l:List Int)(k:Nat)(hk:k<2^45)(N:Nat)(hN:N≤20):
  PC prog 17 [.ptr a 0,.i .i64 N] (fA S a l k) (fun r J'=>∃ (out:List En) (k':Nat),r=.sl 8 (out.map En.ah7)∧(∀ o∈out,nc out.length o)∧out.length≤N∧k'≤k+1000*N+1∧J'=fA S a l k'):=by
 refine PC.intro func17 c17 fun bj dx=>ax ?_;have hw:IntKind.i64.wrap ((N:Int)+1)=((N+1:Nat):Int):=bd (by omega);simp only[p17,SS,seval];simp only[aN,hw,VV,seval];refine cm (o7 S a ha l k (by omega) ((N+1:Nat):Int) (by omega) (by omega)) rfl ?_;rintro _ _ ⟨v,rfl,hv,rfl⟩;obtain⟨m,rfl⟩:∃ m:Nat,v=m:=⟨v.toNat,by omega⟩;simp only[aN,hw,VV,seval]
 refine b6.wk (((Wk.gA (ys:=(.ptr a 0::uu 4 (.nil::.i .i64 m::uu 52 []))) (by repeat' constructor)).trans (Wk.iy (P:=prog) (J:=fA S a l (k+1)) (k:=5) TM rfl)).trans (Wk.gA (ys:=(.ptr a 0::uu 4 (.own S.length 0::.i .i64 m::uu 52 []))) ?_))
  (b6.vP (m+1) (Ut S a ha l (k+1) (by omega) (fe bj) m (by omega) m (k+1) [] 0 (aq _) (by simp) (by simp) (by omega) ?_))
 ·simp only[aN,ai,aC,VV,seval]
  repeat' constructor
 intro k' out g c1 c2 c3;simp only[JE];intros;simp only[mJ,aN,gE,nb,dt,iQ,VV,seval];refine eP (xs':=[.sl 8 (out.map En.ah7)]) (.inr rfl) rfl ((Wk.fz S.length (E:=37) (sz:=8) (by':=128) (g:=g) (sh:=false) (rows:=out.map En.ah7) (by rw[gE];rfl)).trans ?_) rfl ⟨out,k',rfl,c1,by omega,by omega,rfl⟩;rw[dt];simp only[ay,bo,ev,di,aV,aW,jV,iD,fz,qD,jx,aL];have:=Wk.AP (P:=prog) (xs:=[.sl 8 (out.map En.ah7)]) (loc:=[Ob.row 37 8 128 g true (out.map En.ah7)]) (fe (k':=k') bj) (by simp only[aN,LW]);rw[aN]at this;exact this
end Go.Proofs.Tryz

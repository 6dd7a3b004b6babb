/- A part of a proof; the claim's last text says of what. -/
import Derived.Test.YtlakkaamfadipaaGreatDoorS13
set_option linter.all false

namespace Go.Pm
open Go Go.RowKit
def fp(n:Nat)(P:Program)(c:bD)(K:Exit→St→Prop):Nat→St→Prop
 | 0,_=>False
 | N+1,st=>b6 n P c (fun e=>match e with
  | .normal=>fp n P c K N
  | e=>K e) st
theorem b6.vP{n:Nat}{P:Program}{c:bD}{K:Exit→St→Prop}{st:St}(N:Nat)(h:fp n P c K N st):b6 n P (.loop c) K st:=by
 intro code hc;cases code
 case loop c' =>
  simp only[eC,aj,bD.loop.injEq]at hc;obtain⟨c2,Lq,rfl⟩:=hc;intro B w0 w μ a hs hf;refine px N (fun k a2 w2=>∃ st2 μ2,fp n P c2 K k st2∧fx P B w0 w2 st2.J μ2∧FR w2 st2.J μ2 st2.fr a2∧eD n w st.J μ w2 st2.J μ2) ⟨st,μ,h,hs,hf,eD.refl _ _ _ _⟩ ?_;rintro k a2 w2 ⟨st2,μ2,hI2,Jh,Fu,nX⟩;cases k with
  | zero=>exact hI2.elim
  | succ k =>
   refine wp_mono (hI2 c' Lq B w0 w2 μ2 a2 Jh Fu) ?_;rintro e a' w' ⟨st',μ',hK,hs',hf',hk⟩;cases e with
   | normal=>exact⟨k,Nat.lt_succ_self k,st',μ',hK,hs',hf',nX.trans hk⟩
   | exit id=>exact⟨st',μ',hK,hs',hf',nX.trans hk⟩
   | goto l=>exact⟨st',μ',hK,hs',hf',nX.trans hk⟩
   | ret=>exact⟨st',μ',hK,hs',hf',nX.trans hk⟩
   | panic c=>exact⟨st',μ',hK,hs',hf',nX.trans hk⟩
   | outgrown=>exact⟨st',μ',hK,hs',hf',nX.trans hk⟩
 all_goals first | (exfalso;revert hc;simp only[eC];try ((repeat' split)<;>simp);done) | (rename_i _ ops draw;exfalso;cases draw<;>simp only[eC]at hc<;>first | (obtain⟨_,_,_,h⟩:=gB hc;simp at h;done) | (rcases fN hc with⟨_,_,_,_,h,_⟩ | ⟨_,_,h,_⟩ | ⟨_,_,_,_,_,_,h,_⟩<;>simp at h;done))
def vC(id:Nat)(K:Exit→St→Prop):Exit→St→Prop
 | .exit id'=>if id'=id then K .normal else K (.exit id')
 | e=>K e
def WG(n:Nat)(P:Program)(c:bD)(K:Exit→St→Prop)(N:Nat):Exit→St→Prop
 | .normal=>fp n P c K N
 | e=>K e
def GN(k:St→Prop)(K:Exit→St→Prop):Exit→St→Prop
 | .normal=>k
 | e=>K e
def Jx(P:Program):bD→(St→Prop)→St→Prop
 | .df ds last gs tail,k,st=>pH P ds last (iW P gs tail k) st
 | _,_,_=>False
theorem FO{P:Program}{c:bD}{k:St→Prop}{st:St}(h:Jx P c k st):∃ ds last gs tail,c=.df ds last gs tail∧pH P ds last (iW P gs tail k) st:=by
 cases c with
 | df ds last gs tail=>exact⟨ds,last,gs,tail,rfl,h⟩
 | _=>exact h.elim
def xt(n:Nat)(P:Program):bD→(Exit→St→Prop)→St→Prop
 | .skip,K,st=>K .normal st
 | .au gs is,K,st=>iW P gs is (K .normal) st
 | .df ds last gs tail,K,st=>pH P ds last (iW P gs tail (K .normal)) st
 | .seq a b,K,st=>xt n P a (GN (xt n P b K) K) st
 | .ite c a b,K,st=>match ev st.fr c with
  | .b x=>(x=true→xt n P a K st)∧(x=false→xt n P b K st)
  | _=>False
 | .block id c,K,st=>xt n P c (vC id K) st
 | .loop c,K,st=>b6 n P (.loop c) K st
 | .exit id,K,st=>K (.exit id) st
 | .ret,K,st=>K .ret st
 | .both a b,K,st=>Jx P a (K .normal) st∧Jx P b (K .normal) st
 | .Mp fls ds1 ds2 last gs tail,K,st=>uK P (F4 fls) ds1 ds2 last (iW P gs tail (K .normal)) (tk st.J.length fls st.fr) st.J []
theorem ax{n:Nat}{P:Program}:∀ {c:bD} {K:Exit→St→Prop} {st:St},xt n P c K st→b6 n P c K st
 | .skip,_,_,h=>b6.skip h
 | .au _ _,_,_,h=>b6.au h
 | .df _ _ _ _,_,_,h=>b6.df h
 | .seq a b,K,st,h=>b6.seq ((ax (c:=a) h).mono fun e st' hk=>by
   cases e with
   | normal=>exact ax (c:=b) hk
   | _=>exact hk)
 | .ite c a b,K,st,h=>by
  simp only[xt]at h;split at h
  ·rename_i x hx;exact b6.ite hx (fun hb=>ax (h.1 hb)) fun hb=>ax (h.2 hb)
  ·exact h.elim
 | .block id c,K,st,h=>b6.block ((ax (c:=c) h).mono fun e st' hk=>by
   cases e with
   | exit id' =>
    simp only[vC]at hk;simp only[vB];split at hk<;>rename_i h1<;>simp only[h1,aL,aK]<;>exact hk
   | _=>exact hk)
 | .loop _,_,_,h=>h
 | .exit _,_,_,h=>b6.exit h
 | .ret,_,_,h=>b6.ret h
 | .both _ _,_,_,h=>b6.both (FO h.1) (FO h.2)
 | .Mp ..,_,_,h=>b6.Mp h
theorem Ph:F4 []=[]:=rfl
theorem LU(d T:Nat)(zs:List V)(r:List (Nat×Nat×List V)):F4 ((d,T,zs)::r)=.box T zs::F4 r:=rfl
theorem LN:gY []=[]:=rfl
theorem HU(o:Ob)(r:List Ob):gY (o::r)=.dead::gY r:=rfl
theorem MV(n:Nat)(fr:List V):tk n [] fr=fr:=rfl
theorem J8(n d T:Nat)(zs:List V)(r:List (Nat×Nat×List V))(fr:List V):tk n ((d,T,zs)::r) fr=tk (n+1) r (fr.set d (.ptr n 0)):=rfl
theorem M5{n:Nat}{P:Program}{c:bD}{K:Exit→St→Prop}{N:Nat}{st:St}(h:xt n P c (WG n P c K N) st):fp n P c K (N+1) st:=by
 simp only[fp];exact(ax h).mono fun e st' hk=>by cases e<;>exact hk
theorem Ga{id:Nat}{K:Exit→St→Prop}:vC id K .normal=K .normal:=rfl
theorem Po{id:Nat}{K:Exit→St→Prop}:vC id K .ret=K .ret:=rfl
theorem LV{id:Nat}{K:Exit→St→Prop}:vC id K (.exit id)=K .normal:=by simp only[vC,aL]
theorem LX{id id':Nat}{K:Exit→St→Prop}:vC id K (.exit id')=if id'=id then K .normal else K (.exit id'):=rfl
theorem Eh{k:St→Prop}{K:Exit→St→Prop}:GN k K .normal=k:=rfl
theorem MX{k:St→Prop}{K:Exit→St→Prop}:GN k K .ret=K .ret:=rfl
theorem J9{k:St→Prop}{K:Exit→St→Prop}{id:Nat}:GN k K (.exit id)=K (.exit id):=rfl
def pI(r:Option (Prop×V))(d:Option Nat)(K:St→Prop)(fr:List V)(J:ae):Prop :=
 match r with
 | some (ob,v)=>ob∧K ⟨di fr d v,J⟩
 | none=>False
def xI(r:Option (Prop×V×ae))(d:Option Nat)(K:St→Prop)(fr:List V):Prop :=
 match r with
 | some (ob,v,J')=>ob∧K ⟨di fr d v,J'⟩
 | none=>False
def qI(r:Option (Prop×V))(c:Bool)(d:Option Nat)(K:St→Prop)(fr:List V)(J:ae):Prop :=
 match r with
 | some (ob,v)=>(c=true→ob)∧K ⟨di fr d v,J⟩
 | none=>False
theorem Qj{ob:Prop}{v:V}{d:Option Nat}{K:St→Prop}{fr:List V}{J:ae}:pI (some (ob,v)) d K fr J=(ob∧K ⟨di fr d v,J⟩):=rfl
theorem PZ{ob:Prop}{v:V}{d:Option Nat}{K:St→Prop}{fr:List V}{J':ae}:xI (some (ob,v,J')) d K fr=(ob∧K ⟨di fr d v,J'⟩):=rfl
theorem Qf{ob:Prop}{v:V}{c:Bool}{d:Option Nat}{K:St→Prop}{fr:List V}{J:ae}:qI (some (ob,v)) c d K fr J=((c=true→ob)∧K ⟨di fr d v,J⟩):=rfl
theorem gn{P:Program}{d:Option Nat}{i:I}{K:St→Prop}{fr:List V}{J:ae}(hs:i.cF=true):gI P ⟨d,[],i⟩ K ⟨fr,J⟩=pI (aM fr J i) d K fr J:=by
 have hx:=s8 (fr:=fr) (J:=J) hs;simp only[gI];cases i<;>first | (simp[I.cF]at hs;done) | skip
 all_goals
  simp only[iu,pI,hx];generalize aM fr J _=r;cases r<;>rfl
theorem mj{P:Program}{d:Option Nat}{i:I}{K:St→Prop}{fr:List V}{J:ae}(hs:i.cF=false)(hc:∀ f args,i≠.call f args)(hv:∀ x args,i≠.kK x args)(hn:∀ x,i≠.next x:=by simp):gI P ⟨d,[],i⟩ K ⟨fr,J⟩=xI (bO fr J i) d K fr:=by
 have hp:aM fr J i=none:=by
  cases h:aM fr J i with
  | none=>rfl
  | some r=>rw[tB h]at hs;simp at hs
 simp only[gI];cases i<;>first | (simp[I.cF]at hs;done) | exact absurd rfl (hc _ _) | exact absurd rfl (hv _ _) | exact absurd rfl (hn _) | skip
 all_goals
  simp only[iu,xI,hp];generalize bO fr J _=r;cases r<;>rfl
theorem Ve{P:Program}{d:Option Nat}{K:St→Prop}{fr:List V}{J:ae}{x:O}:gI P ⟨d,[],.aS x⟩ K ⟨fr,J⟩=pI (aM fr J (.aS x)) d K fr J:=gn rfl
theorem RI{P:Program}{d:Option Nat}{K:St→Prop}{fr:List V}{J:ae}{c a b:O}:gI P ⟨d,[],.pick c a b⟩ K ⟨fr,J⟩=pI (aM fr J (.pick c a b)) d K fr J:=gn rfl
theorem OO{P:Program}{d:Option Nat}{K:St→Prop}{fr:List V}{J:ae}{zs:List V}{ps:List (Nat×Nat×O)}:gI P ⟨d,[],.build zs ps⟩ K ⟨fr,J⟩=pI (aM fr J (.build zs ps)) d K fr J:=gn rfl
theorem LC{P:Program}{d:Option Nat}{K:St→Prop}{fr:List V}{J:ae}{sz:Nat}{szs:List (Option Nat)}{xs:List O}:gI P ⟨d,[],.bC sz szs xs⟩ K ⟨fr,J⟩=pI (aM fr J (.bC sz szs xs)) d K fr J:=gn rfl
theorem RT{P:Program}{d:Option Nat}{K:St→Prop}{fr:List V}{J:ae}{k:Option Nat}{a:O}:gI P ⟨d,[],.load k a⟩ K ⟨fr,J⟩=pI (aM fr J (.load k a)) d K fr J:=gn rfl
theorem OM{P:Program}{d:Option Nat}{K:St→Prop}{fr:List V}{J:ae}{x:O}:gI P ⟨d,[],.dn x⟩ K ⟨fr,J⟩=pI (aM fr J (.dn x)) d K fr J:=gn rfl
theorem Vp{P:Program}{d:Option Nat}{K:St→Prop}{fr:List V}{J:ae}{op:BinOp}{x y:O}:gI P ⟨d,[],.bin op x y⟩ K ⟨fr,J⟩=pI (aM fr J (.bin op x y)) d K fr J:=gn rfl
theorem Vq{P:Program}{d:Option Nat}{K:St→Prop}{fr:List V}{J:ae}{neg:Bool}{ks:List Nat}{x y:O}:gI P ⟨d,[],.beq neg ks x y⟩ K ⟨fr,J⟩=pI (aM fr J (.beq neg ks x y)) d K fr J:=gn rfl
theorem Vr{P:Program}{d:Option Nat}{K:St→Prop}{fr:List V}{J:ae}{neg:Bool}{x y:O}:gI P ⟨d,[],.Tm neg x y⟩ K ⟨fr,J⟩=pI (aM fr J (.Tm neg x y)) d K fr J:=gn rfl
theorem Zq{P:Program}{d:Option Nat}{K:St→Prop}{fr:List V}{J:ae}{op:UnOp}{x:O}:gI P ⟨d,[],.un op x⟩ K ⟨fr,J⟩=pI (aM fr J (.un op x)) d K fr J:=gn rfl
theorem Vl{P:Program}{d:Option Nat}{K:St→Prop}{fr:List V}{J:ae}{k:IntKind}{x:O}:gI P ⟨d,[],.Jz k x⟩ K ⟨fr,J⟩=pI (aM fr J (.Jz k x)) d K fr J:=gn rfl
theorem Vs{P:Program}{d:Option Nat}{K:St→Prop}{fr:List V}{J:ae}{x:O}:gI P ⟨d,[],.JG x⟩ K ⟨fr,J⟩=pI (aM fr J (.JG x)) d K fr J:=gn rfl
theorem OJ{P:Program}{d:Option Nat}{K:St→Prop}{fr:List V}{J:ae}{sz:Nat}{x:O}{lo hi:Option O}:gI P ⟨d,[],.slice sz x lo hi⟩ K ⟨fr,J⟩=pI (aM fr J (.slice sz x lo hi)) d K fr J:=gn rfl
theorem LA{P:Program}{d:Option Nat}{K:St→Prop}{fr:List V}{J:ae}{x:O}{lo hi:Option O}:gI P ⟨d,[],.fJ x lo hi⟩ K ⟨fr,J⟩=pI (aM fr J (.fJ x lo hi)) d K fr J:=gn rfl
theorem Vi{P:Program}{d:Option Nat}{K:St→Prop}{fr:List V}{J:ae}{off:Nat}{x:O}:gI P ⟨d,[],.eR off x⟩ K ⟨fr,J⟩=pI (aM fr J (.eR off x)) d K fr J:=gn rfl
theorem Vh{P:Program}{d:Option Nat}{K:St→Prop}{fr:List V}{J:ae}{sz:Nat}{x i:O}:gI P ⟨d,[],.idx sz x i⟩ K ⟨fr,J⟩=pI (aM fr J (.idx sz x i)) d K fr J:=gn rfl
theorem RH{P:Program}{d:Option Nat}{K:St→Prop}{fr:List V}{J:ae}{x i:O}:gI P ⟨d,[],.fS x i⟩ K ⟨fr,J⟩=pI (aM fr J (.fS x i)) d K fr J:=gn rfl
theorem Vj{P:Program}{d:Option Nat}{K:St→Prop}{fr:List V}{J:ae}{k:Nat}{x:O}:gI P ⟨d,[],.ext k x⟩ K ⟨fr,J⟩=pI (aM fr J (.ext k x)) d K fr J:=gn rfl
theorem Vg{P:Program}{d:Option Nat}{K:St→Prop}{fr:List V}{J:ae}{str:Bool}{x:O}:gI P ⟨d,[],.len str x⟩ K ⟨fr,J⟩=pI (aM fr J (.len str x)) d K fr J:=gn rfl
theorem RQ{P:Program}{d:Option Nat}{K:St→Prop}{fr:List V}{J:ae}{x y:O}:gI P ⟨d,[],.max2 x y⟩ K ⟨fr,J⟩=pI (aM fr J (.max2 x y)) d K fr J:=gn rfl
theorem RM{P:Program}{d:Option Nat}{K:St→Prop}{fr:List V}{J:ae}{x y:O}:gI P ⟨d,[],.min2 x y⟩ K ⟨fr,J⟩=pI (aM fr J (.min2 x y)) d K fr J:=gn rfl
theorem RR{P:Program}{d:Option Nat}{K:St→Prop}{fr:List V}{J:ae}{kd:Nat}{z:V}{ok:Bool}{m k:O}:gI P ⟨d,[],.look kd z ok m k⟩ K ⟨fr,J⟩=pI (aM fr J (.look kd z ok m k)) d K fr J:=gn rfl
theorem RL{P:Program}{d:Option Nat}{K:St→Prop}{fr:List V}{J:ae}{x:O}:gI P ⟨d,[],.yL x⟩ K ⟨fr,J⟩=pI (aM fr J (.yL x)) d K fr J:=gn rfl
theorem Vo{P:Program}{d:Option Nat}{K:St→Prop}{fr:List V}{J:ae}{T:Nat}{x:O}:gI P ⟨d,[],.box T x⟩ K ⟨fr,J⟩=xI (bO fr J (.box T x)) d K fr:=mj rfl (by simp) (by simp)
theorem OP{P:Program}{d:Option Nat}{K:St→Prop}{fr:List V}{J:ae}{T:Nat}{zs:List V}:gI P ⟨d,[],.alloc T zs⟩ K ⟨fr,J⟩=xI (bO fr J (.alloc T zs)) d K fr:=mj rfl (by simp) (by simp)
theorem OI{P:Program}{d:Option Nat}{K:St→Prop}{fr:List V}{J:ae}{k:Nat}{szs:List (Option Nat)}{a x:O}:gI P ⟨d,[],.store k szs a x⟩ K ⟨fr,J⟩=xI (bO fr J (.store k szs a x)) d K fr:=mj rfl (by simp) (by simp)
theorem Vu{P:Program}{d:Option Nat}{K:St→Prop}{fr:List V}{J:ae}{E sz by':Nat}{x y:O}:gI P ⟨d,[],.app E sz by' x y⟩ K ⟨fr,J⟩=xI (bO fr J (.app E sz by' x y)) d K fr:=mj rfl (by simp) (by simp)
theorem RW{P:Program}{d:Option Nat}{K:St→Prop}{fr:List V}{J:ae}{E:Nat}{x y:O}:gI P ⟨d,[],.apps E x y⟩ K ⟨fr,J⟩=xI (bO fr J (.apps E x y)) d K fr:=mj rfl (by simp) (by simp)
theorem Zr{P:Program}{d:Option Nat}{K:St→Prop}{fr:List V}{J:ae}{E sz by':Nat}{zs:List V}{l c:O}:gI P ⟨d,[],.mk E sz by' zs l c⟩ K ⟨fr,J⟩=xI (bO fr J (.mk E sz by' zs l c)) d K fr:=mj rfl (by simp) (by simp)
theorem RV{P:Program}{d:Option Nat}{K:St→Prop}{fr:List V}{J:ae}{E sz by':Nat}{szs:List (Option Nat)}{xs:List O}:gI P ⟨d,[],.H0 E sz by' szs xs⟩ K ⟨fr,J⟩=xI (bO fr J (.H0 E sz by' szs xs)) d K fr:=mj rfl (by simp) (by simp)
theorem ON{P:Program}{d:Option Nat}{K:St→Prop}{fr:List V}{J:ae}{T E:Nat}:gI P ⟨d,[],.lD T E⟩ K ⟨fr,J⟩=xI (bO fr J (.lD T E)) d K fr:=mj rfl (by simp) (by simp)
theorem RK{P:Program}{d:Option Nat}{K:St→Prop}{fr:List V}{J:ae}{kd:Nat}{szs:List (Option Nat)}{m k x:O}:gI P ⟨d,[],.uW kd szs m k x⟩ K ⟨fr,J⟩=xI (bO fr J (.uW kd szs m k x)) d K fr:=mj rfl (by simp) (by simp)
theorem RX{P:Program}{d:Option Nat}{K:St→Prop}{fr:List V}{J:ae}{n sz:Nat}{x i:O}:gI P ⟨d,[],.Gd n sz x i⟩ K ⟨fr,J⟩=pI (aM fr J (.Gd n sz x i)) d K fr J:=gn rfl
theorem Vt{P:Program}{d:Option Nat}{K:St→Prop}{fr:List V}{J:ae}{n:Nat}{x:O}:gI P ⟨d,[],.Wb n x⟩ K ⟨fr,J⟩=pI (aM fr J (.Wb n x)) d K fr J:=gn rfl
theorem Vn{P:Program}{d:Option Nat}{K:St→Prop}{fr:List V}{J:ae}{f:Nat}{xs:List O}:gI P ⟨d,[],.PQ f xs⟩ K ⟨fr,J⟩=pI (aM fr J (.PQ f xs)) d K fr J:=gn rfl
theorem Vm{P:Program}{d:Option Nat}{K:St→Prop}{fr:List V}{J:ae}{sz:Nat}{zs:List V}{x:O}:gI P ⟨d,[],.FU sz zs x⟩ K ⟨fr,J⟩=xI (bO fr J (.FU sz zs x)) d K fr:=mj rfl (by simp) (by simp)
section
variable {P:Program} {d:Option Nat} {K:St→Prop} {fr:List V} {J:ae}
theorem Vk{x:O}:gI P ⟨d,[],.LL x⟩ K ⟨fr,J⟩=pI (aM fr J (.LL x)) d K fr J:=gn rfl
theorem RG{off:Nat}{x:O}:gI P ⟨d,[],.JS off x⟩ K ⟨fr,J⟩=pI (aM fr J (.JS off x)) d K fr J:=gn rfl
theorem RF{n:Nat}{x i:O}:gI P ⟨d,[],.JR n x i⟩ K ⟨fr,J⟩=pI (aM fr J (.JR n x i)) d K fr J:=gn rfl
theorem Vf{E by':Nat}{l c:O}:gI P ⟨d,[],.SM E by' l c⟩ K ⟨fr,J⟩=xI (bO fr J (.SM E by' l c)) d K fr:=mj rfl (by simp) (by simp)
theorem OH{x y:O}:gI P ⟨d,[],.Bd x y⟩ K ⟨fr,J⟩=pI (aM fr J (.Bd x y)) d K fr J:=gn rfl
theorem RU{sz:Nat}{x h m:O}:gI P ⟨d,[],.clip sz x h m⟩ K ⟨fr,J⟩=pI (aM fr J (.clip sz x h m)) d K fr J:=gn rfl
theorem RP{kd:Nat}{m k:O}:gI P ⟨d,[],.He kd m k⟩ K ⟨fr,J⟩=xI (bO fr J (.He kd m k)) d K fr:=mj rfl (by simp) (by simp)
theorem RO{kd:Nat}{z:V}{m k:O}:gI P ⟨d,[],.tH kd z m k⟩ K ⟨fr,J⟩=xI (bO fr J (.tH kd z m k)) d K fr:=mj rfl (by simp) (by simp)
theorem RN{szs:List (Option Nat)}{m s x:O}:gI P ⟨d,[],.tG szs m s x⟩ K ⟨fr,J⟩=xI (bO fr J (.tG szs m s x)) d K fr:=mj rfl (by simp) (by simp)
theorem OK{x:O}:gI P ⟨d,[],.range x⟩ K ⟨fr,J⟩=xI (bO fr J (.range x)) d K fr:=mj rfl (by simp) (by simp)
def nI(r:Option (Nat×Nat×Nat×Nat×List Nat))(d:Option Nat)(K:St→Prop)(fr:List V)(J:ae):Prop :=
 match r with
 | some (j,m,E,n,ps)=>(ps=[]→K ⟨di fr d (.fi [.b false]),J⟩)∧∀ q∈ps,K ⟨di fr d (.fi [.b true,.u,.u]),J.set j (.iter false m E n (ps.filter fun i=>i != q) (some q))⟩
 | none=>False
theorem Qp{j m E n:Nat}{ps:List Nat}:nI (some (j,m,E,n,ps)) d K fr J=((ps=[]→K ⟨di fr d (.fi [.b false]),J⟩)∧∀ q∈ps,K ⟨di fr d (.fi [.b true,.u,.u]),J.set j (.iter false m E n (ps.filter fun i=>i != q) (some q))⟩):=rfl
theorem RJ{x:O}:gI P ⟨d,[],.next x⟩ K ⟨fr,J⟩=nI (yJ J (ev fr x)) d K fr J:=by
 simp only[gI,iu,nI];generalize yJ J (ev fr x)=r;cases r<;>rfl
end
def gX(p:Pi)(r:Option Bool)(K:St→Prop)(fr:List V)(J:ae):Prop :=
 match r with
 | none=>False
 | some c=>match p.i with
  | .load k a=>match ev fr a with
   | .ptr _ _=>qI (aM fr J (.load k a)) c p.d K fr J
   | _=>∃ v,(c=true→∃ ob,aM fr J (.load k a)=some (ob,v)∧ob)∧K ⟨di fr p.d v,J⟩
  | i=>qI (aM fr J i) c p.d K fr J
theorem iS{P:Program}{p:Pi}{K:St→Prop}{fr:List V}{J:ae}(hg:p.g≠[])(hc:(∀ f args,p.i≠.call f args)∧∀ x args,p.i≠.kK x args):gI P p K ⟨fr,J⟩=gX p (chainB fr p.g) K fr J:=by
 obtain⟨d,g,i⟩:=p;cases g with
 | nil=>exact absurd rfl hg
 | cons q qs =>
  simp only[gI,gX];cases chainB fr (q::qs)with
  | none=>rfl
  | some c =>
   simp only[tU];cases i<;>first | rfl | exact absurd rfl (hc.1 _ _) | exact absurd rfl (hc.2 _ _)
theorem U0{P:Program}{d:Option Nat}{q:Nat×Bool}{qs:List (Nat×Bool)}{K:St→Prop}{fr:List V}{J:ae}{x:O}:gI P ⟨d,q::qs,.aS x⟩ K ⟨fr,J⟩=gX ⟨d,q::qs,.aS x⟩ (chainB fr (q::qs)) K fr J:=iS (by simp) (by simp)
theorem Rw{P:Program}{d:Option Nat}{q:Nat×Bool}{qs:List (Nat×Bool)}{K:St→Prop}{fr:List V}{J:ae}{c a b:O}:gI P ⟨d,q::qs,.pick c a b⟩ K ⟨fr,J⟩=gX ⟨d,q::qs,.pick c a b⟩ (chainB fr (q::qs)) K fr J:=iS (by simp) (by simp)
theorem OD{P:Program}{d:Option Nat}{q:Nat×Bool}{qs:List (Nat×Bool)}{K:St→Prop}{fr:List V}{J:ae}{zs:List V}{ps:List (Nat×Nat×O)}:gI P ⟨d,q::qs,.build zs ps⟩ K ⟨fr,J⟩=gX ⟨d,q::qs,.build zs ps⟩ (chainB fr (q::qs)) K fr J:=iS (by simp) (by simp)
theorem Lx{P:Program}{d:Option Nat}{q:Nat×Bool}{qs:List (Nat×Bool)}{K:St→Prop}{fr:List V}{J:ae}{sz:Nat}{szs:List (Option Nat)}{xs:List O}:gI P ⟨d,q::qs,.bC sz szs xs⟩ K ⟨fr,J⟩=gX ⟨d,q::qs,.bC sz szs xs⟩ (chainB fr (q::qs)) K fr J:=iS (by simp) (by simp)
theorem RB{P:Program}{d:Option Nat}{q:Nat×Bool}{qs:List (Nat×Bool)}{K:St→Prop}{fr:List V}{J:ae}{k:Option Nat}{a:O}:gI P ⟨d,q::qs,.load k a⟩ K ⟨fr,J⟩=gX ⟨d,q::qs,.load k a⟩ (chainB fr (q::qs)) K fr J:=iS (by simp) (by simp)
theorem OC{P:Program}{d:Option Nat}{q:Nat×Bool}{qs:List (Nat×Bool)}{K:St→Prop}{fr:List V}{J:ae}{x:O}:gI P ⟨d,q::qs,.dn x⟩ K ⟨fr,J⟩=gX ⟨d,q::qs,.dn x⟩ (chainB fr (q::qs)) K fr J:=iS (by simp) (by simp)
theorem U6{P:Program}{d:Option Nat}{q:Nat×Bool}{qs:List (Nat×Bool)}{K:St→Prop}{fr:List V}{J:ae}{op:BinOp}{x y:O}:gI P ⟨d,q::qs,.bin op x y⟩ K ⟨fr,J⟩=gX ⟨d,q::qs,.bin op x y⟩ (chainB fr (q::qs)) K fr J:=iS (by simp) (by simp)
theorem U7{P:Program}{d:Option Nat}{q:Nat×Bool}{qs:List (Nat×Bool)}{K:St→Prop}{fr:List V}{J:ae}{neg:Bool}{ks:List Nat}{x y:O}:gI P ⟨d,q::qs,.beq neg ks x y⟩ K ⟨fr,J⟩=gX ⟨d,q::qs,.beq neg ks x y⟩ (chainB fr (q::qs)) K fr J:=iS (by simp) (by simp)
theorem U8{P:Program}{d:Option Nat}{q:Nat×Bool}{qs:List (Nat×Bool)}{K:St→Prop}{fr:List V}{J:ae}{neg:Bool}{x y:O}:gI P ⟨d,q::qs,.Tm neg x y⟩ K ⟨fr,J⟩=gX ⟨d,q::qs,.Tm neg x y⟩ (chainB fr (q::qs)) K fr J:=iS (by simp) (by simp)
theorem Zp{P:Program}{d:Option Nat}{q:Nat×Bool}{qs:List (Nat×Bool)}{K:St→Prop}{fr:List V}{J:ae}{op:UnOp}{x:O}:gI P ⟨d,q::qs,.un op x⟩ K ⟨fr,J⟩=gX ⟨d,q::qs,.un op x⟩ (chainB fr (q::qs)) K fr J:=iS (by simp) (by simp)
theorem U5{P:Program}{d:Option Nat}{q:Nat×Bool}{qs:List (Nat×Bool)}{K:St→Prop}{fr:List V}{J:ae}{k:IntKind}{x:O}:gI P ⟨d,q::qs,.Jz k x⟩ K ⟨fr,J⟩=gX ⟨d,q::qs,.Jz k x⟩ (chainB fr (q::qs)) K fr J:=iS (by simp) (by simp)
theorem U9{P:Program}{d:Option Nat}{q:Nat×Bool}{qs:List (Nat×Bool)}{K:St→Prop}{fr:List V}{J:ae}{x:O}:gI P ⟨d,q::qs,.JG x⟩ K ⟨fr,J⟩=gX ⟨d,q::qs,.JG x⟩ (chainB fr (q::qs)) K fr J:=iS (by simp) (by simp)
theorem OA{P:Program}{d:Option Nat}{q:Nat×Bool}{qs:List (Nat×Bool)}{K:St→Prop}{fr:List V}{J:ae}{sz:Nat}{x:O}{lo hi:Option O}:gI P ⟨d,q::qs,.slice sz x lo hi⟩ K ⟨fr,J⟩=gX ⟨d,q::qs,.slice sz x lo hi⟩ (chainB fr (q::qs)) K fr J:=iS (by simp) (by simp)
theorem Lw{P:Program}{d:Option Nat}{q:Nat×Bool}{qs:List (Nat×Bool)}{K:St→Prop}{fr:List V}{J:ae}{x:O}{lo hi:Option O}:gI P ⟨d,q::qs,.fJ x lo hi⟩ K ⟨fr,J⟩=gX ⟨d,q::qs,.fJ x lo hi⟩ (chainB fr (q::qs)) K fr J:=iS (by simp) (by simp)
theorem U3{P:Program}{d:Option Nat}{q:Nat×Bool}{qs:List (Nat×Bool)}{K:St→Prop}{fr:List V}{J:ae}{off:Nat}{x:O}:gI P ⟨d,q::qs,.eR off x⟩ K ⟨fr,J⟩=gX ⟨d,q::qs,.eR off x⟩ (chainB fr (q::qs)) K fr J:=iS (by simp) (by simp)
theorem U2{P:Program}{d:Option Nat}{q:Nat×Bool}{qs:List (Nat×Bool)}{K:St→Prop}{fr:List V}{J:ae}{sz:Nat}{x i:O}:gI P ⟨d,q::qs,.idx sz x i⟩ K ⟨fr,J⟩=gX ⟨d,q::qs,.idx sz x i⟩ (chainB fr (q::qs)) K fr J:=iS (by simp) (by simp)
theorem Rv{P:Program}{d:Option Nat}{q:Nat×Bool}{qs:List (Nat×Bool)}{K:St→Prop}{fr:List V}{J:ae}{x i:O}:gI P ⟨d,q::qs,.fS x i⟩ K ⟨fr,J⟩=gX ⟨d,q::qs,.fS x i⟩ (chainB fr (q::qs)) K fr J:=iS (by simp) (by simp)
theorem U4{P:Program}{d:Option Nat}{q:Nat×Bool}{qs:List (Nat×Bool)}{K:St→Prop}{fr:List V}{J:ae}{k:Nat}{x:O}:gI P ⟨d,q::qs,.ext k x⟩ K ⟨fr,J⟩=gX ⟨d,q::qs,.ext k x⟩ (chainB fr (q::qs)) K fr J:=iS (by simp) (by simp)
theorem U1{P:Program}{d:Option Nat}{q:Nat×Bool}{qs:List (Nat×Bool)}{K:St→Prop}{fr:List V}{J:ae}{str:Bool}{x:O}:gI P ⟨d,q::qs,.len str x⟩ K ⟨fr,J⟩=gX ⟨d,q::qs,.len str x⟩ (chainB fr (q::qs)) K fr J:=iS (by simp) (by simp)
theorem Rz{P:Program}{d:Option Nat}{q:Nat×Bool}{qs:List (Nat×Bool)}{K:St→Prop}{fr:List V}{J:ae}{x y:O}:gI P ⟨d,q::qs,.max2 x y⟩ K ⟨fr,J⟩=gX ⟨d,q::qs,.max2 x y⟩ (chainB fr (q::qs)) K fr J:=iS (by simp) (by simp)
theorem Ry{P:Program}{d:Option Nat}{q:Nat×Bool}{qs:List (Nat×Bool)}{K:St→Prop}{fr:List V}{J:ae}{x y:O}:gI P ⟨d,q::qs,.min2 x y⟩ K ⟨fr,J⟩=gX ⟨d,q::qs,.min2 x y⟩ (chainB fr (q::qs)) K fr J:=iS (by simp) (by simp)
theorem RA{P:Program}{d:Option Nat}{q:Nat×Bool}{qs:List (Nat×Bool)}{K:St→Prop}{fr:List V}{J:ae}{kd:Nat}{z:V}{ok:Bool}{m k:O}:gI P ⟨d,q::qs,.look kd z ok m k⟩ K ⟨fr,J⟩=gX ⟨d,q::qs,.look kd z ok m k⟩ (chainB fr (q::qs)) K fr J:=iS (by simp) (by simp)
theorem RC{P:Program}{d:Option Nat}{q:Nat×Bool}{qs:List (Nat×Bool)}{K:St→Prop}{fr:List V}{J:ae}{n sz:Nat}{x i:O}:gI P ⟨d,q::qs,.Gd n sz x i⟩ K ⟨fr,J⟩=gX ⟨d,q::qs,.Gd n sz x i⟩ (chainB fr (q::qs)) K fr J:=iS (by simp) (by simp)
theorem Rx{P:Program}{d:Option Nat}{q:Nat×Bool}{qs:List (Nat×Bool)}{K:St→Prop}{fr:List V}{J:ae}{x:O}:gI P ⟨d,q::qs,.yL x⟩ K ⟨fr,J⟩=gX ⟨d,q::qs,.yL x⟩ (chainB fr (q::qs)) K fr J:=iS (by simp) (by simp)
theorem az{P:Program}{d:Option Nat}{f:Nat}{args:List O}{K:St→Prop}{fr:List V}{J σ1:ae}{as:List V}{v:V}(h:PC P f as J (fun r J'=>r=v∧J'=σ1))(ha:args.map (ev fr)=as)(hK:K ⟨di fr d v,σ1⟩):
  gI P ⟨d,[],.call f args⟩ K ⟨fr,J⟩:=by
 subst ha;exact h.mono fun r J' ⟨e1,e2⟩=>by subst e1;subst e2;exact hK
theorem FZ{P:Program}{d:Option Nat}{f:Nat}{x:O}{args:List O}{K:St→Prop}{fr caps:List V}{J σ1:ae}{as:List V}{v:V}(hx:ev fr x=.fn f caps)(hf:ES P f=true)(h:PC P f as J (fun r J'=>r=v∧J'=σ1))(ha:args.map (ev fr)++caps=as)(hK:K ⟨di fr d v,σ1⟩):
  gI P ⟨d,[],.kK x args⟩ K ⟨fr,J⟩:=by
 subst ha;simp only[gI,iu,hx];exact⟨hf,h.mono fun r J' ⟨e1,e2⟩=>by subst e1;subst e2;exact hK⟩
theorem cm{P:Program}{d:Option Nat}{f:Nat}{args:List O}{K:St→Prop}{fr:List V}{J:ae}{as:List V}{Q:V→ae→Prop}(h:PC P f as J Q)(ha:args.map (ev fr)=as)(hK:∀ r J',Q r J'→K ⟨di fr d r,J'⟩):
  gI P ⟨d,[],.call f args⟩ K ⟨fr,J⟩:=by
 subst ha;exact h.mono hK
theorem cu{P:Program}{d:Option Nat}{q:Nat×Bool}{qs:List (Nat×Bool)}{f:Nat}{args:List O}{K:St→Prop}{fr:List V}{J:ae}{as:List V}{v:V}{c:Bool}(hc:chainB fr (q::qs)=some c)(h:c=true→PC P f as J (fun r J'=>r=v∧J'=J))(ha:args.map (ev fr)=as)(hK:K ⟨di fr d v,J⟩):
  gI P ⟨d,q::qs,.call f args⟩ K ⟨fr,J⟩:=by
 subst ha;simp only[gI,hc,tU];exact⟨fun hc=>(h hc).mono fun r' J' ⟨e1,e2⟩=>by subst e1;subst e2;exact hK,fun _=>⟨v,hK⟩⟩
theorem rB{P:Program}{d:Option Nat}{q:Nat×Bool}{qs:List (Nat×Bool)}{x:O}{args:List O}{K:St→Prop}{fr:List V}{J:ae}{v:V}{c:Bool}(hc:chainB fr (q::qs)=some c)
  (h:c=true→∃ f caps,ev fr x=.fn f caps∧ES P f=true∧PC P f (args.map (ev fr)++caps) J (fun r J'=>r=v∧J'=J)) (hK:K ⟨di fr d v,J⟩):gI P ⟨d,q::qs,.kK x args⟩ K ⟨fr,J⟩:=by
 simp only[gI,hc,tU];refine⟨fun hc=>?_,fun _=>⟨v,hK⟩⟩;obtain⟨f,caps,h1,h2,h3⟩:=h hc;rw[h1];exact⟨h2,h3.mono fun r' J' ⟨e1,e2⟩=>by subst e1;subst e2;exact hK⟩
theorem oK{P:Program}{d:Option Nat}{q:Nat×Bool}{qs:List (Nat×Bool)}{f:Nat}{args:List O}{K:St→Prop}{fr:List V}{J:ae}{as:List V}{Q:V→ae→Prop}{c:Bool}(hc:chainB fr (q::qs)=some c)(h:c=true→PC P f as J Q)(ha:args.map (ev fr)=as)
  (hK:c=true→∀ r J',Q r J'→K ⟨di fr d r,J'⟩) (hN:c=false→∃ v,K ⟨di fr d v,J⟩):gI P ⟨d,q::qs,.call f args⟩ K ⟨fr,J⟩:=by
 subst ha;simp only[gI,hc,tU];exact⟨fun hc=>(h hc).mono (hK hc),hN⟩
def VG(P:Program)(chk:List Pi)(ds:List (List Pi×Pi×List Pi))(last:List Pi)(K:St→Prop)(st:St):Prop:=(∀ p∈chk,zK p st)∧pH P ds last K st
def jv:ae→List Ob→List Ob→List Ob→(ae→ae→Prop)→Prop
 | τ,[],[],s,K=>K τ s
 | τ,[],X::Xs,Y::s,K=>X=Y∧jv τ [] Xs s K
 | τ,_::a,Xs,y::s,K=>jv (τ++[y]) a Xs s K
 | _,_,_,_,_=>False
theorem sK:∀ {a:List Ob} {τ:ae} {Xs s:List Ob} {K:ae→ae→Prop},jv τ a Xs s K↔∃ a' ε,a'.length=a.length∧s=a'++(Xs++ε)∧K (τ++a') ε
 | [],τ,[],s,K=>by
  simp only[jv];constructor
  ·intro h;exact⟨[],s,rfl,rfl,by simpa using h⟩
  ·rintro⟨a',ε,h1,rfl,h2⟩;obtain rfl:=aG h1;simpa using h2
 | [],τ,X::Xs,[],K=>by
  simp only[jv,Px];rintro⟨a',ε,h1,h2,_⟩;simp at h2
 | [],τ,X::Xs,Y::s,K=>by
  simp only[jv,sK (a:=[]) (Xs:=Xs)];constructor
  ·rintro⟨rfl,a',ε,h1,rfl,h2⟩;obtain rfl:=aG h1;exact⟨[],ε,rfl,rfl,h2⟩
  ·rintro⟨a',ε,h1,h2,h3⟩;obtain rfl:=aG h1;simp only[bk,bn,fc]at h2;exact⟨h2.1.symm,[],ε,rfl,h2.2,h3⟩
 | x::a,τ,Xs,[],K=>by
  simp only[jv,Px];rintro⟨a',ε,h1,h2,_⟩;cases a' with
  | nil=>simp at h1
  | cons y a'=>simp at h2
 | x::a,τ,Xs,y::s,K=>by
  simp only[jv,sK (a:=a) (Xs:=Xs)];constructor
  ·rintro⟨a',ε,h1,rfl,h2⟩;exact⟨y::a',ε,by simp[h1],rfl,by simpa using h2⟩
  ·rintro⟨a',ε,h1,h2,h3⟩;cases a' with
   | nil=>simp at h1
   | cons z a' =>
    simp only[bn,fc]at h2;obtain⟨rfl,rfl⟩:=h2;exact⟨a',ε,by simpa using h1,rfl,by simpa using h3⟩
theorem grown_of{J J':ae}{a Xs b:List Ob}{K:ae→ae→Prop}(hl:J'.length=J.length):grown (J++a) Xs (J'++b) K=jv J' a Xs b K:=by
 rw[eq_iff_iff,sK,grown];constructor
 ·rintro⟨τ',ε,h1,h2,h3⟩;have e:=List.append_eq_append_iff.1 h2;rcases e with⟨c,rfl,rfl⟩ | ⟨c,rfl,h4⟩
  ·exact⟨c,ε,by simp[hl]at h1;exact h1,rfl,h3⟩
  ·have hc:c=[]:=aG (by simp at h1 hl;omega);subst hc;simp only[bV,bk]at h1 h4 hl h3;have ha:a.length=0:=by simp at h1;omega
   exact⟨[],ε,by simp[ha],h4.symm,by simpa using h3⟩
 ·rintro⟨a',ε,h1,rfl,h2⟩;exact⟨J'++a',ε,by simp[h1,hl],by simp,h2⟩
theorem Oy{J:ae}{a Xs b:List Ob}{K:ae→ae→Prop}:grown (J++a) Xs (J++b) K=jv J a Xs b K:=grown_of rfl
theorem Ls{J:ae}{Xs b:List Ob}{K:ae→ae→Prop}:grown J Xs (J++b) K=jv J [] Xs b K:=by
 have:=grown_of (J:=J) (J':=J) (a:=[]) (Xs:=Xs) (b:=b) (K:=K) rfl
 rwa [bV]at this
theorem HF{τ:ae}{s:List Ob}{K:ae→ae→Prop}:jv τ [] [] s K=K τ s:=by cases s<;>rfl
theorem HG{τ:ae}{X Y:Ob}{Xs s:List Ob}{K:ae→ae→Prop}:jv τ [] (X::Xs) (Y::s) K=(X=Y∧jv τ [] Xs s K):=rfl
theorem HE{τ:ae}{x y:Ob}{a Xs s:List Ob}{K:ae→ae→Prop}:jv τ (x::a) Xs (y::s) K=jv (τ++[y]) a Xs s K:=by cases Xs<;>rfl
def WD(P:Program)(bx:List Ob)(chk:List Pi)(ds1 ds2:List (List Pi×Pi×List Pi))(last:List Pi)(K:St→Prop)(τ:ae)(Xs:List Ob)(st:St):Prop:=(∀ p∈chk,zK p st)∧grown τ Xs st.J (uK P bx ds1 ds2 last K st.fr)
def WB(P:Program)(bx:List Ob)(L:Pi)(chk:List Pi)(ds1 ds2:List (List Pi×Pi×List Pi))(last:List Pi)(K:St→Prop)(τ ε:ae)(st:St):Prop:=H4 bx fun Xs=>gI P L (WD P bx chk ds1 ds2 last K τ Xs) ⟨st.fr,τ++(Xs++ε)⟩
def WA(P:Program)(L:Pi)(chk:List Pi)(ds:List (List Pi×Pi×List Pi))(last:List Pi)(K:St→Prop)(τ:ae)(st:St):Prop:=gI P L (VG P chk ds last K) ⟨st.fr,τ⟩
def SR(K:St→Prop)(τ:ae)(st:St):Prop:=K ⟨st.fr,τ⟩
section
variable {P:Program} {bx:List Ob} {DH last:List Pi} {L:Pi} {chk:List Pi} {ds1 ds2:List (List Pi×Pi×List Pi)} {K:St→Prop} {fr:List V} {τ ε:ae}
theorem MY:uK P bx [] [] last K fr τ ε=iW P [] last (SR K (τ++(bx++ε))) ⟨fr,τ++(gY bx++ε)⟩:=rfl
theorem Kd:uK P bx [] ((DH,L,chk)::ds2) last K fr τ ε=iW P [] DH (WA P L chk ds2 last K (τ++(bx++ε))) ⟨fr,τ++(gY bx++ε)⟩:=rfl
theorem Ke:uK P bx ((DH,L,chk)::ds1) ds2 last K fr τ ε=iW P [] DH (WB P bx L chk ds1 ds2 last K τ ε) ⟨fr,τ++(gY bx++ε)⟩:=by cases ds2<;>rfl
end
theorem MZ{P:Program}{last:List Pi}{K:St→Prop}{st:St}:pH P [] last K st=iW P [] last K st:=rfl
theorem Kf{P:Program}{DH:List Pi}{L:Pi}{chk:List Pi}{ds:List (List Pi×Pi×List Pi)}{last:List Pi}{K:St→Prop}{st:St}:
  pH P ((DH,L,chk)::ds) last K st=iW P [] DH (gI P L (VG P chk ds last K)) st:=rfl
theorem M0{P:Program}{gs:List Nat}{K:St→Prop}{fr:List V}{J:ae}:iW P gs [] K ⟨fr,J⟩=K ⟨FU gs fr,J⟩:=rfl
theorem Kg{P:Program}{gs:List Nat}{p:Pi}{ps:List Pi}{K:St→Prop}{fr:List V}{J:ae}:iW P gs (p::ps) K ⟨fr,J⟩=gI P p (iW P gs ps K) ⟨fr,J⟩:=rfl
theorem gj{J l:ae}:(J++l)[J.length]?=l[0]?:=by rw[aA (aq _),eJ]
theorem uo{J l:ae}{k:Nat}:(J++l)[J.length+k]?=l[k]?:=by rw[aA (Pz _ _),cU]
theorem LY{J l:ae}{x:Ob}:(J++l).set J.length x=J++l.set 0 x:=by rw[cd _ _ (aq _),eJ]
theorem zR{J l:ae}{k:Nat}{x:Ob}:(J++l).set (J.length+k) x=J++l.set k x:=by
 rw[cd _ _ (Pz _ _),cU]
theorem Pr{J l:ae}:(J++l).length=J.length+l.length:=al
def qD(id g sz:Nat)(rows:List (List V)):V→V
 | .own id' g'=>if id'=id∧g'=g then .sl sz rows else .own id' g'
 | .sub id' g' lo hi=>if id'=id∧g'=g then .sl sz ((rows.drop lo).take (hi - lo))else .sub id' g' lo hi
 | x=>x
def fz(id g sz:Nat)(rows:List (List V)):V→V
 | .agg xs=>.agg (xs.map (qD id g sz rows))
 | x=>qD id g sz rows x
theorem OQ{P:Program}{B:Nat}{w0 w:World}{J:ae}{μ:Mem}(hS:fx P B w0 w J μ){id E sz by' g:Nat}{rows:List (List V)}(ho:J[id]?=some (.row E sz by' g true rows)){x:V}{v:Value}(h:VR w J μ x v):
  VR w J μ (qD id g sz rows x) v:=by
 unfold qD;split
 ·split
  ·rename_i e;obtain⟨rfl,rfl⟩:=e;rw[h.jP ho];have:=VR.tD hS ho 0 rows.length (by omega) (aq _);rw[D9 hS ho]at this;simpa using this
  ·exact h
 ·split
  ·rename_i e;obtain⟨rfl,rfl⟩:=e;obtain⟨h1,h2,h3⟩:=h.pc ho;rw[h3];exact VR.tD hS ho _ _ h1 h2
  ·exact h
 ·exact h
theorem Zt{P:Program}{B:Nat}{w0 w:World}{J:ae}{μ:Mem}(hS:fx P B w0 w J μ){id E sz by' g:Nat}{rows:List (List V)}(ho:J[id]?=some (.row E sz by' g true rows)){x:V}{v:Value}(h:VR w J μ x v):
  VR w J μ (fz id g sz rows x) v:=by
 unfold fz;split
 ·rename_i xs;obtain⟨vs,rfl,h1,h2⟩:=h.gr;refine .agg _ _ (by simpa using h1) fun i y hy=>?_;rw[a8,aj]at hy;obtain⟨z,hz,rfl⟩:=hy;exact OQ hS ho (h2 i z hz)
 ·exact OQ hS ho h
theorem Wk.fz{P:Program}{n:Nat}{xs:List V}{J:ae}(id:Nat){E sz by' g:Nat}{sh:Bool}{rows:List (List V)}(ho:J[id]?=some (.row E sz by' g sh rows)):
  Wk P n xs J (xs.map (Pm.fz id g sz rows)) (J.set id (.row E sz by' g true rows)):=by
 refine Wk.trans (Wk.share ho) ?_;have dc:id<J.length:=(ab.1 ho).1;intro B w0 w μ vs hS hC;refine⟨μ,hS,⟨by simp[hC.1],fun i y hy=>?_⟩,eD.refl _ _ _ _⟩;rw[a8,aj]at hy;obtain⟨z,hz,rfl⟩:=hy;exact Zt hS (by rw[ar dc]) (hC.2 i z hz)
theorem Wk.one{P:Program}{n:Nat}{xs xs':List V}{J J':ae}(h:Wk P n xs J xs' J')(hl:xs'.length=xs.length):Wk P n [Pm.one xs] J [Pm.one xs'] J':=by
 intro B w0 w μ vs hS hC;have h0:=hC.2 0 _ rfl
 have fin:∀ {w':World} {ys:List V} {us:Array Value} {μ':Mem},CR w' J' μ' ys us→ys.length≠1→VR w' J' μ' (Pm.one ys) (.tuple us):=by
  intro w' ys us μ' h1 h2
  match ys,h1,h2 with
  | [],h1,_=>exact .fi _ _ h1.1 h1.2
  | x::y::ys,h1,_=>exact .fi _ _ h1.1 h1.2
  | [x],_,h2=>exact absurd rfl h2
 by_cases h1:xs.length=1
 ·match xs,h1,h,hl,h0 with
  | [x],_,h,hl,h0 =>
   match xs',hl,h with
   | [x'],_,h =>
    exact h B w0 w μ vs hS ⟨hC.1,fun i y hy=>hC.2 i y hy⟩
 ·have hx:Pm.one xs=.fi xs:=by
   match xs,h1 with
   | [],_=>rfl
   | x::y::xs,_=>rfl
   | [x],h1=>exact absurd rfl h1
  rw[hx]at h0;obtain⟨us,hv,h2,h3⟩:=h0.Db;obtain⟨μ',h4,h5,h6⟩:=h B w0 w μ us hS ⟨h2,h3⟩;refine⟨μ',h4,⟨hC.1,fun i y hy=>?_⟩,h6⟩;cases i with
  | zero =>
   simp only[aw,aa]at hy;subst hy;rw[hv];exact fin h5 (by rw[hl];exact h1)
  | succ i=>simp at hy
theorem eP{P:Program}{n:Nat}{rs:List Rs}{Q:V→ae→Prop}{e:Exit}{st:St}{xs xs':List V}{J':ae}(he:e=.normal∨e=.ret)(hx:jt st rs=some xs)(hw:Wk P n xs st.J xs' J')(hl:xs'.length=xs.length)(hQ:Q (one xs') J'):
  qd P n rs Q e st:=⟨he,xs,hx,_,_,hw.one hl,hQ⟩
def eI(m:Nat):List V→Prop
 | []=>True
 | x::xs=>x.Lt m∧eI m xs
theorem dS{m:Nat}:∀ {xs:List V},eI m xs↔∀ (i:Nat) (x:V),xs[i]?=some x→x.Lt m
 | []=>by simp[eI]
 | y::xs=>by
  rw[eI,dS];constructor
  ·rintro⟨h1,h2⟩ i x hx;cases i with
   | zero=>simp only[aw,aa]at hx;subst hx;exact h1
   | succ i=>exact h2 i x (by simpa using hx)
  ·intro h;exact⟨h 0 y rfl,fun i x hx=>h (i+1) x (by simpa using hx)⟩
section
variable {m:Nat}
theorem aaA:V.u.Lt m↔True:=⟨fun _=>trivial,fun _=>.u⟩
theorem aaB{x}:(V.b x).Lt m↔True:=⟨fun _=>trivial,fun _=>.b _⟩
theorem Qt{k a}:(V.i k a).Lt m↔True:=⟨fun _=>trivial,fun _=>.i _ _⟩
theorem T8{l}:(V.s l).Lt m↔True:=⟨fun _=>trivial,fun _=>.s _⟩
theorem Ub:V.nil.Lt m↔True:=⟨fun _=>trivial,fun _=>.nil⟩
theorem Uc{sz xs}:(V.lit sz xs).Lt m↔True:=⟨fun _=>trivial,fun _=>.lit _ _⟩
theorem wh{sz xs}:(V.sl sz xs).Lt m↔True:=⟨fun _=>trivial,fun _=>.sl _ _⟩
theorem Yk{sz xs i o}:(V.ep sz xs i o).Lt m↔True:=⟨fun _=>trivial,fun _=>.ep _ _ _ _⟩
theorem KH:V.dC.Lt m↔True:=⟨fun _=>trivial,fun _=>.dC⟩
theorem KG:V.fL.Lt m↔True:=⟨fun _=>trivial,fun _=>.fL⟩
theorem Ua{id g}:(V.own id g).Lt m↔id<m:=⟨fun h=>by cases h;assumption,fun h=>.own _ _ h⟩
theorem T7{id g lo hi}:(V.sub id g lo hi).Lt m↔id<m:=⟨fun h=>by cases h;assumption,fun h=>.sub _ _ _ _ h⟩
theorem T9{id o}:(V.ptr id o).Lt m↔id<m:=⟨fun h=>by cases h;assumption,fun h=>.ptr _ _ h⟩
theorem Yh{id g i o}:(V.rp id g i o).Lt m↔id<m:=⟨fun h=>by cases h;assumption,fun h=>.rp _ _ _ _ h⟩
theorem Yi{id}:(V.mp id).Lt m↔id<m:=⟨fun h=>by cases h;assumption,fun h=>.mp _ h⟩
theorem Yj{id}:(V.it id).Lt m↔id<m:=⟨fun h=>by cases h;assumption,fun h=>.it _ h⟩
theorem Nt{xs}:(V.agg xs).Lt m↔eI m xs:=by
 rw[dS];exact⟨fun h=>by cases h;assumption,fun h=>.agg _ h⟩
theorem T6{xs}:(V.fi xs).Lt m↔eI m xs:=by
 rw[dS];exact⟨fun h=>by cases h;assumption,fun h=>.fi _ h⟩
end
theorem Wk.AP{P:Program}{xs:List V}{J loc:ae}(bj:bG J)(hx:eI J.length xs):Wk P J.length xs (J++loc) xs J:=Wk.wF (aq _) bj (dS.1 hx)
theorem bF{P:Program}{rs:List Rs}{Q:V→ae→Prop}{e:Exit}{fr:List V}{J loc:ae}{xs:List V}(bj:bG J)(he:e=.normal∨e=.ret)(hx:jt ⟨fr,J++loc⟩ rs=some xs)(hl:eI J.length xs)(hQ:Q (one xs) J):
  qd P J.length rs Q e ⟨fr,J++loc⟩:=eP he hx (Wk.AP bj hl) rfl hQ
theorem jz{P:Program}{rs:List Rs}{fr:List V}{J loc:ae}{y:V}(bj:bG J)(hx:jt ⟨fr,J++loc⟩ rs=some [y])(hl:eI J.length [y]):qd P J.length rs (fun r J'=>r=y∧J'=J) .ret ⟨fr,J++loc⟩:=bF bj (.inr rfl) hx hl ⟨rfl,rfl⟩
theorem xz{P:Program}{rs:List Rs}{Q:V→ae→Prop}{e:Exit}{fr:List V}{J loc:ae}{xs ys:List V}(bj:bG J)(he:e=.normal∨e=.ret)(hx:jt ⟨fr,J++loc⟩ rs=some xs)(hc:nU xs ys)(hl:eI J.length ys)(hQ:Q (one ys) J):
  qd P J.length rs Q e ⟨fr,J++loc⟩:=eP he hx ((Wk.gA hc).trans (Wk.AP bj hl)) hc.at.1 hQ
end Go.Pm

/- A part of a proof; the claim's last text says of what. -/
import Derived.Test.YtlakkaamfadipaaGreatDoorV13
set_option linter.all false

namespace Go.Pm
open Go Go.RowKit
def fJ(n:Nat)(P:Program)(c:bH)(K:Exit→St→Prop):Nat→St→Prop
 | 0,_=>False
 | N+1,st=>cc n P c (fun e=>match e with
  | .normal=>fJ n P c K N
  | e=>K e) st
theorem cc.wy{n:Nat}{P:Program}{c:bH}{K:Exit→St→Prop}{st:St}(N:Nat)(h:fJ n P c K N st):cc n P (.loop c) K st:=by
 intro code hc;cases code
 case loop c' =>
  simp only[eI,aj,bH.loop.injEq]at hc;obtain⟨c2,zo,rfl⟩:=hc;intro B w0 w μ a hs hf;refine o9 N (fun k a2 w2=>∃ st2 μ2,fJ n P c2 K k st2∧fF P B w0 w2 st2.J μ2∧FR w2 st2.J μ2 st2.fr a2∧eJ n w st.J μ w2 st2.J μ2) ⟨st,μ,h,hs,hf,eJ.refl _ _ _ _⟩ ?_;rintro k a2 w2 ⟨st2,μ2,Zu,Lp,Eu,po⟩;cases k with
  | zero=>exact Zu.elim
  | succ k =>
   refine wp_mono (Zu c' zo B w0 w2 μ2 a2 Lp Eu) ?_;rintro e a' w' ⟨st',μ',hK,hs',hf',hk⟩;cases e with
   | normal=>exact⟨k,Nat.lt_succ_self k,st',μ',hK,hs',hf',po.trans hk⟩
   | exit id=>exact⟨st',μ',hK,hs',hf',po.trans hk⟩
   | goto l=>exact⟨st',μ',hK,hs',hf',po.trans hk⟩
   | ret=>exact⟨st',μ',hK,hs',hf',po.trans hk⟩
   | panic c=>exact⟨st',μ',hK,hs',hf',po.trans hk⟩
   | outgrown=>exact⟨st',μ',hK,hs',hf',po.trans hk⟩
 all_goals first | (exfalso;revert hc;simp only[eI];try ((repeat' split)<;>simp);done) | (rename_i _ ops draw;exfalso;cases draw<;>simp only[eI]at hc<;>first | (obtain⟨_,_,_,h⟩:=gG hc;simp at h;done) | (rcases fP hc with⟨_,_,_,_,h,_⟩ | ⟨_,_,h,_⟩ | ⟨_,_,_,_,_,_,h,_⟩<;>simp at h;done))
def yS(id:Nat)(K:Exit→St→Prop):Exit→St→Prop
 | .exit id'=>if id'=id then K .normal else K (.exit id')
 | e=>K e
def V9(n:Nat)(P:Program)(c:bH)(K:Exit→St→Prop)(N:Nat):Exit→St→Prop
 | .normal=>fJ n P c K N
 | e=>K e
def Jf(k:St→Prop)(K:Exit→St→Prop):Exit→St→Prop
 | .normal=>k
 | e=>K e
def IF(P:Program):bH→(St→Prop)→St→Prop
 | .dC ds last gs tail,k,st=>pv P ds last (je P gs tail k) st
 | _,_,_=>False
theorem EJ{P:Program}{c:bH}{k:St→Prop}{st:St}(h:IF P c k st):∃ ds last gs tail,c=.dC ds last gs tail∧pv P ds last (je P gs tail k) st:=by
 cases c with
 | dC ds last gs tail=>exact⟨ds,last,gs,tail,rfl,h⟩
 | _=>exact h.elim
def wq(n:Nat)(P:Program):bH→(Exit→St→Prop)→St→Prop
 | .skip,K,st=>K .normal st
 | .ax gs is,K,st=>je P gs is (K .normal) st
 | .dC ds last gs tail,K,st=>pv P ds last (je P gs tail (K .normal)) st
 | .seq a b,K,st=>wq n P a (Jf (wq n P b K) K) st
 | .ite c a b,K,st=>match ev st.fr c with
  | .b x=>(x=true→wq n P a K st)∧(x=false→wq n P b K st)
  | _=>False
 | .block id c,K,st=>wq n P c (yS id K) st
 | .loop c,K,st=>cc n P (.loop c) K st
 | .exit id,K,st=>K (.exit id) st
 | .ret,K,st=>K .ret st
 | .both a b,K,st=>IF P a (K .normal) st∧IF P b (K .normal) st
 | .Oh fls ds1 ds2 last gs tail,K,st=>uf P (E6 fls) ds1 ds2 last (je P gs tail (K .normal)) (sI st.J.length fls st.fr) st.J []
theorem aB{n:Nat}{P:Program}:∀ {c:bH} {K:Exit→St→Prop} {st:St},wq n P c K st→cc n P c K st
 | .skip,_,_,h=>cc.skip h
 | .ax _ _,_,_,h=>cc.ax h
 | .dC _ _ _ _,_,_,h=>cc.dC h
 | .seq a b,K,st,h=>cc.seq ((aB (c:=a) h).mono fun e st' hk=>by
   cases e with
   | normal=>exact aB (c:=b) hk
   | _=>exact hk)
 | .ite c a b,K,st,h=>by
  simp only[wq]at h;split at h
  ·rename_i x hx;exact cc.ite hx (fun hb=>aB (h.1 hb)) fun hb=>aB (h.2 hb)
  ·exact h.elim
 | .block id c,K,st,h=>cc.block ((aB (c:=c) h).mono fun e st' hk=>by
   cases e with
   | exit id' =>
    simp only[yS]at hk;simp only[uU];split at hk<;>rename_i h1<;>simp only[h1,aO,aJ]<;>exact hk
   | _=>exact hk)
 | .loop _,_,_,h=>h
 | .exit _,_,_,h=>cc.exit h
 | .ret,_,_,h=>cc.ret h
 | .both _ _,_,_,h=>cc.both (EJ h.1) (EJ h.2)
 | .Oh ..,_,_,h=>cc.Oh h
theorem OH:E6 []=[]:=rfl
theorem KX(d T:Nat)(zs:List V)(r:List (Nat×Nat×List V)):E6 ((d,T,zs)::r)=.box T zs::E6 r:=rfl
theorem KQ:gZ []=[]:=rfl
theorem G1(o:Ob)(r:List Ob):gZ (o::r)=.dead::gZ r:=rfl
theorem Mc(n:Nat)(fr:List V):sI n [] fr=fr:=rfl
theorem Jd(n d T:Nat)(zs:List V)(r:List (Nat×Nat×List V))(fr:List V):sI n ((d,T,zs)::r) fr=sI (n+1) r (fr.set d (.ptr n 0)):=rfl
theorem Mk{n:Nat}{P:Program}{c:bH}{K:Exit→St→Prop}{N:Nat}{st:St}(h:wq n P c (V9 n P c K N) st):fJ n P c K (N+1) st:=by
 simp only[fJ];exact(aB h).mono fun e st' hk=>by cases e<;>exact hk
theorem E9{id:Nat}{K:Exit→St→Prop}:yS id K .normal=K .normal:=rfl
theorem OM{id:Nat}{K:Exit→St→Prop}:yS id K .ret=K .ret:=rfl
theorem KY{id:Nat}{K:Exit→St→Prop}:yS id K (.exit id)=K .normal:=by simp only[yS,aO]
theorem KZ{id id':Nat}{K:Exit→St→Prop}:yS id K (.exit id')=if id'=id then K .normal else K (.exit id'):=rfl
theorem Dx{k:St→Prop}{K:Exit→St→Prop}:Jf k K .normal=k:=rfl
theorem Me{k:St→Prop}{K:Exit→St→Prop}:Jf k K .ret=K .ret:=rfl
theorem Je{k:St→Prop}{K:Exit→St→Prop}{id:Nat}:Jf k K (.exit id)=K (.exit id):=rfl
def pI(r:Option (Prop×V))(d:Option Nat)(K:St→Prop)(fr:List V)(J:ae):Prop :=
 match r with
 | some (ob,v)=>ob∧K ⟨dh fr d v,J⟩
 | none=>False
def xI(r:Option (Prop×V×ae))(d:Option Nat)(K:St→Prop)(fr:List V):Prop :=
 match r with
 | some (ob,v,J')=>ob∧K ⟨dh fr d v,J'⟩
 | none=>False
def qI(r:Option (Prop×V))(c:Bool)(d:Option Nat)(K:St→Prop)(fr:List V)(J:ae):Prop :=
 match r with
 | some (ob,v)=>(c=true→ob)∧K ⟨dh fr d v,J⟩
 | none=>False
theorem PM{ob:Prop}{v:V}{d:Option Nat}{K:St→Prop}{fr:List V}{J:ae}:pI (some (ob,v)) d K fr J=(ob∧K ⟨dh fr d v,J⟩):=rfl
theorem Pq{ob:Prop}{v:V}{d:Option Nat}{K:St→Prop}{fr:List V}{J':ae}:xI (some (ob,v,J')) d K fr=(ob∧K ⟨dh fr d v,J'⟩):=rfl
theorem PI{ob:Prop}{v:V}{c:Bool}{d:Option Nat}{K:St→Prop}{fr:List V}{J:ae}:qI (some (ob,v)) c d K fr J=((c=true→ob)∧K ⟨dh fr d v,J⟩):=rfl
theorem gp{P:Program}{d:Option Nat}{i:I}{K:St→Prop}{fr:List V}{J:ae}(hs:i.cD=true):gI P ⟨d,[],i⟩ K ⟨fr,J⟩=pI (aQ fr J i) d K fr J:=by
 have hx:=sB (fr:=fr) (J:=J) hs;simp only[gI];cases i<;>first | (simp[I.cD]at hs;done) | skip
 all_goals
  simp only[iv,pI,hx];generalize aQ fr J _=r;cases r<;>rfl
theorem mj{P:Program}{d:Option Nat}{i:I}{K:St→Prop}{fr:List V}{J:ae}(hs:i.cD=false)(hc:∀ f args,i≠.call f args)(hv:∀ x args,i≠.kJ x args)(hn:∀ x,i≠.next x:=by simp):gI P ⟨d,[],i⟩ K ⟨fr,J⟩=xI (bO fr J i) d K fr:=by
 have hp:aQ fr J i=none:=by
  cases h:aQ fr J i with
  | none=>rfl
  | some r=>rw[sT h]at hs;simp at hs
 simp only[gI];cases i<;>first | (simp[I.cD]at hs;done) | exact absurd rfl (hc _ _) | exact absurd rfl (hv _ _) | exact absurd rfl (hn _) | skip
 all_goals
  simp only[iv,xI,hp];generalize bO fr J _=r;cases r<;>rfl
theorem Uz{P:Program}{d:Option Nat}{K:St→Prop}{fr:List V}{J:ae}{x:O}:gI P ⟨d,[],.aT x⟩ K ⟨fr,J⟩=pI (aQ fr J (.aT x)) d K fr J:=gp rfl
theorem Q7{P:Program}{d:Option Nat}{K:St→Prop}{fr:List V}{J:ae}{c a b:O}:gI P ⟨d,[],.pick c a b⟩ K ⟨fr,J⟩=pI (aQ fr J (.pick c a b)) d K fr J:=gp rfl
theorem N3{P:Program}{d:Option Nat}{K:St→Prop}{fr:List V}{J:ae}{zs:List V}{ps:List (Nat×Nat×O)}:gI P ⟨d,[],.build zs ps⟩ K ⟨fr,J⟩=pI (aQ fr J (.build zs ps)) d K fr J:=gp rfl
theorem KF{P:Program}{d:Option Nat}{K:St→Prop}{fr:List V}{J:ae}{sz:Nat}{szs:List (Option Nat)}{xs:List O}:gI P ⟨d,[],.bL sz szs xs⟩ K ⟨fr,J⟩=pI (aQ fr J (.bL sz szs xs)) d K fr J:=gp rfl
theorem Rj{P:Program}{d:Option Nat}{K:St→Prop}{fr:List V}{J:ae}{k:Option Nat}{a:O}:gI P ⟨d,[],.load k a⟩ K ⟨fr,J⟩=pI (aQ fr J (.load k a)) d K fr J:=gp rfl
theorem N1{P:Program}{d:Option Nat}{K:St→Prop}{fr:List V}{J:ae}{x:O}:gI P ⟨d,[],.di x⟩ K ⟨fr,J⟩=pI (aQ fr J (.di x)) d K fr J:=gp rfl
theorem UL{P:Program}{d:Option Nat}{K:St→Prop}{fr:List V}{J:ae}{op:BinOp}{x y:O}:gI P ⟨d,[],.bin op x y⟩ K ⟨fr,J⟩=pI (aQ fr J (.bin op x y)) d K fr J:=gp rfl
theorem UM{P:Program}{d:Option Nat}{K:St→Prop}{fr:List V}{J:ae}{neg:Bool}{ks:List Nat}{x y:O}:gI P ⟨d,[],.beq neg ks x y⟩ K ⟨fr,J⟩=pI (aQ fr J (.beq neg ks x y)) d K fr J:=gp rfl
theorem UN{P:Program}{d:Option Nat}{K:St→Prop}{fr:List V}{J:ae}{neg:Bool}{x y:O}:gI P ⟨d,[],.SG neg x y⟩ K ⟨fr,J⟩=pI (aQ fr J (.SG neg x y)) d K fr J:=gp rfl
theorem YF{P:Program}{d:Option Nat}{K:St→Prop}{fr:List V}{J:ae}{op:UnOp}{x:O}:gI P ⟨d,[],.un op x⟩ K ⟨fr,J⟩=pI (aQ fr J (.un op x)) d K fr J:=gp rfl
theorem UH{P:Program}{d:Option Nat}{K:St→Prop}{fr:List V}{J:ae}{k:IntKind}{x:O}:gI P ⟨d,[],.EN k x⟩ K ⟨fr,J⟩=pI (aQ fr J (.EN k x)) d K fr J:=gp rfl
theorem UO{P:Program}{d:Option Nat}{K:St→Prop}{fr:List V}{J:ae}{x:O}:gI P ⟨d,[],.C2 x⟩ K ⟨fr,J⟩=pI (aQ fr J (.C2 x)) d K fr J:=gp rfl
theorem NZ{P:Program}{d:Option Nat}{K:St→Prop}{fr:List V}{J:ae}{sz:Nat}{x:O}{lo hi:Option O}:gI P ⟨d,[],.slice sz x lo hi⟩ K ⟨fr,J⟩=pI (aQ fr J (.slice sz x lo hi)) d K fr J:=gp rfl
theorem KD{P:Program}{d:Option Nat}{K:St→Prop}{fr:List V}{J:ae}{x:O}{lo hi:Option O}:gI P ⟨d,[],.eK x lo hi⟩ K ⟨fr,J⟩=pI (aQ fr J (.eK x lo hi)) d K fr J:=gp rfl
theorem UD{P:Program}{d:Option Nat}{K:St→Prop}{fr:List V}{J:ae}{off:Nat}{x:O}:gI P ⟨d,[],.fv off x⟩ K ⟨fr,J⟩=pI (aQ fr J (.fv off x)) d K fr J:=gp rfl
theorem UC{P:Program}{d:Option Nat}{K:St→Prop}{fr:List V}{J:ae}{sz:Nat}{x i:O}:gI P ⟨d,[],.idx sz x i⟩ K ⟨fr,J⟩=pI (aQ fr J (.idx sz x i)) d K fr J:=gp rfl
theorem Q6{P:Program}{d:Option Nat}{K:St→Prop}{fr:List V}{J:ae}{x i:O}:gI P ⟨d,[],.ft x i⟩ K ⟨fr,J⟩=pI (aQ fr J (.ft x i)) d K fr J:=gp rfl
theorem UF{P:Program}{d:Option Nat}{K:St→Prop}{fr:List V}{J:ae}{k:Nat}{x:O}:gI P ⟨d,[],.ext k x⟩ K ⟨fr,J⟩=pI (aQ fr J (.ext k x)) d K fr J:=gp rfl
theorem UB{P:Program}{d:Option Nat}{K:St→Prop}{fr:List V}{J:ae}{str:Bool}{x:O}:gI P ⟨d,[],.len str x⟩ K ⟨fr,J⟩=pI (aQ fr J (.len str x)) d K fr J:=gp rfl
theorem Rh{P:Program}{d:Option Nat}{K:St→Prop}{fr:List V}{J:ae}{x y:O}:gI P ⟨d,[],.max2 x y⟩ K ⟨fr,J⟩=pI (aQ fr J (.max2 x y)) d K fr J:=gp rfl
theorem Rc{P:Program}{d:Option Nat}{K:St→Prop}{fr:List V}{J:ae}{x y:O}:gI P ⟨d,[],.min2 x y⟩ K ⟨fr,J⟩=pI (aQ fr J (.min2 x y)) d K fr J:=gp rfl
theorem Ri{P:Program}{d:Option Nat}{K:St→Prop}{fr:List V}{J:ae}{kd:Nat}{z:V}{ok:Bool}{m k:O}:gI P ⟨d,[],.look kd z ok m k⟩ K ⟨fr,J⟩=pI (aQ fr J (.look kd z ok m k)) d K fr J:=gp rfl
theorem Ra{P:Program}{d:Option Nat}{K:St→Prop}{fr:List V}{J:ae}{x:O}:gI P ⟨d,[],.xY x⟩ K ⟨fr,J⟩=pI (aQ fr J (.xY x)) d K fr J:=gp rfl
theorem UK{P:Program}{d:Option Nat}{K:St→Prop}{fr:List V}{J:ae}{T:Nat}{x:O}:gI P ⟨d,[],.box T x⟩ K ⟨fr,J⟩=xI (bO fr J (.box T x)) d K fr:=mj rfl (by simp) (by simp)
theorem N4{P:Program}{d:Option Nat}{K:St→Prop}{fr:List V}{J:ae}{T:Nat}{zs:List V}:gI P ⟨d,[],.alloc T zs⟩ K ⟨fr,J⟩=xI (bO fr J (.alloc T zs)) d K fr:=mj rfl (by simp) (by simp)
theorem NY{P:Program}{d:Option Nat}{K:St→Prop}{fr:List V}{J:ae}{k:Nat}{szs:List (Option Nat)}{a x:O}:gI P ⟨d,[],.store k szs a x⟩ K ⟨fr,J⟩=xI (bO fr J (.store k szs a x)) d K fr:=mj rfl (by simp) (by simp)
theorem UQ{P:Program}{d:Option Nat}{K:St→Prop}{fr:List V}{J:ae}{E sz by':Nat}{x y:O}:gI P ⟨d,[],.app E sz by' x y⟩ K ⟨fr,J⟩=xI (bO fr J (.app E sz by' x y)) d K fr:=mj rfl (by simp) (by simp)
theorem Rm{P:Program}{d:Option Nat}{K:St→Prop}{fr:List V}{J:ae}{E:Nat}{x y:O}:gI P ⟨d,[],.apps E x y⟩ K ⟨fr,J⟩=xI (bO fr J (.apps E x y)) d K fr:=mj rfl (by simp) (by simp)
theorem YG{P:Program}{d:Option Nat}{K:St→Prop}{fr:List V}{J:ae}{E sz by':Nat}{zs:List V}{l c:O}:gI P ⟨d,[],.mk E sz by' zs l c⟩ K ⟨fr,J⟩=xI (bO fr J (.mk E sz by' zs l c)) d K fr:=mj rfl (by simp) (by simp)
theorem Rl{P:Program}{d:Option Nat}{K:St→Prop}{fr:List V}{J:ae}{E sz by':Nat}{szs:List (Option Nat)}{xs:List O}:gI P ⟨d,[],.Ha E sz by' szs xs⟩ K ⟨fr,J⟩=xI (bO fr J (.Ha E sz by' szs xs)) d K fr:=mj rfl (by simp) (by simp)
theorem N2{P:Program}{d:Option Nat}{K:St→Prop}{fr:List V}{J:ae}{T E:Nat}:gI P ⟨d,[],.lF T E⟩ K ⟨fr,J⟩=xI (bO fr J (.lF T E)) d K fr:=mj rfl (by simp) (by simp)
theorem Q9{P:Program}{d:Option Nat}{K:St→Prop}{fr:List V}{J:ae}{kd:Nat}{szs:List (Option Nat)}{m k x:O}:gI P ⟨d,[],.uw kd szs m k x⟩ K ⟨fr,J⟩=xI (bO fr J (.uw kd szs m k x)) d K fr:=mj rfl (by simp) (by simp)
theorem Rn{P:Program}{d:Option Nat}{K:St→Prop}{fr:List V}{J:ae}{n sz:Nat}{x i:O}:gI P ⟨d,[],.Fc n sz x i⟩ K ⟨fr,J⟩=pI (aQ fr J (.Fc n sz x i)) d K fr J:=gp rfl
theorem UP{P:Program}{d:Option Nat}{K:St→Prop}{fr:List V}{J:ae}{n:Nat}{x:O}:gI P ⟨d,[],.VD n x⟩ K ⟨fr,J⟩=pI (aQ fr J (.VD n x)) d K fr J:=gp rfl
theorem UJ{P:Program}{d:Option Nat}{K:St→Prop}{fr:List V}{J:ae}{f:Nat}{xs:List O}:gI P ⟨d,[],.Pf f xs⟩ K ⟨fr,J⟩=pI (aQ fr J (.Pf f xs)) d K fr J:=gp rfl
theorem UI{P:Program}{d:Option Nat}{K:St→Prop}{fr:List V}{J:ae}{sz:Nat}{zs:List V}{x:O}:gI P ⟨d,[],.ET sz zs x⟩ K ⟨fr,J⟩=xI (bO fr J (.ET sz zs x)) d K fr:=mj rfl (by simp) (by simp)
section
variable {P:Program} {d:Option Nat} {K:St→Prop} {fr:List V} {J:ae}
theorem UG{x:O}:gI P ⟨d,[],.KN x⟩ K ⟨fr,J⟩=pI (aQ fr J (.KN x)) d K fr J:=gp rfl
theorem Q5{off:Nat}{x:O}:gI P ⟨d,[],.IX off x⟩ K ⟨fr,J⟩=pI (aQ fr J (.IX off x)) d K fr J:=gp rfl
theorem Q4{n:Nat}{x i:O}:gI P ⟨d,[],.IW n x i⟩ K ⟨fr,J⟩=pI (aQ fr J (.IW n x i)) d K fr J:=gp rfl
theorem UA{E by':Nat}{l c:O}:gI P ⟨d,[],.Tj E by' l c⟩ K ⟨fr,J⟩=xI (bO fr J (.Tj E by' l c)) d K fr:=mj rfl (by simp) (by simp)
theorem NX{x y:O}:gI P ⟨d,[],.Ay x y⟩ K ⟨fr,J⟩=pI (aQ fr J (.Ay x y)) d K fr J:=gp rfl
theorem Rk{sz:Nat}{x h m:O}:gI P ⟨d,[],.clip sz x h m⟩ K ⟨fr,J⟩=pI (aQ fr J (.clip sz x h m)) d K fr J:=gp rfl
theorem Rg{kd:Nat}{m k:O}:gI P ⟨d,[],.Ge kd m k⟩ K ⟨fr,J⟩=xI (bO fr J (.Ge kd m k)) d K fr:=mj rfl (by simp) (by simp)
theorem Rf{kd:Nat}{z:V}{m k:O}:gI P ⟨d,[],.s0 kd z m k⟩ K ⟨fr,J⟩=xI (bO fr J (.s0 kd z m k)) d K fr:=mj rfl (by simp) (by simp)
theorem Re{szs:List (Option Nat)}{m s x:O}:gI P ⟨d,[],.sZ szs m s x⟩ K ⟨fr,J⟩=xI (bO fr J (.sZ szs m s x)) d K fr:=mj rfl (by simp) (by simp)
theorem N0{x:O}:gI P ⟨d,[],.range x⟩ K ⟨fr,J⟩=xI (bO fr J (.range x)) d K fr:=mj rfl (by simp) (by simp)
def nI(r:Option (Nat×Nat×Nat×Nat×List Nat))(d:Option Nat)(K:St→Prop)(fr:List V)(J:ae):Prop :=
 match r with
 | some (j,m,E,n,ps)=>(ps=[]→K ⟨dh fr d (.fu [.b false]),J⟩)∧∀ q∈ps,K ⟨dh fr d (.fu [.b true,.u,.u]),J.set j (.iter false m E n (ps.filter fun i=>i != q) (some q))⟩
 | none=>False
theorem PS{j m E n:Nat}{ps:List Nat}:nI (some (j,m,E,n,ps)) d K fr J=((ps=[]→K ⟨dh fr d (.fu [.b false]),J⟩)∧∀ q∈ps,K ⟨dh fr d (.fu [.b true,.u,.u]),J.set j (.iter false m E n (ps.filter fun i=>i != q) (some q))⟩):=rfl
theorem Q8{x:O}:gI P ⟨d,[],.next x⟩ K ⟨fr,J⟩=nI (xX J (ev fr x)) d K fr J:=by
 simp only[gI,iv,nI];generalize xX J (ev fr x)=r;cases r<;>rfl
end
def gX(p:Pi)(r:Option Bool)(K:St→Prop)(fr:List V)(J:ae):Prop :=
 match r with
 | none=>False
 | some c=>match p.i with
  | .load k a=>match ev fr a with
   | .ptr _ _=>qI (aQ fr J (.load k a)) c p.d K fr J
   | _=>∃ v,(c=true→∃ ob,aQ fr J (.load k a)=some (ob,v)∧ob)∧K ⟨dh fr p.d v,J⟩
  | i=>qI (aQ fr J i) c p.d K fr J
theorem iX{P:Program}{p:Pi}{K:St→Prop}{fr:List V}{J:ae}(hg:p.g≠[])(hc:(∀ f args,p.i≠.call f args)∧∀ x args,p.i≠.kJ x args):gI P p K ⟨fr,J⟩=gX p (chainB fr p.g) K fr J:=by
 obtain⟨d,g,i⟩:=p;cases g with
 | nil=>exact absurd rfl hg
 | cons q qs =>
  simp only[gI,gX];cases chainB fr (q::qs)with
  | none=>rfl
  | some c =>
   simp only[tk];cases i<;>first | rfl | exact absurd rfl (hc.1 _ _) | exact absurd rfl (hc.2 _ _)
theorem Um{P:Program}{d:Option Nat}{q:Nat×Bool}{qs:List (Nat×Bool)}{K:St→Prop}{fr:List V}{J:ae}{x:O}:gI P ⟨d,q::qs,.aT x⟩ K ⟨fr,J⟩=gX ⟨d,q::qs,.aT x⟩ (chainB fr (q::qs)) K fr J:=iX (by simp) (by simp)
theorem QX{P:Program}{d:Option Nat}{q:Nat×Bool}{qs:List (Nat×Bool)}{K:St→Prop}{fr:List V}{J:ae}{c a b:O}:gI P ⟨d,q::qs,.pick c a b⟩ K ⟨fr,J⟩=gX ⟨d,q::qs,.pick c a b⟩ (chainB fr (q::qs)) K fr J:=iX (by simp) (by simp)
theorem NU{P:Program}{d:Option Nat}{q:Nat×Bool}{qs:List (Nat×Bool)}{K:St→Prop}{fr:List V}{J:ae}{zs:List V}{ps:List (Nat×Nat×O)}:gI P ⟨d,q::qs,.build zs ps⟩ K ⟨fr,J⟩=gX ⟨d,q::qs,.build zs ps⟩ (chainB fr (q::qs)) K fr J:=iX (by simp) (by simp)
theorem KB{P:Program}{d:Option Nat}{q:Nat×Bool}{qs:List (Nat×Bool)}{K:St→Prop}{fr:List V}{J:ae}{sz:Nat}{szs:List (Option Nat)}{xs:List O}:gI P ⟨d,q::qs,.bL sz szs xs⟩ K ⟨fr,J⟩=gX ⟨d,q::qs,.bL sz szs xs⟩ (chainB fr (q::qs)) K fr J:=iX (by simp) (by simp)
theorem Q2{P:Program}{d:Option Nat}{q:Nat×Bool}{qs:List (Nat×Bool)}{K:St→Prop}{fr:List V}{J:ae}{k:Option Nat}{a:O}:gI P ⟨d,q::qs,.load k a⟩ K ⟨fr,J⟩=gX ⟨d,q::qs,.load k a⟩ (chainB fr (q::qs)) K fr J:=iX (by simp) (by simp)
theorem NT{P:Program}{d:Option Nat}{q:Nat×Bool}{qs:List (Nat×Bool)}{K:St→Prop}{fr:List V}{J:ae}{x:O}:gI P ⟨d,q::qs,.di x⟩ K ⟨fr,J⟩=gX ⟨d,q::qs,.di x⟩ (chainB fr (q::qs)) K fr J:=iX (by simp) (by simp)
theorem Us{P:Program}{d:Option Nat}{q:Nat×Bool}{qs:List (Nat×Bool)}{K:St→Prop}{fr:List V}{J:ae}{op:BinOp}{x y:O}:gI P ⟨d,q::qs,.bin op x y⟩ K ⟨fr,J⟩=gX ⟨d,q::qs,.bin op x y⟩ (chainB fr (q::qs)) K fr J:=iX (by simp) (by simp)
theorem Ut{P:Program}{d:Option Nat}{q:Nat×Bool}{qs:List (Nat×Bool)}{K:St→Prop}{fr:List V}{J:ae}{neg:Bool}{ks:List Nat}{x y:O}:gI P ⟨d,q::qs,.beq neg ks x y⟩ K ⟨fr,J⟩=gX ⟨d,q::qs,.beq neg ks x y⟩ (chainB fr (q::qs)) K fr J:=iX (by simp) (by simp)
theorem Uu{P:Program}{d:Option Nat}{q:Nat×Bool}{qs:List (Nat×Bool)}{K:St→Prop}{fr:List V}{J:ae}{neg:Bool}{x y:O}:gI P ⟨d,q::qs,.SG neg x y⟩ K ⟨fr,J⟩=gX ⟨d,q::qs,.SG neg x y⟩ (chainB fr (q::qs)) K fr J:=iX (by simp) (by simp)
theorem YE{P:Program}{d:Option Nat}{q:Nat×Bool}{qs:List (Nat×Bool)}{K:St→Prop}{fr:List V}{J:ae}{op:UnOp}{x:O}:gI P ⟨d,q::qs,.un op x⟩ K ⟨fr,J⟩=gX ⟨d,q::qs,.un op x⟩ (chainB fr (q::qs)) K fr J:=iX (by simp) (by simp)
theorem Ur{P:Program}{d:Option Nat}{q:Nat×Bool}{qs:List (Nat×Bool)}{K:St→Prop}{fr:List V}{J:ae}{k:IntKind}{x:O}:gI P ⟨d,q::qs,.EN k x⟩ K ⟨fr,J⟩=gX ⟨d,q::qs,.EN k x⟩ (chainB fr (q::qs)) K fr J:=iX (by simp) (by simp)
theorem Uv{P:Program}{d:Option Nat}{q:Nat×Bool}{qs:List (Nat×Bool)}{K:St→Prop}{fr:List V}{J:ae}{x:O}:gI P ⟨d,q::qs,.C2 x⟩ K ⟨fr,J⟩=gX ⟨d,q::qs,.C2 x⟩ (chainB fr (q::qs)) K fr J:=iX (by simp) (by simp)
theorem NS{P:Program}{d:Option Nat}{q:Nat×Bool}{qs:List (Nat×Bool)}{K:St→Prop}{fr:List V}{J:ae}{sz:Nat}{x:O}{lo hi:Option O}:gI P ⟨d,q::qs,.slice sz x lo hi⟩ K ⟨fr,J⟩=gX ⟨d,q::qs,.slice sz x lo hi⟩ (chainB fr (q::qs)) K fr J:=iX (by simp) (by simp)
theorem KA{P:Program}{d:Option Nat}{q:Nat×Bool}{qs:List (Nat×Bool)}{K:St→Prop}{fr:List V}{J:ae}{x:O}{lo hi:Option O}:gI P ⟨d,q::qs,.eK x lo hi⟩ K ⟨fr,J⟩=gX ⟨d,q::qs,.eK x lo hi⟩ (chainB fr (q::qs)) K fr J:=iX (by simp) (by simp)
theorem Up{P:Program}{d:Option Nat}{q:Nat×Bool}{qs:List (Nat×Bool)}{K:St→Prop}{fr:List V}{J:ae}{off:Nat}{x:O}:gI P ⟨d,q::qs,.fv off x⟩ K ⟨fr,J⟩=gX ⟨d,q::qs,.fv off x⟩ (chainB fr (q::qs)) K fr J:=iX (by simp) (by simp)
theorem Uo{P:Program}{d:Option Nat}{q:Nat×Bool}{qs:List (Nat×Bool)}{K:St→Prop}{fr:List V}{J:ae}{sz:Nat}{x i:O}:gI P ⟨d,q::qs,.idx sz x i⟩ K ⟨fr,J⟩=gX ⟨d,q::qs,.idx sz x i⟩ (chainB fr (q::qs)) K fr J:=iX (by simp) (by simp)
theorem QW{P:Program}{d:Option Nat}{q:Nat×Bool}{qs:List (Nat×Bool)}{K:St→Prop}{fr:List V}{J:ae}{x i:O}:gI P ⟨d,q::qs,.ft x i⟩ K ⟨fr,J⟩=gX ⟨d,q::qs,.ft x i⟩ (chainB fr (q::qs)) K fr J:=iX (by simp) (by simp)
theorem Uq{P:Program}{d:Option Nat}{q:Nat×Bool}{qs:List (Nat×Bool)}{K:St→Prop}{fr:List V}{J:ae}{k:Nat}{x:O}:gI P ⟨d,q::qs,.ext k x⟩ K ⟨fr,J⟩=gX ⟨d,q::qs,.ext k x⟩ (chainB fr (q::qs)) K fr J:=iX (by simp) (by simp)
theorem Un{P:Program}{d:Option Nat}{q:Nat×Bool}{qs:List (Nat×Bool)}{K:St→Prop}{fr:List V}{J:ae}{str:Bool}{x:O}:gI P ⟨d,q::qs,.len str x⟩ K ⟨fr,J⟩=gX ⟨d,q::qs,.len str x⟩ (chainB fr (q::qs)) K fr J:=iX (by simp) (by simp)
theorem Q0{P:Program}{d:Option Nat}{q:Nat×Bool}{qs:List (Nat×Bool)}{K:St→Prop}{fr:List V}{J:ae}{x y:O}:gI P ⟨d,q::qs,.max2 x y⟩ K ⟨fr,J⟩=gX ⟨d,q::qs,.max2 x y⟩ (chainB fr (q::qs)) K fr J:=iX (by simp) (by simp)
theorem QZ{P:Program}{d:Option Nat}{q:Nat×Bool}{qs:List (Nat×Bool)}{K:St→Prop}{fr:List V}{J:ae}{x y:O}:gI P ⟨d,q::qs,.min2 x y⟩ K ⟨fr,J⟩=gX ⟨d,q::qs,.min2 x y⟩ (chainB fr (q::qs)) K fr J:=iX (by simp) (by simp)
theorem Q1{P:Program}{d:Option Nat}{q:Nat×Bool}{qs:List (Nat×Bool)}{K:St→Prop}{fr:List V}{J:ae}{kd:Nat}{z:V}{ok:Bool}{m k:O}:gI P ⟨d,q::qs,.look kd z ok m k⟩ K ⟨fr,J⟩=gX ⟨d,q::qs,.look kd z ok m k⟩ (chainB fr (q::qs)) K fr J:=iX (by simp) (by simp)
theorem Q3{P:Program}{d:Option Nat}{q:Nat×Bool}{qs:List (Nat×Bool)}{K:St→Prop}{fr:List V}{J:ae}{n sz:Nat}{x i:O}:gI P ⟨d,q::qs,.Fc n sz x i⟩ K ⟨fr,J⟩=gX ⟨d,q::qs,.Fc n sz x i⟩ (chainB fr (q::qs)) K fr J:=iX (by simp) (by simp)
theorem QY{P:Program}{d:Option Nat}{q:Nat×Bool}{qs:List (Nat×Bool)}{K:St→Prop}{fr:List V}{J:ae}{x:O}:gI P ⟨d,q::qs,.xY x⟩ K ⟨fr,J⟩=gX ⟨d,q::qs,.xY x⟩ (chainB fr (q::qs)) K fr J:=iX (by simp) (by simp)
theorem aC{P:Program}{d:Option Nat}{f:Nat}{args:List O}{K:St→Prop}{fr:List V}{J σ1:ae}{as:List V}{v:V}(h:PC P f as J (fun r J'=>r=v∧J'=σ1))(ha:args.map (ev fr)=as)(hK:K ⟨dh fr d v,σ1⟩):
  gI P ⟨d,[],.call f args⟩ K ⟨fr,J⟩:=by
 subst ha;exact h.mono fun r J' ⟨e1,e2⟩=>by subst e1;subst e2;exact hK
theorem EY{P:Program}{d:Option Nat}{f:Nat}{x:O}{args:List O}{K:St→Prop}{fr caps:List V}{J σ1:ae}{as:List V}{v:V}(hx:ev fr x=.fn f caps)(hf:DY P f=true)(h:PC P f as J (fun r J'=>r=v∧J'=σ1))(ha:args.map (ev fr)++caps=as)(hK:K ⟨dh fr d v,σ1⟩):
  gI P ⟨d,[],.kJ x args⟩ K ⟨fr,J⟩:=by
 subst ha;simp only[gI,iv,hx];exact⟨hf,h.mono fun r J' ⟨e1,e2⟩=>by subst e1;subst e2;exact hK⟩
theorem db{P:Program}{d:Option Nat}{f:Nat}{args:List O}{K:St→Prop}{fr:List V}{J:ae}{as:List V}{Q:V→ae→Prop}(h:PC P f as J Q)(ha:args.map (ev fr)=as)(hK:∀ r J',Q r J'→K ⟨dh fr d r,J'⟩):
  gI P ⟨d,[],.call f args⟩ K ⟨fr,J⟩:=by
 subst ha;exact h.mono hK
theorem cn{P:Program}{d:Option Nat}{q:Nat×Bool}{qs:List (Nat×Bool)}{f:Nat}{args:List O}{K:St→Prop}{fr:List V}{J:ae}{as:List V}{v:V}{c:Bool}(hc:chainB fr (q::qs)=some c)(h:c=true→PC P f as J (fun r J'=>r=v∧J'=J))(ha:args.map (ev fr)=as)(hK:K ⟨dh fr d v,J⟩):
  gI P ⟨d,q::qs,.call f args⟩ K ⟨fr,J⟩:=by
 subst ha;simp only[gI,hc,tk];exact⟨fun hc=>(h hc).mono fun r' J' ⟨e1,e2⟩=>by subst e1;subst e2;exact hK,fun _=>⟨v,hK⟩⟩
theorem qV{P:Program}{d:Option Nat}{q:Nat×Bool}{qs:List (Nat×Bool)}{x:O}{args:List O}{K:St→Prop}{fr:List V}{J:ae}{v:V}{c:Bool}(hc:chainB fr (q::qs)=some c)
  (h:c=true→∃ f caps,ev fr x=.fn f caps∧DY P f=true∧PC P f (args.map (ev fr)++caps) J (fun r J'=>r=v∧J'=J)) (hK:K ⟨dh fr d v,J⟩):gI P ⟨d,q::qs,.kJ x args⟩ K ⟨fr,J⟩:=by
 simp only[gI,hc,tk];refine⟨fun hc=>?_,fun _=>⟨v,hK⟩⟩;obtain⟨f,caps,h1,h2,h3⟩:=h hc;rw[h1];exact⟨h2,h3.mono fun r' J' ⟨e1,e2⟩=>by subst e1;subst e2;exact hK⟩
theorem E1{P:Program}{d:Option Nat}{q:Nat×Bool}{qs:List (Nat×Bool)}{f:Nat}{args:List O}{K:St→Prop}{fr:List V}{J:ae}{as:List V}{Q:V→ae→Prop}{c:Bool}(hc:chainB fr (q::qs)=some c)(h:c=true→PC P f as J Q)(ha:args.map (ev fr)=as)
  (hK:c=true→∀ r J',Q r J'→K ⟨dh fr d r,J'⟩) (hN:c=false→∃ v,K ⟨dh fr d v,J⟩):gI P ⟨d,q::qs,.call f args⟩ K ⟨fr,J⟩:=by
 subst ha;simp only[gI,hc,tk];exact⟨fun hc=>(h hc).mono (hK hc),hN⟩
def U4(P:Program)(chk:List Pi)(ds:List (List Pi×Pi×List Pi))(last:List Pi)(K:St→Prop)(st:St):Prop:=(∀ p∈chk,yL p st)∧pv P ds last K st
def jB:ae→List Ob→List Ob→List Ob→(ae→ae→Prop)→Prop
 | τ,[],[],s,K=>K τ s
 | τ,[],X::Xs,Y::s,K=>X=Y∧jB τ [] Xs s K
 | τ,_::a,Xs,y::s,K=>jB (τ++[y]) a Xs s K
 | _,_,_,_,_=>False
theorem rX:∀ {a:List Ob} {τ:ae} {Xs s:List Ob} {K:ae→ae→Prop},jB τ a Xs s K↔∃ a' ε,a'.length=a.length∧s=a'++(Xs++ε)∧K (τ++a') ε
 | [],τ,[],s,K=>by
  simp only[jB];constructor
  ·intro h;exact⟨[],s,rfl,rfl,by simpa using h⟩
  ·rintro⟨a',ε,h1,rfl,h2⟩;obtain rfl:=aL h1;simpa using h2
 | [],τ,X::Xs,[],K=>by
  simp only[jB,OW];rintro⟨a',ε,h1,h2,_⟩;simp at h2
 | [],τ,X::Xs,Y::s,K=>by
  simp only[jB,rX (a:=[]) (Xs:=Xs)];constructor
  ·rintro⟨rfl,a',ε,h1,rfl,h2⟩;obtain rfl:=aL h1;exact⟨[],ε,rfl,rfl,h2⟩
  ·rintro⟨a',ε,h1,h2,h3⟩;obtain rfl:=aL h1;simp only[aW,bg,fq]at h2;exact⟨h2.1.symm,[],ε,rfl,h2.2,h3⟩
 | x::a,τ,Xs,[],K=>by
  simp only[jB,OW];rintro⟨a',ε,h1,h2,_⟩;cases a' with
  | nil=>simp at h1
  | cons y a'=>simp at h2
 | x::a,τ,Xs,y::s,K=>by
  simp only[jB,rX (a:=a) (Xs:=Xs)];constructor
  ·rintro⟨a',ε,h1,rfl,h2⟩;exact⟨y::a',ε,by simp[h1],rfl,by simpa using h2⟩
  ·rintro⟨a',ε,h1,h2,h3⟩;cases a' with
   | nil=>simp at h1
   | cons z a' =>
    simp only[bg,fq]at h2;obtain⟨rfl,rfl⟩:=h2;exact⟨a',ε,by simpa using h1,rfl,by simpa using h3⟩
theorem grown_of{J J':ae}{a Xs b:List Ob}{K:ae→ae→Prop}(hl:J'.length=J.length):grown (J++a) Xs (J'++b) K=jB J' a Xs b K:=by
 rw[Ve,rX,grown];constructor
 ·rintro⟨τ',ε,h1,h2,h3⟩;have e:=List.append_eq_append_iff.1 h2;rcases e with⟨c,rfl,rfl⟩ | ⟨c,rfl,h4⟩
  ·exact⟨c,ε,by simp[hl]at h1;exact h1,rfl,h3⟩
  ·have hc:c=[]:=aL (by simp at h1 hl;omega);subst hc;simp only[bV,aW]at h1 h4 hl h3;have ha:a.length=0:=by simp at h1;omega
   exact⟨[],ε,by simp[ha],h4.symm,by simpa using h3⟩
 ·rintro⟨a',ε,h1,rfl,h2⟩;exact⟨J'++a',ε,by simp[h1,hl],by simp,h2⟩
theorem NQ{J:ae}{a Xs b:List Ob}{K:ae→ae→Prop}:grown (J++a) Xs (J++b) K=jB J a Xs b K:=grown_of rfl
theorem Kx{J:ae}{Xs b:List Ob}{K:ae→ae→Prop}:grown J Xs (J++b) K=jB J [] Xs b K:=by
 have:=grown_of (J:=J) (J':=J) (a:=[]) (Xs:=Xs) (b:=b) (K:=K) rfl
 rwa [bV]at this
theorem GM{τ:ae}{s:List Ob}{K:ae→ae→Prop}:jB τ [] [] s K=K τ s:=by cases s<;>rfl
theorem GN{τ:ae}{X Y:Ob}{Xs s:List Ob}{K:ae→ae→Prop}:jB τ [] (X::Xs) (Y::s) K=(X=Y∧jB τ [] Xs s K):=rfl
theorem GL{τ:ae}{x y:Ob}{a Xs s:List Ob}{K:ae→ae→Prop}:jB τ (x::a) Xs (y::s) K=jB (τ++[y]) a Xs s K:=by cases Xs<;>rfl
def V6(P:Program)(bx:List Ob)(chk:List Pi)(ds1 ds2:List (List Pi×Pi×List Pi))(last:List Pi)(K:St→Prop)(τ:ae)(Xs:List Ob)(st:St):Prop:=(∀ p∈chk,yL p st)∧grown τ Xs st.J (uf P bx ds1 ds2 last K st.fr)
def V4(P:Program)(bx:List Ob)(L:Pi)(chk:List Pi)(ds1 ds2:List (List Pi×Pi×List Pi))(last:List Pi)(K:St→Prop)(τ ε:ae)(st:St):Prop:=Hd bx fun Xs=>gI P L (V6 P bx chk ds1 ds2 last K τ Xs) ⟨st.fr,τ++(Xs++ε)⟩
def V3(P:Program)(L:Pi)(chk:List Pi)(ds:List (List Pi×Pi×List Pi))(last:List Pi)(K:St→Prop)(τ:ae)(st:St):Prop:=gI P L (U4 P chk ds last K) ⟨st.fr,τ⟩
def Sj(K:St→Prop)(τ:ae)(st:St):Prop:=K ⟨st.fr,τ⟩
section
variable {P:Program} {bx:List Ob} {CX last:List Pi} {L:Pi} {chk:List Pi} {ds1 ds2:List (List Pi×Pi×List Pi)} {K:St→Prop} {fr:List V} {τ ε:ae}
theorem Mh:uf P bx [] [] last K fr τ ε=je P [] last (Sj K (τ++(bx++ε))) ⟨fr,τ++(gZ bx++ε)⟩:=rfl
theorem Jj:uf P bx [] ((CX,L,chk)::ds2) last K fr τ ε=je P [] CX (V3 P L chk ds2 last K (τ++(bx++ε))) ⟨fr,τ++(gZ bx++ε)⟩:=rfl
theorem Jk:uf P bx ((CX,L,chk)::ds1) ds2 last K fr τ ε=je P [] CX (V4 P bx L chk ds1 ds2 last K τ ε) ⟨fr,τ++(gZ bx++ε)⟩:=by cases ds2<;>rfl
end
theorem Mi{P:Program}{last:List Pi}{K:St→Prop}{st:St}:pv P [] last K st=je P [] last K st:=rfl
theorem Jl{P:Program}{CX:List Pi}{L:Pi}{chk:List Pi}{ds:List (List Pi×Pi×List Pi)}{last:List Pi}{K:St→Prop}{st:St}:
  pv P ((CX,L,chk)::ds) last K st=je P [] CX (gI P L (U4 P chk ds last K)) st:=rfl
theorem Mj{P:Program}{gs:List Nat}{K:St→Prop}{fr:List V}{J:ae}:je P gs [] K ⟨fr,J⟩=K ⟨ET gs fr,J⟩:=rfl
theorem Jm{P:Program}{gs:List Nat}{p:Pi}{ps:List Pi}{K:St→Prop}{fr:List V}{J:ae}:je P gs (p::ps) K ⟨fr,J⟩=gI P p (je P gs ps K) ⟨fr,J⟩:=rfl
theorem gk{J l:ae}:(J++l)[J.length]?=l[0]?:=by rw[aH (au _),eT]
theorem tM{J l:ae}{k:Nat}:(J++l)[J.length+k]?=l[k]?:=by rw[aH (OZ _ _),cR]
theorem K4{J l:ae}{x:Ob}:(J++l).set J.length x=J++l.set 0 x:=by rw[cI _ _ (au _),eT]
theorem yV{J l:ae}{k:Nat}{x:Ob}:(J++l).set (J.length+k) x=J++l.set k x:=by
 rw[cI _ _ (OZ _ _),cR]
theorem OP{J l:ae}:(J++l).length=J.length+l.length:=ak
def rf(id g sz:Nat)(rows:List (List V)):V→V
 | .own id' g'=>if id'=id∧g'=g then .sl sz rows else .own id' g'
 | .sub id' g' lo hi=>if id'=id∧g'=g then .sl sz ((rows.drop lo).take (hi - lo))else .sub id' g' lo hi
 | x=>x
def fz(id g sz:Nat)(rows:List (List V)):V→V
 | .agg xs=>.agg (xs.map (rf id g sz rows))
 | x=>rf id g sz rows x
theorem N5{P:Program}{B:Nat}{w0 w:World}{J:ae}{μ:Mem}(hS:fF P B w0 w J μ){id E sz by' g:Nat}{rows:List (List V)}(ho:J[id]?=some (.row E sz by' g true rows)){x:V}{v:Value}(h:VR w J μ x v):
  VR w J μ (rf id g sz rows x) v:=by
 unfold rf;split
 ·split
  ·rename_i e;obtain⟨rfl,rfl⟩:=e;rw[h.jS ho];have:=VR.sV hS ho 0 rows.length (by omega) (au _);rw[Dq hS ho]at this;simpa using this
  ·exact h
 ·split
  ·rename_i e;obtain⟨rfl,rfl⟩:=e;obtain⟨h1,h2,h3⟩:=h.oI ho;rw[h3];exact VR.sV hS ho _ _ h1 h2
  ·exact h
 ·exact h
theorem YI{P:Program}{B:Nat}{w0 w:World}{J:ae}{μ:Mem}(hS:fF P B w0 w J μ){id E sz by' g:Nat}{rows:List (List V)}(ho:J[id]?=some (.row E sz by' g true rows)){x:V}{v:Value}(h:VR w J μ x v):
  VR w J μ (fz id g sz rows x) v:=by
 unfold fz;split
 ·rename_i xs;obtain⟨vs,rfl,h1,h2⟩:=h.gA;refine .agg _ _ (by simpa using h1) fun i y hy=>?_;rw[bf,aj]at hy;obtain⟨z,hz,rfl⟩:=hy;exact N5 hS ho (h2 i z hz)
 ·exact N5 hS ho h
theorem Wk.fz{P:Program}{n:Nat}{xs:List V}{J:ae}(id:Nat){E sz by' g:Nat}{sh:Bool}{rows:List (List V)}(ho:J[id]?=some (.row E sz by' g sh rows)):
  Wk P n xs J (xs.map (Pm.fz id g sz rows)) (J.set id (.row E sz by' g true rows)):=by
 refine Wk.trans (Wk.share ho) ?_;have dp:id<J.length:=(ab.1 ho).1;intro B w0 w μ vs hS hC;refine⟨μ,hS,⟨by simp[hC.1],fun i y hy=>?_⟩,eJ.refl _ _ _ _⟩;rw[bf,aj]at hy;obtain⟨z,hz,rfl⟩:=hy;exact YI hS (by rw[ao dp]) (hC.2 i z hz)
theorem Wk.one{P:Program}{n:Nat}{xs xs':List V}{J J':ae}(h:Wk P n xs J xs' J')(hl:xs'.length=xs.length):Wk P n [Pm.one xs] J [Pm.one xs'] J':=by
 intro B w0 w μ vs hS hC;have h0:=hC.2 0 _ rfl
 have fin:∀ {w':World} {ys:List V} {us:Array Value} {μ':Mem},CR w' J' μ' ys us→ys.length≠1→VR w' J' μ' (Pm.one ys) (.tuple us):=by
  intro w' ys us μ' h1 h2
  match ys,h1,h2 with
  | [],h1,_=>exact .fu _ _ h1.1 h1.2
  | x::y::ys,h1,_=>exact .fu _ _ h1.1 h1.2
  | [x],_,h2=>exact absurd rfl h2
 by_cases h1:xs.length=1
 ·match xs,h1,h,hl,h0 with
  | [x],_,h,hl,h0 =>
   match xs',hl,h with
   | [x'],_,h =>
    exact h B w0 w μ vs hS ⟨hC.1,fun i y hy=>hC.2 i y hy⟩
 ·have hx:Pm.one xs=.fu xs:=by
   match xs,h1 with
   | [],_=>rfl
   | x::y::xs,_=>rfl
   | [x],h1=>exact absurd rfl h1
  rw[hx]at h0;obtain⟨us,hv,h2,h3⟩:=h0.Ct;obtain⟨μ',h4,h5,h6⟩:=h B w0 w μ us hS ⟨h2,h3⟩;refine⟨μ',h4,⟨hC.1,fun i y hy=>?_⟩,h6⟩;cases i with
  | zero =>
   simp only[aq,aa]at hy;subst hy;rw[hv];exact fin h5 (by rw[hl];exact h1)
  | succ i=>simp at hy
theorem fM{P:Program}{n:Nat}{rs:List Rs}{Q:V→ae→Prop}{e:Exit}{st:St}{xs xs':List V}{J':ae}(he:e=.normal∨e=.ret)(hx:kn st rs=some xs)(hw:Wk P n xs st.J xs' J')(hl:xs'.length=xs.length)(hQ:Q (one xs') J'):
  rM P n rs Q e st:=⟨he,xs,hx,_,_,hw.one hl,hQ⟩
def eQ(m:Nat):List V→Prop
 | []=>True
 | x::xs=>x.Lt m∧eQ m xs
theorem eG{m:Nat}:∀ {xs:List V},eQ m xs↔∀ (i:Nat) (x:V),xs[i]?=some x→x.Lt m
 | []=>by simp[eQ]
 | y::xs=>by
  rw[eQ,eG];constructor
  ·rintro⟨h1,h2⟩ i x hx;cases i with
   | zero=>simp only[aq,aa]at hx;subst hx;exact h1
   | succ i=>exact h2 i x (by simpa using hx)
  ·intro h;exact⟨h 0 y rfl,fun i x hx=>h (i+1) x (by simpa using hx)⟩
section
variable {m:Nat}
theorem ZL:V.u.Lt m↔True:=⟨fun _=>trivial,fun _=>.u⟩
theorem ZM{x}:(V.b x).Lt m↔True:=⟨fun _=>trivial,fun _=>.b _⟩
theorem PX{k a}:(V.i k a).Lt m↔True:=⟨fun _=>trivial,fun _=>.i _ _⟩
theorem Tn{l}:(V.s l).Lt m↔True:=⟨fun _=>trivial,fun _=>.s _⟩
theorem Tq:V.nil.Lt m↔True:=⟨fun _=>trivial,fun _=>.nil⟩
theorem Tr{sz xs}:(V.lit sz xs).Lt m↔True:=⟨fun _=>trivial,fun _=>.lit _ _⟩
theorem vo{sz xs}:(V.sl sz xs).Lt m↔True:=⟨fun _=>trivial,fun _=>.sl _ _⟩
theorem XE{sz xs i o}:(V.ep sz xs i o).Lt m↔True:=⟨fun _=>trivial,fun _=>.ep _ _ _ _⟩
theorem JO:V.dx.Lt m↔True:=⟨fun _=>trivial,fun _=>.dx⟩
theorem JN:V.fN.Lt m↔True:=⟨fun _=>trivial,fun _=>.fN⟩
theorem Tp{id g}:(V.own id g).Lt m↔id<m:=⟨fun h=>by cases h;assumption,fun h=>.own _ _ h⟩
theorem Tm{id g lo hi}:(V.sub id g lo hi).Lt m↔id<m:=⟨fun h=>by cases h;assumption,fun h=>.sub _ _ _ _ h⟩
theorem To{id o}:(V.ptr id o).Lt m↔id<m:=⟨fun h=>by cases h;assumption,fun h=>.ptr _ _ h⟩
theorem XB{id g i o}:(V.rp id g i o).Lt m↔id<m:=⟨fun h=>by cases h;assumption,fun h=>.rp _ _ _ _ h⟩
theorem XC{id}:(V.mp id).Lt m↔id<m:=⟨fun h=>by cases h;assumption,fun h=>.mp _ h⟩
theorem XD{id}:(V.it id).Lt m↔id<m:=⟨fun h=>by cases h;assumption,fun h=>.it _ h⟩
theorem MK{xs}:(V.agg xs).Lt m↔eQ m xs:=by
 rw[eG];exact⟨fun h=>by cases h;assumption,fun h=>.agg _ h⟩
theorem Tl{xs}:(V.fu xs).Lt m↔eQ m xs:=by
 rw[eG];exact⟨fun h=>by cases h;assumption,fun h=>.fu _ h⟩
end
theorem Wk.GZ{P:Program}{xs:List V}{J loc:ae}(bz:bK J)(hx:eQ J.length xs):Wk P J.length xs (J++loc) xs J:=Wk.Bc (au _) bz (eG.1 hx)
theorem bk{P:Program}{rs:List Rs}{Q:V→ae→Prop}{e:Exit}{fr:List V}{J loc:ae}{xs:List V}(bz:bK J)(he:e=.normal∨e=.ret)(hx:kn ⟨fr,J++loc⟩ rs=some xs)(hl:eQ J.length xs)(hQ:Q (one xs) J):
  rM P J.length rs Q e ⟨fr,J++loc⟩:=fM he hx (Wk.GZ bz hl) rfl hQ
theorem lA{P:Program}{rs:List Rs}{fr:List V}{J loc:ae}{y:V}(bz:bK J)(hx:kn ⟨fr,J++loc⟩ rs=some [y])(hl:eQ J.length [y]):rM P J.length rs (fun r J'=>r=y∧J'=J) .ret ⟨fr,J++loc⟩:=bk bz (.inr rfl) hx hl ⟨rfl,rfl⟩
theorem sN{P:Program}{rs:List Rs}{Q:V→ae→Prop}{e:Exit}{fr:List V}{J loc:ae}{xs ys:List V}(bz:bK J)(he:e=.normal∨e=.ret)(hx:kn ⟨fr,J++loc⟩ rs=some xs)(hc:oY xs ys)(hl:eQ J.length ys)(hQ:Q (one ys) J):
  rM P J.length rs Q e ⟨fr,J++loc⟩:=fM he hx ((Wk.iS hc).trans (Wk.GZ bz hl)) hc.at.1 hQ
end Go.Pm

/- A part of a proof; the claim's last text says of what. -/
import Derived.Test.YtlakkaamfadipaaGreatDoorL14
set_option linter.all false

namespace Go.Pm
open Go Go.RowKit
def gw(n:Nat)(P:Program)(c:bE)(K:Exit→St→Prop):Nat→St→Prop
 | 0,_=>False
 | N+1,st=>cE n P c (fun e=>match e with
  | .normal=>gw n P c K N
  | e=>K e) st
theorem cE.BX{n:Nat}{P:Program}{c:bE}{K:Exit→St→Prop}{st:St}(N:Nat)(h:gw n P c K N st):cE n P (.loop c) K st:=by
 intro code hc;cases code
 case loop c' =>
  simp only[dW,ah,bE.loop.injEq]at hc;obtain⟨c2,DL,rfl⟩:=hc;intro B w0 w μ a hs hf;refine oe N (fun k a2 w2=>∃ st2 μ2,gw n P c2 K k st2∧fe P B w0 w2 st2.J μ2∧FR w2 st2.J μ2 st2.fr a2∧dX n w st.J μ w2 st2.J μ2) ⟨st,μ,h,hs,hf,dX.refl _ _ _ _⟩ ?_;rintro k a2 w2 ⟨st2,μ2,Rc,DF,AS,ny⟩;cases k with
  | zero=>exact Rc.elim
  | succ k =>
   refine wp_mono (Rc c' DL B w0 w2 μ2 a2 DF AS) ?_;rintro e a' w' ⟨st',μ',hK,hs',hf',hk⟩;cases e with
   | normal=>exact⟨k,Nat.lt_succ_self k,st',μ',hK,hs',hf',ny.trans hk⟩
   | exit id=>exact⟨st',μ',hK,hs',hf',ny.trans hk⟩
   | goto l=>exact⟨st',μ',hK,hs',hf',ny.trans hk⟩
   | ret=>exact⟨st',μ',hK,hs',hf',ny.trans hk⟩
   | panic c=>exact⟨st',μ',hK,hs',hf',ny.trans hk⟩
   | outgrown=>exact⟨st',μ',hK,hs',hf',ny.trans hk⟩
 all_goals first | (exfalso;revert hc;simp only[dW];try ((repeat' split)<;>simp);done) | (rename_i _ ops draw;exfalso;cases draw<;>simp only[dW]at hc<;>first | (obtain⟨_,_,_,h⟩:=fU hc;simp at h;done) | (rcases fq hc with⟨_,_,_,_,h,_⟩ | ⟨_,_,h,_⟩ | ⟨_,_,_,_,_,_,h,_⟩<;>simp at h;done))
def ym(id:Nat)(K:Exit→St→Prop):Exit→St→Prop
 | .exit id'=>if id'=id then K .normal else K (.exit id')
 | e=>K e
def Tc(n:Nat)(P:Program)(c:bE)(K:Exit→St→Prop)(N:Nat):Exit→St→Prop
 | .normal=>gw n P c K N
 | e=>K e
def JF(k:St→Prop)(K:Exit→St→Prop):Exit→St→Prop
 | .normal=>k
 | e=>K e
def Gz(P:Program):bE→(St→Prop)→St→Prop
 | .dG ds last gs tail,k,st=>oz P ds last (ix P gs tail k) st
 | _,_,_=>False
theorem Da{P:Program}{c:bE}{k:St→Prop}{st:St}(h:Gz P c k st):∃ ds last gs tail,c=.dG ds last gs tail∧oz P ds last (ix P gs tail k) st:=by
 cases c with
 | dG ds last gs tail=>exact⟨ds,last,gs,tail,rfl,h⟩
 | _=>exact h.elim
def xH(n:Nat)(P:Program):bE→(Exit→St→Prop)→St→Prop
 | .skip,K,st=>K .normal st
 | .ax gs is,K,st=>ix P gs is (K .normal) st
 | .dG ds last gs tail,K,st=>oz P ds last (ix P gs tail (K .normal)) st
 | .seq a b,K,st=>xH n P a (JF (xH n P b K) K) st
 | .ite c a b,K,st=>match ev st.fr c with
  | .b x=>(x=true→xH n P a K st)∧(x=false→xH n P b K st)
  | _=>False
 | .block id c,K,st=>xH n P c (ym id K) st
 | .loop c,K,st=>cE n P (.loop c) K st
 | .exit id,K,st=>K (.exit id) st
 | .ret,K,st=>K .ret st
 | .both a b,K,st=>Gz P a (K .normal) st∧Gz P b (K .normal) st
 | .LB fls ds1 ds2 last gs tail,K,st=>sF P (Dn fls) ds1 ds2 last (ix P gs tail (K .normal)) (rl st.J.length fls st.fr) st.J []
theorem aB{n:Nat}{P:Program}:∀ {c:bE} {K:Exit→St→Prop} {st:St},xH n P c K st→cE n P c K st
 | .skip,_,_,h=>cE.skip h
 | .ax _ _,_,_,h=>cE.ax h
 | .dG _ _ _ _,_,_,h=>cE.dG h
 | .seq a b,K,st,h=>cE.seq ((aB (c:=a) h).mono fun e st' hk=>by
   cases e with
   | normal=>exact aB (c:=b) hk
   | _=>exact hk)
 | .ite c a b,K,st,h=>by
  simp only[xH]at h;split at h
  ·rename_i x hx;exact cE.ite hx (fun hb=>aB (h.1 hb)) fun hb=>aB (h.2 hb)
  ·exact h.elim
 | .block id c,K,st,h=>cE.block ((aB (c:=c) h).mono fun e st' hk=>by
   cases e with
   | exit id' =>
    simp only[ym]at hk;simp only[tu];split at hk<;>rename_i h1<;>simp only[h1,aR,aO]<;>exact hk
   | _=>exact hk)
 | .loop _,_,_,h=>h
 | .exit _,_,_,h=>cE.exit h
 | .ret,_,_,h=>cE.ret h
 | .both _ _,_,_,h=>cE.both (Da h.1) (Da h.2)
 | .LB ..,_,_,h=>cE.LB h
theorem LS:Dn []=[]:=rfl
theorem IF(d T:Nat)(zs:List V)(r:List (Nat×Nat×List V)):Dn ((d,T,zs)::r)=.box T zs::Dn r:=rfl
theorem IB:gz []=[]:=rfl
theorem E6(o:Ob)(r:List Ob):gz (o::r)=.dead::gz r:=rfl
theorem JB(n:Nat)(fr:List V):rl n [] fr=fr:=rfl
theorem Ha(n d T:Nat)(zs:List V)(r:List (Nat×Nat×List V))(fr:List V):rl n ((d,T,zs)::r) fr=rl (n+1) r (fr.set d (.ptr n 0)):=rfl
theorem JL{n:Nat}{P:Program}{c:bE}{K:Exit→St→Prop}{N:Nat}{st:St}(h:xH n P c (Tc n P c K N) st):gw n P c K (N+1) st:=by
 simp only[gw];exact(aB h).mono fun e st' hk=>by cases e<;>exact hk
theorem Ds{id:Nat}{K:Exit→St→Prop}:ym id K .normal=K .normal:=rfl
theorem LX{id:Nat}{K:Exit→St→Prop}:ym id K .ret=K .ret:=rfl
theorem IG{id:Nat}{K:Exit→St→Prop}:ym id K (.exit id)=K .normal:=by simp only[ym,aR]
theorem IH{id id':Nat}{K:Exit→St→Prop}:ym id K (.exit id')=if id'=id then K .normal else K (.exit id'):=rfl
theorem BS{k:St→Prop}{K:Exit→St→Prop}:JF k K .normal=k:=rfl
theorem JD{k:St→Prop}{K:Exit→St→Prop}:JF k K .ret=K .ret:=rfl
theorem Hb{k:St→Prop}{K:Exit→St→Prop}{id:Nat}:JF k K (.exit id)=K (.exit id):=rfl
def pI(r:Option (Prop×V))(d:Option Nat)(K:St→Prop)(fr:List V)(J:ae):Prop :=
 match r with
 | some (ob,v)=>ob∧K ⟨c8 fr d v,J⟩
 | none=>False
def xI(r:Option (Prop×V×ae))(d:Option Nat)(K:St→Prop)(fr:List V):Prop :=
 match r with
 | some (ob,v,J')=>ob∧K ⟨c8 fr d v,J'⟩
 | none=>False
def qI(r:Option (Prop×V))(c:Bool)(d:Option Nat)(K:St→Prop)(fr:List V)(J:ae):Prop :=
 match r with
 | some (ob,v)=>(c=true→ob)∧K ⟨c8 fr d v,J⟩
 | none=>False
theorem MU{ob:Prop}{v:V}{d:Option Nat}{K:St→Prop}{fr:List V}{J:ae}:pI (some (ob,v)) d K fr J=(ob∧K ⟨c8 fr d v,J⟩):=rfl
theorem My{ob:Prop}{v:V}{d:Option Nat}{K:St→Prop}{fr:List V}{J':ae}:xI (some (ob,v,J')) d K fr=(ob∧K ⟨c8 fr d v,J'⟩):=rfl
theorem MP{ob:Prop}{v:V}{c:Bool}{d:Option Nat}{K:St→Prop}{fr:List V}{J:ae}:qI (some (ob,v)) c d K fr J=((c=true→ob)∧K ⟨c8 fr d v,J⟩):=rfl
theorem fI{P:Program}{d:Option Nat}{i:I}{K:St→Prop}{fr:List V}{J:ae}(hs:i.b9=true):gI P ⟨d,[],i⟩ K ⟨fr,J⟩=pI (aJ fr J i) d K fr J:=by
 have hx:=qV (fr:=fr) (J:=J) hs;simp only[gI];cases i<;>first | (simp[I.b9]at hs;done) | skip
 all_goals
  simp only[gK,pI,hx];generalize aJ fr J _=r;cases r<;>rfl
theorem lO{P:Program}{d:Option Nat}{i:I}{K:St→Prop}{fr:List V}{J:ae}(hs:i.b9=false)(hc:∀ f args,i≠.call f args)(hv:∀ x args,i≠.jA x args)(hn:∀ x,i≠.next x:=by simp):gI P ⟨d,[],i⟩ K ⟨fr,J⟩=xI (bC fr J i) d K fr:=by
 have hp:aJ fr J i=none:=by
  cases h:aJ fr J i with
  | none=>rfl
  | some r=>rw[rA h]at hs;simp at hs
 simp only[gI];cases i<;>first | (simp[I.b9]at hs;done) | exact absurd rfl (hc _ _) | exact absurd rfl (hv _ _) | exact absurd rfl (hn _) | skip
 all_goals
  simp only[gK,xI,hp];generalize bC fr J _=r;cases r<;>rfl
theorem Ru{P:Program}{d:Option Nat}{K:St→Prop}{fr:List V}{J:ae}{x:O}:gI P ⟨d,[],.bg x⟩ K ⟨fr,J⟩=pI (aJ fr J (.bg x)) d K fr J:=fI rfl
theorem Oi{P:Program}{d:Option Nat}{K:St→Prop}{fr:List V}{J:ae}{c a b:O}:gI P ⟨d,[],.pick c a b⟩ K ⟨fr,J⟩=pI (aJ fr J (.pick c a b)) d K fr J:=fI rfl
theorem Ln{P:Program}{d:Option Nat}{K:St→Prop}{fr:List V}{J:ae}{zs:List V}{ps:List (Nat×Nat×O)}:gI P ⟨d,[],.build zs ps⟩ K ⟨fr,J⟩=pI (aJ fr J (.build zs ps)) d K fr J:=fI rfl
theorem Iw{P:Program}{d:Option Nat}{K:St→Prop}{fr:List V}{J:ae}{sz:Nat}{szs:List (Option Nat)}{xs:List O}:gI P ⟨d,[],.c6 sz szs xs⟩ K ⟨fr,J⟩=pI (aJ fr J (.c6 sz szs xs)) d K fr J:=fI rfl
theorem Ow{P:Program}{d:Option Nat}{K:St→Prop}{fr:List V}{J:ae}{k:Option Nat}{a:O}:gI P ⟨d,[],.load k a⟩ K ⟨fr,J⟩=pI (aJ fr J (.load k a)) d K fr J:=fI rfl
theorem Ll{P:Program}{d:Option Nat}{K:St→Prop}{fr:List V}{J:ae}{x:O}:gI P ⟨d,[],.cF x⟩ K ⟨fr,J⟩=pI (aJ fr J (.cF x)) d K fr J:=fI rfl
theorem RH{P:Program}{d:Option Nat}{K:St→Prop}{fr:List V}{J:ae}{op:BinOp}{x y:O}:gI P ⟨d,[],.bin op x y⟩ K ⟨fr,J⟩=pI (aJ fr J (.bin op x y)) d K fr J:=fI rfl
theorem RI{P:Program}{d:Option Nat}{K:St→Prop}{fr:List V}{J:ae}{neg:Bool}{ks:List Nat}{x y:O}:gI P ⟨d,[],.beq neg ks x y⟩ K ⟨fr,J⟩=pI (aJ fr J (.beq neg ks x y)) d K fr J:=fI rfl
theorem RJ{P:Program}{d:Option Nat}{K:St→Prop}{fr:List V}{J:ae}{neg:Bool}{x y:O}:gI P ⟨d,[],.PQ neg x y⟩ K ⟨fr,J⟩=pI (aJ fr J (.PQ neg x y)) d K fr J:=fI rfl
theorem VK{P:Program}{d:Option Nat}{K:St→Prop}{fr:List V}{J:ae}{op:UnOp}{x:O}:gI P ⟨d,[],.un op x⟩ K ⟨fr,J⟩=pI (aJ fr J (.un op x)) d K fr J:=fI rfl
theorem RC{P:Program}{d:Option Nat}{K:St→Prop}{fr:List V}{J:ae}{k:IntKind}{x:O}:gI P ⟨d,[],.De k x⟩ K ⟨fr,J⟩=pI (aJ fr J (.De k x)) d K fr J:=fI rfl
theorem RK{P:Program}{d:Option Nat}{K:St→Prop}{fr:List V}{J:ae}{x:O}:gI P ⟨d,[],.Fc x⟩ K ⟨fr,J⟩=pI (aJ fr J (.Fc x)) d K fr J:=fI rfl
theorem Lj{P:Program}{d:Option Nat}{K:St→Prop}{fr:List V}{J:ae}{sz:Nat}{x:O}{lo hi:Option O}:gI P ⟨d,[],.slice sz x lo hi⟩ K ⟨fr,J⟩=pI (aJ fr J (.slice sz x lo hi)) d K fr J:=fI rfl
theorem Iu{P:Program}{d:Option Nat}{K:St→Prop}{fr:List V}{J:ae}{x:O}{lo hi:Option O}:gI P ⟨d,[],.fN x lo hi⟩ K ⟨fr,J⟩=pI (aJ fr J (.fN x lo hi)) d K fr J:=fI rfl
theorem Ry{P:Program}{d:Option Nat}{K:St→Prop}{fr:List V}{J:ae}{off:Nat}{x:O}:gI P ⟨d,[],.gi off x⟩ K ⟨fr,J⟩=pI (aJ fr J (.gi off x)) d K fr J:=fI rfl
theorem Rx{P:Program}{d:Option Nat}{K:St→Prop}{fr:List V}{J:ae}{sz:Nat}{x i:O}:gI P ⟨d,[],.idx sz x i⟩ K ⟨fr,J⟩=pI (aJ fr J (.idx sz x i)) d K fr J:=fI rfl
theorem Oh{P:Program}{d:Option Nat}{K:St→Prop}{fr:List V}{J:ae}{x i:O}:gI P ⟨d,[],.gY x i⟩ K ⟨fr,J⟩=pI (aJ fr J (.gY x i)) d K fr J:=fI rfl
theorem Rz{P:Program}{d:Option Nat}{K:St→Prop}{fr:List V}{J:ae}{k:Nat}{x:O}:gI P ⟨d,[],.ext k x⟩ K ⟨fr,J⟩=pI (aJ fr J (.ext k x)) d K fr J:=fI rfl
theorem Rw{P:Program}{d:Option Nat}{K:St→Prop}{fr:List V}{J:ae}{str:Bool}{x:O}:gI P ⟨d,[],.len str x⟩ K ⟨fr,J⟩=pI (aJ fr J (.len str x)) d K fr J:=fI rfl
theorem Ou{P:Program}{d:Option Nat}{K:St→Prop}{fr:List V}{J:ae}{x y:O}:gI P ⟨d,[],.max2 x y⟩ K ⟨fr,J⟩=pI (aJ fr J (.max2 x y)) d K fr J:=fI rfl
theorem On{P:Program}{d:Option Nat}{K:St→Prop}{fr:List V}{J:ae}{x y:O}:gI P ⟨d,[],.min2 x y⟩ K ⟨fr,J⟩=pI (aJ fr J (.min2 x y)) d K fr J:=fI rfl
theorem Ov{P:Program}{d:Option Nat}{K:St→Prop}{fr:List V}{J:ae}{kd:Nat}{z:V}{ok:Bool}{m k:O}:gI P ⟨d,[],.look kd z ok m k⟩ K ⟨fr,J⟩=pI (aJ fr J (.look kd z ok m k)) d K fr J:=fI rfl
theorem Om{P:Program}{d:Option Nat}{K:St→Prop}{fr:List V}{J:ae}{x:O}:gI P ⟨d,[],.wq x⟩ K ⟨fr,J⟩=pI (aJ fr J (.wq x)) d K fr J:=fI rfl
theorem RG{P:Program}{d:Option Nat}{K:St→Prop}{fr:List V}{J:ae}{T:Nat}{x:O}:gI P ⟨d,[],.box T x⟩ K ⟨fr,J⟩=xI (bC fr J (.box T x)) d K fr:=lO rfl (by simp) (by simp)
theorem Lo{P:Program}{d:Option Nat}{K:St→Prop}{fr:List V}{J:ae}{T:Nat}{zs:List V}:gI P ⟨d,[],.alloc T zs⟩ K ⟨fr,J⟩=xI (bC fr J (.alloc T zs)) d K fr:=lO rfl (by simp) (by simp)
theorem Li{P:Program}{d:Option Nat}{K:St→Prop}{fr:List V}{J:ae}{k:Nat}{szs:List (Option Nat)}{a x:O}:gI P ⟨d,[],.store k szs a x⟩ K ⟨fr,J⟩=xI (bC fr J (.store k szs a x)) d K fr:=lO rfl (by simp) (by simp)
theorem RM{P:Program}{d:Option Nat}{K:St→Prop}{fr:List V}{J:ae}{E sz by':Nat}{x y:O}:gI P ⟨d,[],.app E sz by' x y⟩ K ⟨fr,J⟩=xI (bC fr J (.app E sz by' x y)) d K fr:=lO rfl (by simp) (by simp)
theorem Oz{P:Program}{d:Option Nat}{K:St→Prop}{fr:List V}{J:ae}{E:Nat}{x y:O}:gI P ⟨d,[],.apps E x y⟩ K ⟨fr,J⟩=xI (bC fr J (.apps E x y)) d K fr:=lO rfl (by simp) (by simp)
theorem VL{P:Program}{d:Option Nat}{K:St→Prop}{fr:List V}{J:ae}{E sz by':Nat}{zs:List V}{l c:O}:gI P ⟨d,[],.mk E sz by' zs l c⟩ K ⟨fr,J⟩=xI (bC fr J (.mk E sz by' zs l c)) d K fr:=lO rfl (by simp) (by simp)
theorem Oy{P:Program}{d:Option Nat}{K:St→Prop}{fr:List V}{J:ae}{E sz by':Nat}{szs:List (Option Nat)}{xs:List O}:gI P ⟨d,[],.Dq E sz by' szs xs⟩ K ⟨fr,J⟩=xI (bC fr J (.Dq E sz by' szs xs)) d K fr:=lO rfl (by simp) (by simp)
theorem Lm{P:Program}{d:Option Nat}{K:St→Prop}{fr:List V}{J:ae}{T E:Nat}:gI P ⟨d,[],.kU T E⟩ K ⟨fr,J⟩=xI (bC fr J (.kU T E)) d K fr:=lO rfl (by simp) (by simp)
theorem Ol{P:Program}{d:Option Nat}{K:St→Prop}{fr:List V}{J:ae}{kd:Nat}{szs:List (Option Nat)}{m k x:O}:gI P ⟨d,[],.qu kd szs m k x⟩ K ⟨fr,J⟩=xI (bC fr J (.qu kd szs m k x)) d K fr:=lO rfl (by simp) (by simp)
theorem OA{P:Program}{d:Option Nat}{K:St→Prop}{fr:List V}{J:ae}{n sz:Nat}{x i:O}:gI P ⟨d,[],.Dw n sz x i⟩ K ⟨fr,J⟩=pI (aJ fr J (.Dw n sz x i)) d K fr J:=fI rfl
theorem RL{P:Program}{d:Option Nat}{K:St→Prop}{fr:List V}{J:ae}{n:Nat}{x:O}:gI P ⟨d,[],.Sz n x⟩ K ⟨fr,J⟩=pI (aJ fr J (.Sz n x)) d K fr J:=fI rfl
theorem RF{P:Program}{d:Option Nat}{K:St→Prop}{fr:List V}{J:ae}{f:Nat}{xs:List O}:gI P ⟨d,[],.LI f xs⟩ K ⟨fr,J⟩=pI (aJ fr J (.LI f xs)) d K fr J:=fI rfl
theorem RE{P:Program}{d:Option Nat}{K:St→Prop}{fr:List V}{J:ae}{sz:Nat}{zs:List V}{x:O}:gI P ⟨d,[],.Bu sz zs x⟩ K ⟨fr,J⟩=xI (bC fr J (.Bu sz zs x)) d K fr:=lO rfl (by simp) (by simp)
section
variable {P:Program} {d:Option Nat} {K:St→Prop} {fr:List V} {J:ae}
theorem RB{x:O}:gI P ⟨d,[],.Gy x⟩ K ⟨fr,J⟩=pI (aJ fr J (.Gy x)) d K fr J:=fI rfl
theorem Og{off:Nat}{x:O}:gI P ⟨d,[],.GV off x⟩ K ⟨fr,J⟩=pI (aJ fr J (.GV off x)) d K fr J:=fI rfl
theorem Of{n:Nat}{x i:O}:gI P ⟨d,[],.GU n x i⟩ K ⟨fr,J⟩=pI (aJ fr J (.GU n x i)) d K fr J:=fI rfl
theorem Rv{E by':Nat}{l c:O}:gI P ⟨d,[],.Qn E by' l c⟩ K ⟨fr,J⟩=xI (bC fr J (.Qn E by' l c)) d K fr:=lO rfl (by simp) (by simp)
theorem Lh{x y:O}:gI P ⟨d,[],.yH x y⟩ K ⟨fr,J⟩=pI (aJ fr J (.yH x y)) d K fr J:=fI rfl
theorem Ox{sz:Nat}{x h m:O}:gI P ⟨d,[],.clip sz x h m⟩ K ⟨fr,J⟩=pI (aJ fr J (.clip sz x h m)) d K fr J:=fI rfl
theorem Ot{kd:Nat}{m k:O}:gI P ⟨d,[],.yb kd m k⟩ K ⟨fr,J⟩=xI (bC fr J (.yb kd m k)) d K fr:=lO rfl (by simp) (by simp)
theorem Oq{kd:Nat}{z:V}{m k:O}:gI P ⟨d,[],.rE kd z m k⟩ K ⟨fr,J⟩=xI (bC fr J (.rE kd z m k)) d K fr:=lO rfl (by simp) (by simp)
theorem Oo{szs:List (Option Nat)}{m s x:O}:gI P ⟨d,[],.rD szs m s x⟩ K ⟨fr,J⟩=xI (bC fr J (.rD szs m s x)) d K fr:=lO rfl (by simp) (by simp)
theorem Lk{x:O}:gI P ⟨d,[],.range x⟩ K ⟨fr,J⟩=xI (bC fr J (.range x)) d K fr:=lO rfl (by simp) (by simp)
def nI(r:Option (Nat×Nat×Nat×Nat×List Nat))(d:Option Nat)(K:St→Prop)(fr:List V)(J:ae):Prop :=
 match r with
 | some (j,m,E,n,ps)=>(ps=[]→K ⟨c8 fr d (.fa [.b false]),J⟩)∧∀ q∈ps,K ⟨c8 fr d (.fa [.b true,.u,.u]),J.set j (.iter false m E n (ps.filter fun i=>i != q) (some q))⟩
 | none=>False
theorem M4{j m E n:Nat}{ps:List Nat}:nI (some (j,m,E,n,ps)) d K fr J=((ps=[]→K ⟨c8 fr d (.fa [.b false]),J⟩)∧∀ q∈ps,K ⟨c8 fr d (.fa [.b true,.u,.u]),J.set j (.iter false m E n (ps.filter fun i=>i != q) (some q))⟩):=rfl
theorem Oj{x:O}:gI P ⟨d,[],.next x⟩ K ⟨fr,J⟩=nI (wo J (ev fr x)) d K fr J:=by
 simp only[gI,gK,nI];generalize wo J (ev fr x)=r;cases r<;>rfl
end
def gX(p:Pi)(r:Option Bool)(K:St→Prop)(fr:List V)(J:ae):Prop :=
 match r with
 | none=>False
 | some c=>match p.i with
  | .load k a=>match ev fr a with
   | .ptr _ _=>qI (aJ fr J (.load k a)) c p.d K fr J
   | _=>∃ v,(c=true→∃ ob,aJ fr J (.load k a)=some (ob,v)∧ob)∧K ⟨c8 fr p.d v,J⟩
  | i=>qI (aJ fr J i) c p.d K fr J
theorem iq{P:Program}{p:Pi}{K:St→Prop}{fr:List V}{J:ae}(hg:p.g≠[])(hc:(∀ f args,p.i≠.call f args)∧∀ x args,p.i≠.jA x args):gI P p K ⟨fr,J⟩=gX p (chainB fr p.g) K fr J:=by
 obtain⟨d,g,i⟩:=p;cases g with
 | nil=>exact absurd rfl hg
 | cons q qs =>
  simp only[gI,gX];cases chainB fr (q::qs)with
  | none=>rfl
  | some c =>
   simp only[ud];cases i<;>first | rfl | exact absurd rfl (hc.1 _ _) | exact absurd rfl (hc.2 _ _)
theorem Rh{P:Program}{d:Option Nat}{q:Nat×Bool}{qs:List (Nat×Bool)}{K:St→Prop}{fr:List V}{J:ae}{x:O}:gI P ⟨d,q::qs,.bg x⟩ K ⟨fr,J⟩=gX ⟨d,q::qs,.bg x⟩ (chainB fr (q::qs)) K fr J:=iq (by simp) (by simp)
theorem N7{P:Program}{d:Option Nat}{q:Nat×Bool}{qs:List (Nat×Bool)}{K:St→Prop}{fr:List V}{J:ae}{c a b:O}:gI P ⟨d,q::qs,.pick c a b⟩ K ⟨fr,J⟩=gX ⟨d,q::qs,.pick c a b⟩ (chainB fr (q::qs)) K fr J:=iq (by simp) (by simp)
theorem Lc{P:Program}{d:Option Nat}{q:Nat×Bool}{qs:List (Nat×Bool)}{K:St→Prop}{fr:List V}{J:ae}{zs:List V}{ps:List (Nat×Nat×O)}:gI P ⟨d,q::qs,.build zs ps⟩ K ⟨fr,J⟩=gX ⟨d,q::qs,.build zs ps⟩ (chainB fr (q::qs)) K fr J:=iq (by simp) (by simp)
theorem Is{P:Program}{d:Option Nat}{q:Nat×Bool}{qs:List (Nat×Bool)}{K:St→Prop}{fr:List V}{J:ae}{sz:Nat}{szs:List (Option Nat)}{xs:List O}:gI P ⟨d,q::qs,.c6 sz szs xs⟩ K ⟨fr,J⟩=gX ⟨d,q::qs,.c6 sz szs xs⟩ (chainB fr (q::qs)) K fr J:=iq (by simp) (by simp)
theorem Od{P:Program}{d:Option Nat}{q:Nat×Bool}{qs:List (Nat×Bool)}{K:St→Prop}{fr:List V}{J:ae}{k:Option Nat}{a:O}:gI P ⟨d,q::qs,.load k a⟩ K ⟨fr,J⟩=gX ⟨d,q::qs,.load k a⟩ (chainB fr (q::qs)) K fr J:=iq (by simp) (by simp)
theorem Lb{P:Program}{d:Option Nat}{q:Nat×Bool}{qs:List (Nat×Bool)}{K:St→Prop}{fr:List V}{J:ae}{x:O}:gI P ⟨d,q::qs,.cF x⟩ K ⟨fr,J⟩=gX ⟨d,q::qs,.cF x⟩ (chainB fr (q::qs)) K fr J:=iq (by simp) (by simp)
theorem Rn{P:Program}{d:Option Nat}{q:Nat×Bool}{qs:List (Nat×Bool)}{K:St→Prop}{fr:List V}{J:ae}{op:BinOp}{x y:O}:gI P ⟨d,q::qs,.bin op x y⟩ K ⟨fr,J⟩=gX ⟨d,q::qs,.bin op x y⟩ (chainB fr (q::qs)) K fr J:=iq (by simp) (by simp)
theorem Ro{P:Program}{d:Option Nat}{q:Nat×Bool}{qs:List (Nat×Bool)}{K:St→Prop}{fr:List V}{J:ae}{neg:Bool}{ks:List Nat}{x y:O}:gI P ⟨d,q::qs,.beq neg ks x y⟩ K ⟨fr,J⟩=gX ⟨d,q::qs,.beq neg ks x y⟩ (chainB fr (q::qs)) K fr J:=iq (by simp) (by simp)
theorem Rp{P:Program}{d:Option Nat}{q:Nat×Bool}{qs:List (Nat×Bool)}{K:St→Prop}{fr:List V}{J:ae}{neg:Bool}{x y:O}:gI P ⟨d,q::qs,.PQ neg x y⟩ K ⟨fr,J⟩=gX ⟨d,q::qs,.PQ neg x y⟩ (chainB fr (q::qs)) K fr J:=iq (by simp) (by simp)
theorem VJ{P:Program}{d:Option Nat}{q:Nat×Bool}{qs:List (Nat×Bool)}{K:St→Prop}{fr:List V}{J:ae}{op:UnOp}{x:O}:gI P ⟨d,q::qs,.un op x⟩ K ⟨fr,J⟩=gX ⟨d,q::qs,.un op x⟩ (chainB fr (q::qs)) K fr J:=iq (by simp) (by simp)
theorem Rm{P:Program}{d:Option Nat}{q:Nat×Bool}{qs:List (Nat×Bool)}{K:St→Prop}{fr:List V}{J:ae}{k:IntKind}{x:O}:gI P ⟨d,q::qs,.De k x⟩ K ⟨fr,J⟩=gX ⟨d,q::qs,.De k x⟩ (chainB fr (q::qs)) K fr J:=iq (by simp) (by simp)
theorem Rq{P:Program}{d:Option Nat}{q:Nat×Bool}{qs:List (Nat×Bool)}{K:St→Prop}{fr:List V}{J:ae}{x:O}:gI P ⟨d,q::qs,.Fc x⟩ K ⟨fr,J⟩=gX ⟨d,q::qs,.Fc x⟩ (chainB fr (q::qs)) K fr J:=iq (by simp) (by simp)
theorem La{P:Program}{d:Option Nat}{q:Nat×Bool}{qs:List (Nat×Bool)}{K:St→Prop}{fr:List V}{J:ae}{sz:Nat}{x:O}{lo hi:Option O}:gI P ⟨d,q::qs,.slice sz x lo hi⟩ K ⟨fr,J⟩=gX ⟨d,q::qs,.slice sz x lo hi⟩ (chainB fr (q::qs)) K fr J:=iq (by simp) (by simp)
theorem Ir{P:Program}{d:Option Nat}{q:Nat×Bool}{qs:List (Nat×Bool)}{K:St→Prop}{fr:List V}{J:ae}{x:O}{lo hi:Option O}:gI P ⟨d,q::qs,.fN x lo hi⟩ K ⟨fr,J⟩=gX ⟨d,q::qs,.fN x lo hi⟩ (chainB fr (q::qs)) K fr J:=iq (by simp) (by simp)
theorem Rk{P:Program}{d:Option Nat}{q:Nat×Bool}{qs:List (Nat×Bool)}{K:St→Prop}{fr:List V}{J:ae}{off:Nat}{x:O}:gI P ⟨d,q::qs,.gi off x⟩ K ⟨fr,J⟩=gX ⟨d,q::qs,.gi off x⟩ (chainB fr (q::qs)) K fr J:=iq (by simp) (by simp)
theorem Rj{P:Program}{d:Option Nat}{q:Nat×Bool}{qs:List (Nat×Bool)}{K:St→Prop}{fr:List V}{J:ae}{sz:Nat}{x i:O}:gI P ⟨d,q::qs,.idx sz x i⟩ K ⟨fr,J⟩=gX ⟨d,q::qs,.idx sz x i⟩ (chainB fr (q::qs)) K fr J:=iq (by simp) (by simp)
theorem N6{P:Program}{d:Option Nat}{q:Nat×Bool}{qs:List (Nat×Bool)}{K:St→Prop}{fr:List V}{J:ae}{x i:O}:gI P ⟨d,q::qs,.gY x i⟩ K ⟨fr,J⟩=gX ⟨d,q::qs,.gY x i⟩ (chainB fr (q::qs)) K fr J:=iq (by simp) (by simp)
theorem Rl{P:Program}{d:Option Nat}{q:Nat×Bool}{qs:List (Nat×Bool)}{K:St→Prop}{fr:List V}{J:ae}{k:Nat}{x:O}:gI P ⟨d,q::qs,.ext k x⟩ K ⟨fr,J⟩=gX ⟨d,q::qs,.ext k x⟩ (chainB fr (q::qs)) K fr J:=iq (by simp) (by simp)
theorem Ri{P:Program}{d:Option Nat}{q:Nat×Bool}{qs:List (Nat×Bool)}{K:St→Prop}{fr:List V}{J:ae}{str:Bool}{x:O}:gI P ⟨d,q::qs,.len str x⟩ K ⟨fr,J⟩=gX ⟨d,q::qs,.len str x⟩ (chainB fr (q::qs)) K fr J:=iq (by simp) (by simp)
theorem Oa{P:Program}{d:Option Nat}{q:Nat×Bool}{qs:List (Nat×Bool)}{K:St→Prop}{fr:List V}{J:ae}{x y:O}:gI P ⟨d,q::qs,.max2 x y⟩ K ⟨fr,J⟩=gX ⟨d,q::qs,.max2 x y⟩ (chainB fr (q::qs)) K fr J:=iq (by simp) (by simp)
theorem N9{P:Program}{d:Option Nat}{q:Nat×Bool}{qs:List (Nat×Bool)}{K:St→Prop}{fr:List V}{J:ae}{x y:O}:gI P ⟨d,q::qs,.min2 x y⟩ K ⟨fr,J⟩=gX ⟨d,q::qs,.min2 x y⟩ (chainB fr (q::qs)) K fr J:=iq (by simp) (by simp)
theorem Oc{P:Program}{d:Option Nat}{q:Nat×Bool}{qs:List (Nat×Bool)}{K:St→Prop}{fr:List V}{J:ae}{kd:Nat}{z:V}{ok:Bool}{m k:O}:gI P ⟨d,q::qs,.look kd z ok m k⟩ K ⟨fr,J⟩=gX ⟨d,q::qs,.look kd z ok m k⟩ (chainB fr (q::qs)) K fr J:=iq (by simp) (by simp)
theorem Oe{P:Program}{d:Option Nat}{q:Nat×Bool}{qs:List (Nat×Bool)}{K:St→Prop}{fr:List V}{J:ae}{n sz:Nat}{x i:O}:gI P ⟨d,q::qs,.Dw n sz x i⟩ K ⟨fr,J⟩=gX ⟨d,q::qs,.Dw n sz x i⟩ (chainB fr (q::qs)) K fr J:=iq (by simp) (by simp)
theorem N8{P:Program}{d:Option Nat}{q:Nat×Bool}{qs:List (Nat×Bool)}{K:St→Prop}{fr:List V}{J:ae}{x:O}:gI P ⟨d,q::qs,.wq x⟩ K ⟨fr,J⟩=gX ⟨d,q::qs,.wq x⟩ (chainB fr (q::qs)) K fr J:=iq (by simp) (by simp)
theorem aA{P:Program}{d:Option Nat}{f:Nat}{args:List O}{K:St→Prop}{fr:List V}{J σ1:ae}{as:List V}{v:V}(h:PC P f as J (fun r J'=>r=v∧J'=σ1))(ha:args.map (ev fr)=as)(hK:K ⟨c8 fr d v,σ1⟩):
  gI P ⟨d,[],.call f args⟩ K ⟨fr,J⟩:=by
 subst ha;exact h.mono fun r J' ⟨e1,e2⟩=>by subst e1;subst e2;exact hK
theorem rX{P:Program}{d:Option Nat}{f:Nat}{x:O}{args:List O}{K:St→Prop}{fr caps:List V}{J σ1:ae}{as:List V}{v:V}(hx:ev fr x=.fn f caps)(hf:Cj P f=true)(h:PC P f as J (fun r J'=>r=v∧J'=σ1))(ha:args.map (ev fr)++caps=as)(hK:K ⟨c8 fr d v,σ1⟩):
  gI P ⟨d,[],.jA x args⟩ K ⟨fr,J⟩:=by
 subst ha;simp only[gI,gK,hx];exact⟨hf,h.mono fun r J' ⟨e1,e2⟩=>by subst e1;subst e2;exact hK⟩
theorem fJ{P:Program}{d:Option Nat}{f:Nat}{args:List O}{K:St→Prop}{fr:List V}{J:ae}{as:List V}{Q:V→ae→Prop}(h:PC P f as J Q)(ha:args.map (ev fr)=as)(hK:∀ r J',Q r J'→K ⟨c8 fr d r,J'⟩):
  gI P ⟨d,[],.call f args⟩ K ⟨fr,J⟩:=by
 subst ha;exact h.mono hK
theorem cL{P:Program}{d:Option Nat}{q:Nat×Bool}{qs:List (Nat×Bool)}{f:Nat}{args:List O}{K:St→Prop}{fr:List V}{J:ae}{as:List V}{v:V}{c:Bool}(hc:chainB fr (q::qs)=some c)(h:c=true→PC P f as J (fun r J'=>r=v∧J'=J))(ha:args.map (ev fr)=as)(hK:K ⟨c8 fr d v,J⟩):
  gI P ⟨d,q::qs,.call f args⟩ K ⟨fr,J⟩:=by
 subst ha;simp only[gI,hc,ud];exact⟨fun hc=>(h hc).mono fun r' J' ⟨e1,e2⟩=>by subst e1;subst e2;exact hK,fun _=>⟨v,hK⟩⟩
theorem pK{P:Program}{d:Option Nat}{q:Nat×Bool}{qs:List (Nat×Bool)}{x:O}{args:List O}{K:St→Prop}{fr:List V}{J:ae}{v:V}{c:Bool}(hc:chainB fr (q::qs)=some c)
  (h:c=true→∃ f caps,ev fr x=.fn f caps∧Cj P f=true∧PC P f (args.map (ev fr)++caps) J (fun r J'=>r=v∧J'=J)) (hK:K ⟨c8 fr d v,J⟩):gI P ⟨d,q::qs,.jA x args⟩ K ⟨fr,J⟩:=by
 simp only[gI,hc,ud];refine⟨fun hc=>?_,fun _=>⟨v,hK⟩⟩;obtain⟨f,caps,h1,h2,h3⟩:=h hc;rw[h1];exact⟨h2,h3.mono fun r' J' ⟨e1,e2⟩=>by subst e1;subst e2;exact hK⟩
def R2(P:Program)(chk:List Pi)(ds:List (List Pi×Pi×List Pi))(last:List Pi)(K:St→Prop)(st:St):Prop:=(∀ p∈chk,xm p st)∧oz P ds last K st
def iT:ae→List Ob→List Ob→List Ob→(ae→ae→Prop)→Prop
 | τ,[],[],s,K=>K τ s
 | τ,[],X::Xs,Y::s,K=>X=Y∧iT τ [] Xs s K
 | τ,_::a,Xs,y::s,K=>iT (τ++[y]) a Xs s K
 | _,_,_,_,_=>False
theorem qz:∀ {a:List Ob} {τ:ae} {Xs s:List Ob} {K:ae→ae→Prop},iT τ a Xs s K↔∃ a' ε,a'.length=a.length∧s=a'++(Xs++ε)∧K (τ++a') ε
 | [],τ,[],s,K=>by
  simp only[iT];constructor
  ·intro h;exact⟨[],s,rfl,rfl,by simpa using h⟩
  ·rintro⟨a',ε,h1,rfl,h2⟩;obtain rfl:=aD h1;simpa using h2
 | [],τ,X::Xs,[],K=>by
  simp only[iT,L5];rintro⟨a',ε,h1,h2,_⟩;simp at h2
 | [],τ,X::Xs,Y::s,K=>by
  simp only[iT,qz (a:=[]) (Xs:=Xs)];constructor
  ·rintro⟨rfl,a',ε,h1,rfl,h2⟩;obtain rfl:=aD h1;exact⟨[],ε,rfl,rfl,h2⟩
  ·rintro⟨a',ε,h1,h2,h3⟩;obtain rfl:=aD h1;simp only[bh,bq,List.cons.injEq]at h2;exact⟨h2.1.symm,[],ε,rfl,h2.2,h3⟩
 | x::a,τ,Xs,[],K=>by
  simp only[iT,L5];rintro⟨a',ε,h1,h2,_⟩;cases a' with
  | nil=>simp at h1
  | cons y a'=>simp at h2
 | x::a,τ,Xs,y::s,K=>by
  simp only[iT,qz (a:=a) (Xs:=Xs)];constructor
  ·rintro⟨a',ε,h1,rfl,h2⟩;exact⟨y::a',ε,by simp[h1],rfl,by simpa using h2⟩
  ·rintro⟨a',ε,h1,h2,h3⟩;cases a' with
   | nil=>simp at h1
   | cons z a' =>
    simp only[bq,List.cons.injEq]at h2;obtain⟨rfl,rfl⟩:=h2;exact⟨a',ε,by simpa using h1,rfl,by simpa using h3⟩
theorem grown_of{J J':ae}{a Xs b:List Ob}{K:ae→ae→Prop}(hl:J'.length=J.length):grown (J++a) Xs (J'++b) K=iT J' a Xs b K:=by
 rw[eq_iff_iff,qz,grown];constructor
 ·rintro⟨τ',ε,h1,h2,h3⟩;have e:=List.append_eq_append_iff.1 h2;rcases e with⟨c,rfl,rfl⟩ | ⟨c,rfl,h4⟩
  ·exact⟨c,ε,by simp[hl]at h1;exact h1,rfl,h3⟩
  ·have hc:c=[]:=aD (by simp at h1 hl;omega);subst hc;simp only[bF,bh]at h1 h4 hl h3;have ha:a.length=0:=by simp at h1;omega
   exact⟨[],ε,by simp[ha],h4.symm,by simpa using h3⟩
 ·rintro⟨a',ε,h1,rfl,h2⟩;exact⟨J'++a',ε,by simp[h1,hl],by simp,h2⟩
theorem K8{J:ae}{a Xs b:List Ob}{K:ae→ae→Prop}:grown (J++a) Xs (J++b) K=iT J a Xs b K:=grown_of rfl
theorem Im{J:ae}{Xs b:List Ob}{K:ae→ae→Prop}:grown J Xs (J++b) K=iT J [] Xs b K:=by
 have:=grown_of (J:=J) (J':=J) (a:=[]) (Xs:=Xs) (b:=b) (K:=K) rfl
 rwa [bF]at this
theorem EM{τ:ae}{s:List Ob}{K:ae→ae→Prop}:iT τ [] [] s K=K τ s:=by cases s<;>rfl
theorem EN{τ:ae}{X Y:Ob}{Xs s:List Ob}{K:ae→ae→Prop}:iT τ [] (X::Xs) (Y::s) K=(X=Y∧iT τ [] Xs s K):=rfl
theorem EL{τ:ae}{x y:Ob}{a Xs s:List Ob}{K:ae→ae→Prop}:iT τ (x::a) Xs (y::s) K=iT (τ++[y]) a Xs s K:=by cases Xs<;>rfl
def S8(P:Program)(bx:List Ob)(chk:List Pi)(ds1 ds2:List (List Pi×Pi×List Pi))(last:List Pi)(K:St→Prop)(τ:ae)(Xs:List Ob)(st:St):Prop:=(∀ p∈chk,xm p st)∧grown τ Xs st.J (sF P bx ds1 ds2 last K st.fr)
def S6(P:Program)(bx:List Ob)(L:Pi)(chk:List Pi)(ds1 ds2:List (List Pi×Pi×List Pi))(last:List Pi)(K:St→Prop)(τ ε:ae)(st:St):Prop:=Fg bx fun Xs=>gI P L (S8 P bx chk ds1 ds2 last K τ Xs) ⟨st.fr,τ++(Xs++ε)⟩
def S4(P:Program)(L:Pi)(chk:List Pi)(ds:List (List Pi×Pi×List Pi))(last:List Pi)(K:St→Prop)(τ:ae)(st:St):Prop:=gI P L (R2 P chk ds last K) ⟨st.fr,τ⟩
def Pr(K:St→Prop)(τ:ae)(st:St):Prop:=K ⟨st.fr,τ⟩
section
variable {P:Program} {bx:List Ob} {Bk last:List Pi} {L:Pi} {chk:List Pi} {ds1 ds2:List (List Pi×Pi×List Pi)} {K:St→Prop} {fr:List V} {τ ε:ae}
theorem JI:sF P bx [] [] last K fr τ ε=ix P [] last (Pr K (τ++(bx++ε))) ⟨fr,τ++(gz bx++ε)⟩:=rfl
theorem Hf:sF P bx [] ((Bk,L,chk)::ds2) last K fr τ ε=ix P [] Bk (S4 P L chk ds2 last K (τ++(bx++ε))) ⟨fr,τ++(gz bx++ε)⟩:=rfl
theorem Hg:sF P bx ((Bk,L,chk)::ds1) ds2 last K fr τ ε=ix P [] Bk (S6 P bx L chk ds1 ds2 last K τ ε) ⟨fr,τ++(gz bx++ε)⟩:=by cases ds2<;>rfl
end
theorem JJ{P:Program}{last:List Pi}{K:St→Prop}{st:St}:oz P [] last K st=ix P [] last K st:=rfl
theorem Hh{P:Program}{Bk:List Pi}{L:Pi}{chk:List Pi}{ds:List (List Pi×Pi×List Pi)}{last:List Pi}{K:St→Prop}{st:St}:
  oz P ((Bk,L,chk)::ds) last K st=ix P [] Bk (gI P L (R2 P chk ds last K)) st:=rfl
theorem JK{P:Program}{gs:List Nat}{K:St→Prop}{fr:List V}{J:ae}:ix P gs [] K ⟨fr,J⟩=K ⟨Bu gs fr,J⟩:=rfl
theorem Hi{P:Program}{gs:List Nat}{p:Pi}{ps:List Pi}{K:St→Prop}{fr:List V}{J:ae}:ix P gs (p::ps) K ⟨fr,J⟩=gI P p (ix P gs ps K) ⟨fr,J⟩:=rfl
theorem jB{J l:ae}:(J++l)[J.length]?=l[0]?:=by rw[aw (aq _),eQ]
theorem r8{J l:ae}{k:Nat}:(J++l)[J.length+k]?=l[k]?:=by rw[aw (L7 _ _),eY]
theorem II{J l:ae}{x:Ob}:(J++l).set J.length x=J++l.set 0 x:=by rw[bZ _ _ (aq _),eQ]
theorem xw{J l:ae}{k:Nat}{x:Ob}:(J++l).set (J.length+k) x=J++l.set k x:=by
 rw[bZ _ _ (L7 _ _),eY]
theorem L0{J l:ae}:(J++l).length=J.length+l.length:=al
def wU(id g sz:Nat)(rows:List (List V)):V→V
 | .own id' g'=>if id'=id∧g'=g then .sl sz rows else .own id' g'
 | .sub id' g' lo hi=>if id'=id∧g'=g then .sl sz ((rows.drop lo).take (hi - lo))else .sub id' g' lo hi
 | x=>x
def fz(id g sz:Nat)(rows:List (List V)):V→V
 | .agg xs=>.agg (xs.map (wU id g sz rows))
 | x=>wU id g sz rows x
theorem Lp{P:Program}{B:Nat}{w0 w:World}{J:ae}{μ:Mem}(hS:fe P B w0 w J μ){id E sz by' g:Nat}{rows:List (List V)}(ho:J[id]?=some (.row E sz by' g true rows)){x:V}{v:Value}(h:VR w J μ x v):
  VR w J μ (wU id g sz rows x) v:=by
 unfold wU;split
 ·split
  ·rename_i e;obtain⟨rfl,rfl⟩:=e;rw[h.iL ho];have:=VR.rC hS ho 0 rows.length (by omega) (aq _);rw[BN hS ho]at this;simpa using this
  ·exact h
 ·split
  ·rename_i e;obtain⟨rfl,rfl⟩:=e;obtain⟨h1,h2,h3⟩:=h.mF ho;rw[h3];exact VR.rC hS ho _ _ h1 h2
  ·exact h
 ·exact h
theorem VN{P:Program}{B:Nat}{w0 w:World}{J:ae}{μ:Mem}(hS:fe P B w0 w J μ){id E sz by' g:Nat}{rows:List (List V)}(ho:J[id]?=some (.row E sz by' g true rows)){x:V}{v:Value}(h:VR w J μ x v):
  VR w J μ (fz id g sz rows x) v:=by
 unfold fz;split
 ·rename_i xs;obtain⟨vs,rfl,h1,h2⟩:=h.fX;refine .agg _ _ (by simpa using h1) fun i y hy=>?_;rw[aW,ah]at hy;obtain⟨z,hz,rfl⟩:=hy;exact Lp hS ho (h2 i z hz)
 ·exact Lp hS ho h
theorem Wk.fz{P:Program}{n:Nat}{xs:List V}{J:ae}(id:Nat){E sz by' g:Nat}{sh:Bool}{rows:List (List V)}(ho:J[id]?=some (.row E sz by' g sh rows)):
  Wk P n xs J (xs.map (Pm.fz id g sz rows)) (J.set id (.row E sz by' g true rows)):=by
 refine Wk.trans (Wk.share ho) ?_;have cM:id<J.length:=(ab.1 ho).1;intro B w0 w μ vs hS hC;refine⟨μ,hS,⟨by simp[hC.1],fun i y hy=>?_⟩,dX.refl _ _ _ _⟩;rw[aW,ah]at hy;obtain⟨z,hz,rfl⟩:=hy;exact VN hS (by rw[ak cM]) (hC.2 i z hz)
theorem Wk.one{P:Program}{n:Nat}{xs xs':List V}{J J':ae}(h:Wk P n xs J xs' J')(hl:xs'.length=xs.length):Wk P n [Pm.one xs] J [Pm.one xs'] J':=by
 intro B w0 w μ vs hS hC;have h0:=hC.2 0 _ rfl
 have fin:∀ {w':World} {ys:List V} {us:Array Value} {μ':Mem},CR w' J' μ' ys us→ys.length≠1→VR w' J' μ' (Pm.one ys) (.tuple us):=by
  intro w' ys us μ' h1 h2
  match ys,h1,h2 with
  | [],h1,_=>exact .fa _ _ h1.1 h1.2
  | x::y::ys,h1,_=>exact .fa _ _ h1.1 h1.2
  | [x],_,h2=>exact absurd rfl h2
 by_cases h1:xs.length=1
 ·match xs,h1,h,hl,h0 with
  | [x],_,h,hl,h0 =>
   match xs',hl,h with
   | [x'],_,h =>
    exact h B w0 w μ vs hS ⟨hC.1,fun i y hy=>hC.2 i y hy⟩
 ·have hx:Pm.one xs=.fa xs:=by
   match xs,h1 with
   | [],_=>rfl
   | x::y::xs,_=>rfl
   | [x],h1=>exact absurd rfl h1
  rw[hx]at h0;obtain⟨us,hv,h2,h3⟩:=h0.AL;obtain⟨μ',h4,h5,h6⟩:=h B w0 w μ us hS ⟨h2,h3⟩;refine⟨μ',h4,⟨hC.1,fun i y hy=>?_⟩,h6⟩;cases i with
  | zero =>
   simp only[au,aa]at hy;subst hy;rw[hv];exact fin h5 (by rw[hl];exact h1)
  | succ i=>simp at hy
theorem fO{P:Program}{n:Nat}{rs:List Rs}{Q:V→ae→Prop}{e:Exit}{st:St}{xs xs':List V}{J':ae}(he:e=.normal∨e=.ret)(hx:kS st rs=some xs)(hw:Wk P n xs st.J xs' J')(hl:xs'.length=xs.length)(hQ:Q (one xs') J'):
  sI P n rs Q e st:=⟨he,xs,hx,_,_,hw.one hl,hQ⟩
def eF(m:Nat):List V→Prop
 | []=>True
 | x::xs=>x.Lt m∧eF m xs
theorem dN{m:Nat}:∀ {xs:List V},eF m xs↔∀ (i:Nat) (x:V),xs[i]?=some x→x.Lt m
 | []=>by simp[eF]
 | y::xs=>by
  rw[eF,dN];constructor
  ·rintro⟨h1,h2⟩ i x hx;cases i with
   | zero=>simp only[au,aa]at hx;subst hx;exact h1
   | succ i=>exact h2 i x (by simpa using hx)
  ·intro h;exact⟨h 0 y rfl,fun i x hx=>h (i+1) x (by simpa using hx)⟩
section
variable {m:Nat}
theorem WX:V.u.Lt m↔True:=⟨fun _=>trivial,fun _=>.u⟩
theorem WY{x}:(V.b x).Lt m↔True:=⟨fun _=>trivial,fun _=>.b _⟩
theorem M7{k a}:(V.i k a).Lt m↔True:=⟨fun _=>trivial,fun _=>.i _ _⟩
theorem Qs{l}:(V.s l).Lt m↔True:=⟨fun _=>trivial,fun _=>.s _⟩
theorem Qv:V.nil.Lt m↔True:=⟨fun _=>trivial,fun _=>.nil⟩
theorem Qw{sz xs}:(V.lit sz xs).Lt m↔True:=⟨fun _=>trivial,fun _=>.lit _ _⟩
theorem Cm{sz xs}:(V.sl sz xs).Lt m↔True:=⟨fun _=>trivial,fun _=>.sl _ _⟩
theorem UD{sz xs i o}:(V.ep sz xs i o).Lt m↔True:=⟨fun _=>trivial,fun _=>.ep _ _ _ _⟩
theorem HG:V.cV.Lt m↔True:=⟨fun _=>trivial,fun _=>.cV⟩
theorem HE:V.fp.Lt m↔True:=⟨fun _=>trivial,fun _=>.fp⟩
theorem Qu{id g}:(V.own id g).Lt m↔id<m:=⟨fun h=>by cases h;assumption,fun h=>.own _ _ h⟩
theorem Qq{id g lo hi}:(V.sub id g lo hi).Lt m↔id<m:=⟨fun h=>by cases h;assumption,fun h=>.sub _ _ _ _ h⟩
theorem Qt{id o}:(V.ptr id o).Lt m↔id<m:=⟨fun h=>by cases h;assumption,fun h=>.ptr _ _ h⟩
theorem UA{id g i o}:(V.rp id g i o).Lt m↔id<m:=⟨fun h=>by cases h;assumption,fun h=>.rp _ _ _ _ h⟩
theorem UB{id}:(V.mp id).Lt m↔id<m:=⟨fun h=>by cases h;assumption,fun h=>.mp _ h⟩
theorem UC{id}:(V.it id).Lt m↔id<m:=⟨fun h=>by cases h;assumption,fun h=>.it _ h⟩
theorem J3{xs}:(V.agg xs).Lt m↔eF m xs:=by
 rw[dN];exact⟨fun h=>by cases h;assumption,fun h=>.agg _ h⟩
theorem Qp{xs}:(V.fa xs).Lt m↔eF m xs:=by
 rw[dN];exact⟨fun h=>by cases h;assumption,fun h=>.fa _ h⟩
end
theorem Wk.OI{P:Program}{xs:List V}{J loc:ae}(bz:bG J)(hx:eF J.length xs):Wk P J.length xs (J++loc) xs J:=Wk.xc (aq _) bz (dN.1 hx)
theorem bu{P:Program}{rs:List Rs}{Q:V→ae→Prop}{e:Exit}{fr:List V}{J loc:ae}{xs:List V}(bz:bG J)(he:e=.normal∨e=.ret)(hx:kS ⟨fr,J++loc⟩ rs=some xs)(hl:eF J.length xs)(hQ:Q (one xs) J):
  sI P J.length rs Q e ⟨fr,J++loc⟩:=fO he hx (Wk.OI bz hl) rfl hQ
theorem ou{P:Program}{rs:List Rs}{fr:List V}{J loc:ae}{y:V}(bz:bG J)(hx:kS ⟨fr,J++loc⟩ rs=some [y])(hl:eF J.length [y]):sI P J.length rs (fun r J'=>r=y∧J'=J) .ret ⟨fr,J++loc⟩:=bu bz (.inr rfl) hx hl ⟨rfl,rfl⟩
theorem uW{P:Program}{rs:List Rs}{Q:V→ae→Prop}{e:Exit}{fr:List V}{J loc:ae}{xs ys:List V}(bz:bG J)(he:e=.normal∨e=.ret)(hx:kS ⟨fr,J++loc⟩ rs=some xs)(hc:qJ xs ys)(hl:eF J.length ys)(hQ:Q (one ys) J):
  sI P J.length rs Q e ⟨fr,J++loc⟩:=fO he hx ((Wk.kP hc).trans (Wk.OI bz hl)) hc.at.1 hQ
end Go.Pm

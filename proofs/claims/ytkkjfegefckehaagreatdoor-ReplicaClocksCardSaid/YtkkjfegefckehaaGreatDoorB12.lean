/- A part of the proof of the statement of the last text of this claim; its conditions stand there. -/
import Derived.Test.YtkkjfegefckehaaGreatDoorB11
set_option linter.all false

namespace Go.Pm
open Go Go.RowKit
def fO(n:Nat)(P:Program)(c:bw)(K:Exit→St→Prop):Nat→St→Prop
 | 0,_=>False
 | N+1,st=>bA n P c (fun e=>match e with
  | .normal=>fO n P c K N
  | e=>K e) st
theorem bA.pd{n:Nat}{P:Program}{c:bw}{K:Exit→St→Prop}{st:St}(N:Nat)(h:fO n P c K N st):bA n P (.loop c) K st:=by
 intro code hc;cases code
 case loop c' =>
  simp only[fN,ar,bw.loop.injEq]at hc;obtain⟨c2,zk,rfl⟩:=hc;intro B w0 w μ a hs hf;refine th N (fun k a2 w2=>∃ st2 μ2,fO n P c2 K k st2∧jw P B w0 w2 st2.σ μ2∧FR w2 st2.σ μ2 st2.fr a2∧fP n w st.σ μ w2 st2.σ μ2) ⟨st,μ,h,hs,hf,fP.refl _ _ _ _⟩ ?_;rintro k a2 w2 ⟨st2,μ2,hI2,hs2,WD,tK⟩;cases k with
  | zero=>exact hI2.elim
  | succ k =>
   refine wp_mono (hI2 c' zk B w0 w2 μ2 a2 hs2 WD) ?_;rintro e a' w' ⟨st',μ',hK,hs',hf',hk⟩;cases e with
   | normal=>exact⟨k,Nat.lt_succ_self k,st',μ',hK,hs',hf',tK.trans hk⟩
   | exit id=>exact⟨st',μ',hK,hs',hf',tK.trans hk⟩
   | goto l=>exact⟨st',μ',hK,hs',hf',tK.trans hk⟩
   | ret=>exact⟨st',μ',hK,hs',hf',tK.trans hk⟩
   | panic c=>exact⟨st',μ',hK,hs',hf',tK.trans hk⟩
   | outgrown=>exact⟨st',μ',hK,hs',hf',tK.trans hk⟩
 all_goals first | (exfalso;revert hc;simp only[fN];try ((repeat' split)<;>simp);done) | (rename_i _ ops draw;exfalso;cases draw<;>simp only[fN]at hc<;>first | (obtain⟨_,_,_,h⟩:=jC hc;simp at h;done) | (rcases iy hc with⟨_,_,_,_,h,_⟩ | ⟨_,_,h,_⟩ | ⟨_,_,_,_,_,_,h,_⟩<;>simp at h;done))
def Ed(id:Nat)(K:Exit→St→Prop):Exit→St→Prop
 | .exit id'=>if id'=id then K .normal else K (.exit id')
 | e=>K e
def abD(n:Nat)(P:Program)(c:bw)(K:Exit→St→Prop)(N:Nat):Exit→St→Prop
 | .normal=>fO n P c K N
 | e=>K e
def RK(k:St→Prop)(K:Exit→St→Prop):Exit→St→Prop
 | .normal=>k
 | e=>K e
def OI(P:Program):bw→(St→Prop)→St→Prop
 | .kp ds last gs tail,k,st=>tG P ds last (kW P gs tail k) st
 | _,_,_=>False
theorem KY{P:Program}{c:bw}{k:St→Prop}{st:St}(h:OI P c k st):∃ ds last gs tail,c=.kp ds last gs tail∧tG P ds last (kW P gs tail k) st:=by
 cases c with
 | kp ds last gs tail=>exact⟨ds,last,gs,tail,rfl,h⟩
 | _=>exact h.elim
def BE(n:Nat)(P:Program):bw→(Exit→St→Prop)→St→Prop
 | .skip,K,st=>K .normal st
 | .dq gs is,K,st=>kW P gs is (K .normal) st
 | .kp ds last gs tail,K,st=>tG P ds last (kW P gs tail (K .normal)) st
 | .seq a b,K,st=>BE n P a (RK (BE n P b K) K) st
 | .ite c a b,K,st=>match ev st.fr c with
  | .b x=>(x=true→BE n P a K st)∧(x=false→BE n P b K st)
  | _=>False
 | .block id c,K,st=>BE n P c (Ed id K) st
 | .loop c,K,st=>bA n P (.loop c) K st
 | .exit id,K,st=>K (.exit id) st
 | .ret,K,st=>K .ret st
 | .both a b,K,st=>OI P a (K .normal) st∧OI P b (K .normal) st
 | .M1 fls ds1 ds2 last gs tail,K,st=>Aa P (Lg fls) ds1 ds2 last (kW P gs tail (K .normal)) (yr st.σ.length fls st.fr) st.σ []
theorem aj{n:Nat}{P:Program}:∀ {c:bw} {K:Exit→St→Prop} {st:St},BE n P c K st→bA n P c K st
 | .skip,_,_,h=>bA.skip h
 | .dq _ _,_,_,h=>bA.dq h
 | .kp _ _ _ _,_,_,h=>bA.kp h
 | .seq a b,K,st,h=>bA.seq ((aj (c:=a) h).mono fun e st' hk=>by
   cases e with
   | normal=>exact aj (c:=b) hk
   | _=>exact hk)
 | .ite c a b,K,st,h=>by
  simp only[BE]at h;split at h
  ·rename_i x hx;exact bA.ite hx (fun hb=>aj (h.1 hb)) fun hb=>aj (h.2 hb)
  ·exact h.elim
 | .block id c,K,st,h=>bA.block ((aj (c:=c) h).mono fun e st' hk=>by
   cases e with
   | exit id' =>
    simp only[Ed]at hk;simp only[AO];split at hk<;>rename_i h1<;>simp only[h1,if_true,if_false]<;>exact hk
   | _=>exact hk)
 | .loop _,_,_,h=>h
 | .exit _,_,_,h=>bA.exit h
 | .ret,_,_,h=>bA.ret h
 | .both _ _,_,_,h=>bA.both (KY h.1) (KY h.2)
 | .M1 ..,_,_,h=>bA.M1 h
theorem Uf:Lg []=[]:=rfl
theorem QR(d T:Nat)(zs:List V)(r:List (Nat×Nat×List V)):Lg ((d,T,zs)::r)=.box T zs::Lg r:=rfl
theorem QI:kJ []=[]:=rfl
theorem M3(o:Ob)(r:List Ob):kJ (o::r)=.dead::kJ r:=rfl
theorem RI(n:Nat)(fr:List V):yr n [] fr=fr:=rfl
theorem O3(n d T:Nat)(zs:List V)(r:List (Nat×Nat×List V))(fr:List V):yr n ((d,T,zs)::r) fr=yr (n+1) r (fr.set d (.ptr n 0)):=rfl
theorem RT{n:Nat}{P:Program}{c:bw}{K:Exit→St→Prop}{N:Nat}{st:St}(h:BE n P c (abD n P c K N) st):fO n P c K (N+1) st:=by
 simp only[fO];exact(aj h).mono fun e st' hk=>by cases e<;>exact hk
theorem Lj{id:Nat}{K:Exit→St→Prop}:Ed id K .normal=K .normal:=rfl
theorem Uh{id:Nat}{K:Exit→St→Prop}:Ed id K .ret=K .ret:=rfl
theorem QS{id:Nat}{K:Exit→St→Prop}:Ed id K (.exit id)=K .normal:=by simp only[Ed,if_true]
theorem QT{id id':Nat}{K:Exit→St→Prop}:Ed id K (.exit id')=if id'=id then K .normal else K (.exit id'):=rfl
theorem Js{k:St→Prop}{K:Exit→St→Prop}:RK k K .normal=k:=rfl
theorem RJ{k:St→Prop}{K:Exit→St→Prop}:RK k K .ret=K .ret:=rfl
theorem O4{k:St→Prop}{K:Exit→St→Prop}{id:Nat}:RK k K (.exit id)=K (.exit id):=rfl
def pI(r:Option (Prop×V))(d:Option Nat)(K:St→Prop)(fr:List V)(σ:ag):Prop :=
 match r with
 | some (ob,v)=>ob∧K ⟨fu fr d v,σ⟩
 | none=>False
def xI(r:Option (Prop×V×ag))(d:Option Nat)(K:St→Prop)(fr:List V):Prop :=
 match r with
 | some (ob,v,σ')=>ob∧K ⟨fu fr d v,σ'⟩
 | none=>False
def qI(r:Option (Prop×V))(c:Bool)(d:Option Nat)(K:St→Prop)(fr:List V)(σ:ag):Prop :=
 match r with
 | some (ob,v)=>(c=true→ob)∧K ⟨fu fr d v,σ⟩
 | none=>False
theorem U9{ob:Prop}{v:V}{d:Option Nat}{K:St→Prop}{fr:List V}{σ:ag}:pI (some (ob,v)) d K fr σ=(ob∧K ⟨fu fr d v,σ⟩):=rfl
theorem UO{ob:Prop}{v:V}{d:Option Nat}{K:St→Prop}{fr:List V}{σ':ag}:xI (some (ob,v,σ')) d K fr=(ob∧K ⟨fu fr d v,σ'⟩):=rfl
theorem U7{ob:Prop}{v:V}{c:Bool}{d:Option Nat}{K:St→Prop}{fr:List V}{σ:ag}:qI (some (ob,v)) c d K fr σ=((c=true→ob)∧K ⟨fu fr d v,σ⟩):=rfl
theorem kQ{P:Program}{d:Option Nat}{i:I}{K:St→Prop}{fr:List V}{σ:ag}(hs:i.dh=true):gI P ⟨d,[],i⟩ K ⟨fr,σ⟩=pI (bm fr σ i) d K fr σ:=by
 have hx:=yg (fr:=fr) (σ:=σ) hs;simp only[gI];cases i<;>first | (simp[I.dh]at hs;done) | skip
 all_goals
  simp only[lE,pI,hx];generalize bm fr σ _=r;cases r<;>rfl
theorem yh{P:Program}{d:Option Nat}{i:I}{K:St→Prop}{fr:List V}{σ:ag}(hs:i.dh=false)(hc:∀ f args,i≠.call f args)(hv:∀ x args,i≠.zD x args):gI P ⟨d,[],i⟩ K ⟨fr,σ⟩=xI (cE fr σ i) d K fr:=by
 have hp:bm fr σ i=none:=by
  cases h:bm fr σ i with
  | none=>rfl
  | some r=>rw[yO h]at hs;simp at hs
 simp only[gI];cases i<;>first | (simp[I.dh]at hs;done) | exact absurd rfl (hc _ _) | exact absurd rfl (hv _ _) | skip
 all_goals
  simp only[lE,xI,hp];generalize cE fr σ _=r;cases r<;>rfl
theorem aaq{P:Program}{d:Option Nat}{K:St→Prop}{fr:List V}{σ:ag}{x:O}:gI P ⟨d,[],.k6 x⟩ K ⟨fr,σ⟩=pI (bm fr σ (.k6 x)) d K fr σ:=kQ rfl
theorem W1{P:Program}{d:Option Nat}{K:St→Prop}{fr:List V}{σ:ag}{c a b:O}:gI P ⟨d,[],.pick c a b⟩ K ⟨fr,σ⟩=pI (bm fr σ (.pick c a b)) d K fr σ:=kQ rfl
theorem TL{P:Program}{d:Option Nat}{K:St→Prop}{fr:List V}{σ:ag}{zs:List V}{ps:List (Nat×Nat×O)}:gI P ⟨d,[],.build zs ps⟩ K ⟨fr,σ⟩=pI (bm fr σ (.build zs ps)) d K fr σ:=kQ rfl
theorem Qx{P:Program}{d:Option Nat}{K:St→Prop}{fr:List V}{σ:ag}{sz:Nat}{szs:List (Option Nat)}{xs:List O}:gI P ⟨d,[],.dj sz szs xs⟩ K ⟨fr,σ⟩=pI (bm fr σ (.dj sz szs xs)) d K fr σ:=kQ rfl
theorem W7{P:Program}{d:Option Nat}{K:St→Prop}{fr:List V}{σ:ag}{k:Option Nat}{a:O}:gI P ⟨d,[],.load k a⟩ K ⟨fr,σ⟩=pI (bm fr σ (.load k a)) d K fr σ:=kQ rfl
theorem TJ{P:Program}{d:Option Nat}{K:St→Prop}{fr:List V}{σ:ag}{x:O}:gI P ⟨d,[],.lF x⟩ K ⟨fr,σ⟩=pI (bm fr σ (.lF x)) d K fr σ:=kQ rfl
theorem aay{P:Program}{d:Option Nat}{K:St→Prop}{fr:List V}{σ:ag}{op:BinOp}{x y:O}:gI P ⟨d,[],.bin op x y⟩ K ⟨fr,σ⟩=pI (bm fr σ (.bin op x y)) d K fr σ:=kQ rfl
theorem aaz{P:Program}{d:Option Nat}{K:St→Prop}{fr:List V}{σ:ag}{neg:Bool}{ks:List Nat}{x y:O}:gI P ⟨d,[],.beq neg ks x y⟩ K ⟨fr,σ⟩=pI (bm fr σ (.beq neg ks x y)) d K fr σ:=kQ rfl
theorem aaA{P:Program}{d:Option Nat}{K:St→Prop}{fr:List V}{σ:ag}{neg:Bool}{x y:O}:gI P ⟨d,[],.XA neg x y⟩ K ⟨fr,σ⟩=pI (bm fr σ (.XA neg x y)) d K fr σ:=kQ rfl
theorem afe{P:Program}{d:Option Nat}{K:St→Prop}{fr:List V}{σ:ag}{op:UnOp}{x:O}:gI P ⟨d,[],.un op x⟩ K ⟨fr,σ⟩=pI (bm fr σ (.un op x)) d K fr σ:=kQ rfl
theorem aav{P:Program}{d:Option Nat}{K:St→Prop}{fr:List V}{σ:ag}{k:IntKind}{x:O}:gI P ⟨d,[],.cvi k x⟩ K ⟨fr,σ⟩=pI (bm fr σ (.cvi k x)) d K fr σ:=kQ rfl
theorem aaB{P:Program}{d:Option Nat}{K:St→Prop}{fr:List V}{σ:ag}{x:O}:gI P ⟨d,[],.ON x⟩ K ⟨fr,σ⟩=pI (bm fr σ (.ON x)) d K fr σ:=kQ rfl
theorem TI{P:Program}{d:Option Nat}{K:St→Prop}{fr:List V}{σ:ag}{sz:Nat}{x:O}{lo hi:Option O}:gI P ⟨d,[],.slice sz x lo hi⟩ K ⟨fr,σ⟩=pI (bm fr σ (.slice sz x lo hi)) d K fr σ:=kQ rfl
theorem Qv{P:Program}{d:Option Nat}{K:St→Prop}{fr:List V}{σ:ag}{x:O}{lo hi:Option O}:gI P ⟨d,[],.sf x lo hi⟩ K ⟨fr,σ⟩=pI (bm fr σ (.sf x lo hi)) d K fr σ:=kQ rfl
theorem aat{P:Program}{d:Option Nat}{K:St→Prop}{fr:List V}{σ:ag}{off:Nat}{x:O}:gI P ⟨d,[],.tE off x⟩ K ⟨fr,σ⟩=pI (bm fr σ (.tE off x)) d K fr σ:=kQ rfl
theorem aas{P:Program}{d:Option Nat}{K:St→Prop}{fr:List V}{σ:ag}{sz:Nat}{x i:O}:gI P ⟨d,[],.idx sz x i⟩ K ⟨fr,σ⟩=pI (bm fr σ (.idx sz x i)) d K fr σ:=kQ rfl
theorem W0{P:Program}{d:Option Nat}{K:St→Prop}{fr:List V}{σ:ag}{x i:O}:gI P ⟨d,[],.Jq x i⟩ K ⟨fr,σ⟩=pI (bm fr σ (.Jq x i)) d K fr σ:=kQ rfl
theorem aau{P:Program}{d:Option Nat}{K:St→Prop}{fr:List V}{σ:ag}{k:Nat}{x:O}:gI P ⟨d,[],.ext k x⟩ K ⟨fr,σ⟩=pI (bm fr σ (.ext k x)) d K fr σ:=kQ rfl
theorem aar{P:Program}{d:Option Nat}{K:St→Prop}{fr:List V}{σ:ag}{str:Bool}{x:O}:gI P ⟨d,[],.len str x⟩ K ⟨fr,σ⟩=pI (bm fr σ (.len str x)) d K fr σ:=kQ rfl
theorem W5{P:Program}{d:Option Nat}{K:St→Prop}{fr:List V}{σ:ag}{x y:O}:gI P ⟨d,[],.max2 x y⟩ K ⟨fr,σ⟩=pI (bm fr σ (.max2 x y)) d K fr σ:=kQ rfl
theorem W4{P:Program}{d:Option Nat}{K:St→Prop}{fr:List V}{σ:ag}{x y:O}:gI P ⟨d,[],.min2 x y⟩ K ⟨fr,σ⟩=pI (bm fr σ (.min2 x y)) d K fr σ:=kQ rfl
theorem W6{P:Program}{d:Option Nat}{K:St→Prop}{fr:List V}{σ:ag}{kd:Nat}{z:V}{ok:Bool}{m k:O}:gI P ⟨d,[],.look kd z ok m k⟩ K ⟨fr,σ⟩=pI (bm fr σ (.look kd z ok m k)) d K fr σ:=kQ rfl
theorem W3{P:Program}{d:Option Nat}{K:St→Prop}{fr:List V}{σ:ag}{x:O}:gI P ⟨d,[],.ET x⟩ K ⟨fr,σ⟩=pI (bm fr σ (.ET x)) d K fr σ:=kQ rfl
theorem aax{P:Program}{d:Option Nat}{K:St→Prop}{fr:List V}{σ:ag}{T:Nat}{x:O}:gI P ⟨d,[],.box T x⟩ K ⟨fr,σ⟩=xI (cE fr σ (.box T x)) d K fr:=yh rfl (by simp) (by simp)
theorem TM{P:Program}{d:Option Nat}{K:St→Prop}{fr:List V}{σ:ag}{T:Nat}{zs:List V}:gI P ⟨d,[],.alloc T zs⟩ K ⟨fr,σ⟩=xI (cE fr σ (.alloc T zs)) d K fr:=yh rfl (by simp) (by simp)
theorem TH{P:Program}{d:Option Nat}{K:St→Prop}{fr:List V}{σ:ag}{k:Nat}{szs:List (Option Nat)}{a x:O}:gI P ⟨d,[],.store k szs a x⟩ K ⟨fr,σ⟩=xI (cE fr σ (.store k szs a x)) d K fr:=yh rfl (by simp) (by simp)
theorem aaD{P:Program}{d:Option Nat}{K:St→Prop}{fr:List V}{σ:ag}{E sz by':Nat}{x y:O}:gI P ⟨d,[],.app E sz by' x y⟩ K ⟨fr,σ⟩=xI (cE fr σ (.app E sz by' x y)) d K fr:=yh rfl (by simp) (by simp)
theorem W9{P:Program}{d:Option Nat}{K:St→Prop}{fr:List V}{σ:ag}{E:Nat}{x y:O}:gI P ⟨d,[],.apps E x y⟩ K ⟨fr,σ⟩=xI (cE fr σ (.apps E x y)) d K fr:=yh rfl (by simp) (by simp)
theorem aff{P:Program}{d:Option Nat}{K:St→Prop}{fr:List V}{σ:ag}{E sz by':Nat}{zs:List V}{l c:O}:gI P ⟨d,[],.mk E sz by' zs l c⟩ K ⟨fr,σ⟩=xI (cE fr σ (.mk E sz by' zs l c)) d K fr:=yh rfl (by simp) (by simp)
theorem W8{P:Program}{d:Option Nat}{K:St→Prop}{fr:List V}{σ:ag}{E sz by':Nat}{szs:List (Option Nat)}{xs:List O}:gI P ⟨d,[],.Nc E sz by' szs xs⟩ K ⟨fr,σ⟩=xI (cE fr σ (.Nc E sz by' szs xs)) d K fr:=yh rfl (by simp) (by simp)
theorem TK{P:Program}{d:Option Nat}{K:St→Prop}{fr:List V}{σ:ag}{T E:Nat}:gI P ⟨d,[],.Dg T E⟩ K ⟨fr,σ⟩=xI (cE fr σ (.Dg T E)) d K fr:=yh rfl (by simp) (by simp)
theorem W2{P:Program}{d:Option Nat}{K:St→Prop}{fr:List V}{σ:ag}{kd:Nat}{szs:List (Option Nat)}{m k x:O}:gI P ⟨d,[],.Kj kd szs m k x⟩ K ⟨fr,σ⟩=xI (cE fr σ (.Kj kd szs m k x)) d K fr:=yh rfl (by simp) (by simp)
theorem Xa{P:Program}{d:Option Nat}{K:St→Prop}{fr:List V}{σ:ag}{n sz:Nat}{x i:O}:gI P ⟨d,[],.QW n sz x i⟩ K ⟨fr,σ⟩=pI (bm fr σ (.QW n sz x i)) d K fr σ:=kQ rfl
theorem aaC{P:Program}{d:Option Nat}{K:St→Prop}{fr:List V}{σ:ag}{n:Nat}{x:O}:gI P ⟨d,[],.asl n x⟩ K ⟨fr,σ⟩=pI (bm fr σ (.asl n x)) d K fr σ:=kQ rfl
theorem aaw{P:Program}{d:Option Nat}{K:St→Prop}{fr:List V}{σ:ag}{f:Nat}{xs:List O}:gI P ⟨d,[],.Xw f xs⟩ K ⟨fr,σ⟩=pI (bm fr σ (.Xw f xs)) d K fr σ:=kQ rfl
def gX(p:Pi)(r:Option Bool)(K:St→Prop)(fr:List V)(σ:ag):Prop :=
 match r with
 | none=>False
 | some c=>match p.i with
  | .load k a=>match ev fr a with
   | .ptr _ _=>qI (bm fr σ (.load k a)) c p.d K fr σ
   | _=>∃ v,(c=true→∃ ob,bm fr σ (.load k a)=some (ob,v)∧ob)∧K ⟨fu fr p.d v,σ⟩
  | i=>qI (bm fr σ i) c p.d K fr σ
theorem lR{P:Program}{p:Pi}{K:St→Prop}{fr:List V}{σ:ag}(hg:p.g≠[])(hc:∀ f args,p.i≠.call f args):gI P p K ⟨fr,σ⟩=gX p (chainB fr p.g) K fr σ:=by
 obtain⟨d,g,i⟩:=p;cases g with
 | nil=>exact absurd rfl hg
 | cons q qs =>
  simp only[gI,gX];cases chainB fr (q::qs)with
  | none=>rfl
  | some c =>
   simp only[Bm];cases i<;>first | rfl | exact absurd rfl (hc _ _)
theorem aad{P:Program}{d:Option Nat}{q:Nat×Bool}{qs:List (Nat×Bool)}{K:St→Prop}{fr:List V}{σ:ag}{x:O}:gI P ⟨d,q::qs,.k6 x⟩ K ⟨fr,σ⟩=gX ⟨d,q::qs,.k6 x⟩ (chainB fr (q::qs)) K fr σ:=lR (by simp) (by simp)
theorem WT{P:Program}{d:Option Nat}{q:Nat×Bool}{qs:List (Nat×Bool)}{K:St→Prop}{fr:List V}{σ:ag}{c a b:O}:gI P ⟨d,q::qs,.pick c a b⟩ K ⟨fr,σ⟩=gX ⟨d,q::qs,.pick c a b⟩ (chainB fr (q::qs)) K fr σ:=lR (by simp) (by simp)
theorem TE{P:Program}{d:Option Nat}{q:Nat×Bool}{qs:List (Nat×Bool)}{K:St→Prop}{fr:List V}{σ:ag}{zs:List V}{ps:List (Nat×Nat×O)}:gI P ⟨d,q::qs,.build zs ps⟩ K ⟨fr,σ⟩=gX ⟨d,q::qs,.build zs ps⟩ (chainB fr (q::qs)) K fr σ:=lR (by simp) (by simp)
theorem Qs{P:Program}{d:Option Nat}{q:Nat×Bool}{qs:List (Nat×Bool)}{K:St→Prop}{fr:List V}{σ:ag}{sz:Nat}{szs:List (Option Nat)}{xs:List O}:gI P ⟨d,q::qs,.dj sz szs xs⟩ K ⟨fr,σ⟩=gX ⟨d,q::qs,.dj sz szs xs⟩ (chainB fr (q::qs)) K fr σ:=lR (by simp) (by simp)
theorem WY{P:Program}{d:Option Nat}{q:Nat×Bool}{qs:List (Nat×Bool)}{K:St→Prop}{fr:List V}{σ:ag}{k:Option Nat}{a:O}:gI P ⟨d,q::qs,.load k a⟩ K ⟨fr,σ⟩=gX ⟨d,q::qs,.load k a⟩ (chainB fr (q::qs)) K fr σ:=lR (by simp) (by simp)
theorem TD{P:Program}{d:Option Nat}{q:Nat×Bool}{qs:List (Nat×Bool)}{K:St→Prop}{fr:List V}{σ:ag}{x:O}:gI P ⟨d,q::qs,.lF x⟩ K ⟨fr,σ⟩=gX ⟨d,q::qs,.lF x⟩ (chainB fr (q::qs)) K fr σ:=lR (by simp) (by simp)
theorem aaj{P:Program}{d:Option Nat}{q:Nat×Bool}{qs:List (Nat×Bool)}{K:St→Prop}{fr:List V}{σ:ag}{op:BinOp}{x y:O}:gI P ⟨d,q::qs,.bin op x y⟩ K ⟨fr,σ⟩=gX ⟨d,q::qs,.bin op x y⟩ (chainB fr (q::qs)) K fr σ:=lR (by simp) (by simp)
theorem aak{P:Program}{d:Option Nat}{q:Nat×Bool}{qs:List (Nat×Bool)}{K:St→Prop}{fr:List V}{σ:ag}{neg:Bool}{ks:List Nat}{x y:O}:gI P ⟨d,q::qs,.beq neg ks x y⟩ K ⟨fr,σ⟩=gX ⟨d,q::qs,.beq neg ks x y⟩ (chainB fr (q::qs)) K fr σ:=lR (by simp) (by simp)
theorem aal{P:Program}{d:Option Nat}{q:Nat×Bool}{qs:List (Nat×Bool)}{K:St→Prop}{fr:List V}{σ:ag}{neg:Bool}{x y:O}:gI P ⟨d,q::qs,.XA neg x y⟩ K ⟨fr,σ⟩=gX ⟨d,q::qs,.XA neg x y⟩ (chainB fr (q::qs)) K fr σ:=lR (by simp) (by simp)
theorem afd{P:Program}{d:Option Nat}{q:Nat×Bool}{qs:List (Nat×Bool)}{K:St→Prop}{fr:List V}{σ:ag}{op:UnOp}{x:O}:gI P ⟨d,q::qs,.un op x⟩ K ⟨fr,σ⟩=gX ⟨d,q::qs,.un op x⟩ (chainB fr (q::qs)) K fr σ:=lR (by simp) (by simp)
theorem aai{P:Program}{d:Option Nat}{q:Nat×Bool}{qs:List (Nat×Bool)}{K:St→Prop}{fr:List V}{σ:ag}{k:IntKind}{x:O}:gI P ⟨d,q::qs,.cvi k x⟩ K ⟨fr,σ⟩=gX ⟨d,q::qs,.cvi k x⟩ (chainB fr (q::qs)) K fr σ:=lR (by simp) (by simp)
theorem aam{P:Program}{d:Option Nat}{q:Nat×Bool}{qs:List (Nat×Bool)}{K:St→Prop}{fr:List V}{σ:ag}{x:O}:gI P ⟨d,q::qs,.ON x⟩ K ⟨fr,σ⟩=gX ⟨d,q::qs,.ON x⟩ (chainB fr (q::qs)) K fr σ:=lR (by simp) (by simp)
theorem TC{P:Program}{d:Option Nat}{q:Nat×Bool}{qs:List (Nat×Bool)}{K:St→Prop}{fr:List V}{σ:ag}{sz:Nat}{x:O}{lo hi:Option O}:gI P ⟨d,q::qs,.slice sz x lo hi⟩ K ⟨fr,σ⟩=gX ⟨d,q::qs,.slice sz x lo hi⟩ (chainB fr (q::qs)) K fr σ:=lR (by simp) (by simp)
theorem Qr{P:Program}{d:Option Nat}{q:Nat×Bool}{qs:List (Nat×Bool)}{K:St→Prop}{fr:List V}{σ:ag}{x:O}{lo hi:Option O}:gI P ⟨d,q::qs,.sf x lo hi⟩ K ⟨fr,σ⟩=gX ⟨d,q::qs,.sf x lo hi⟩ (chainB fr (q::qs)) K fr σ:=lR (by simp) (by simp)
theorem aag{P:Program}{d:Option Nat}{q:Nat×Bool}{qs:List (Nat×Bool)}{K:St→Prop}{fr:List V}{σ:ag}{off:Nat}{x:O}:gI P ⟨d,q::qs,.tE off x⟩ K ⟨fr,σ⟩=gX ⟨d,q::qs,.tE off x⟩ (chainB fr (q::qs)) K fr σ:=lR (by simp) (by simp)
theorem aaf{P:Program}{d:Option Nat}{q:Nat×Bool}{qs:List (Nat×Bool)}{K:St→Prop}{fr:List V}{σ:ag}{sz:Nat}{x i:O}:gI P ⟨d,q::qs,.idx sz x i⟩ K ⟨fr,σ⟩=gX ⟨d,q::qs,.idx sz x i⟩ (chainB fr (q::qs)) K fr σ:=lR (by simp) (by simp)
theorem WS{P:Program}{d:Option Nat}{q:Nat×Bool}{qs:List (Nat×Bool)}{K:St→Prop}{fr:List V}{σ:ag}{x i:O}:gI P ⟨d,q::qs,.Jq x i⟩ K ⟨fr,σ⟩=gX ⟨d,q::qs,.Jq x i⟩ (chainB fr (q::qs)) K fr σ:=lR (by simp) (by simp)
theorem aah{P:Program}{d:Option Nat}{q:Nat×Bool}{qs:List (Nat×Bool)}{K:St→Prop}{fr:List V}{σ:ag}{k:Nat}{x:O}:gI P ⟨d,q::qs,.ext k x⟩ K ⟨fr,σ⟩=gX ⟨d,q::qs,.ext k x⟩ (chainB fr (q::qs)) K fr σ:=lR (by simp) (by simp)
theorem aae{P:Program}{d:Option Nat}{q:Nat×Bool}{qs:List (Nat×Bool)}{K:St→Prop}{fr:List V}{σ:ag}{str:Bool}{x:O}:gI P ⟨d,q::qs,.len str x⟩ K ⟨fr,σ⟩=gX ⟨d,q::qs,.len str x⟩ (chainB fr (q::qs)) K fr σ:=lR (by simp) (by simp)
theorem WW{P:Program}{d:Option Nat}{q:Nat×Bool}{qs:List (Nat×Bool)}{K:St→Prop}{fr:List V}{σ:ag}{x y:O}:gI P ⟨d,q::qs,.max2 x y⟩ K ⟨fr,σ⟩=gX ⟨d,q::qs,.max2 x y⟩ (chainB fr (q::qs)) K fr σ:=lR (by simp) (by simp)
theorem WV{P:Program}{d:Option Nat}{q:Nat×Bool}{qs:List (Nat×Bool)}{K:St→Prop}{fr:List V}{σ:ag}{x y:O}:gI P ⟨d,q::qs,.min2 x y⟩ K ⟨fr,σ⟩=gX ⟨d,q::qs,.min2 x y⟩ (chainB fr (q::qs)) K fr σ:=lR (by simp) (by simp)
theorem WX{P:Program}{d:Option Nat}{q:Nat×Bool}{qs:List (Nat×Bool)}{K:St→Prop}{fr:List V}{σ:ag}{kd:Nat}{z:V}{ok:Bool}{m k:O}:gI P ⟨d,q::qs,.look kd z ok m k⟩ K ⟨fr,σ⟩=gX ⟨d,q::qs,.look kd z ok m k⟩ (chainB fr (q::qs)) K fr σ:=lR (by simp) (by simp)
theorem WU{P:Program}{d:Option Nat}{q:Nat×Bool}{qs:List (Nat×Bool)}{K:St→Prop}{fr:List V}{σ:ag}{x:O}:gI P ⟨d,q::qs,.ET x⟩ K ⟨fr,σ⟩=gX ⟨d,q::qs,.ET x⟩ (chainB fr (q::qs)) K fr σ:=lR (by simp) (by simp)
theorem ai{P:Program}{d:Option Nat}{f:Nat}{args:List O}{K:St→Prop}{fr:List V}{σ σ1:ag}{as:List V}{v:V}(h:PC P f as σ (fun r σ'=>r=v∧σ'=σ1))(ha:args.map (ev fr)=as)(hK:K ⟨fu fr d v,σ1⟩):
  gI P ⟨d,[],.call f args⟩ K ⟨fr,σ⟩:=by
 subst ha;exact h.mono fun r σ' ⟨e1,e2⟩=>by subst e1;subst e2;exact hK
theorem Ud{P:Program}{d:Option Nat}{f:Nat}{x:O}{args:List O}{K:St→Prop}{fr caps:List V}{σ σ1:ag}{as:List V}{v:V}(hx:ev fr x=.fn f caps)(hf:PO P f=true)(h:PC P f as σ (fun r σ'=>r=v∧σ'=σ1))(ha:args.map (ev fr)++caps=as)(hK:K ⟨fu fr d v,σ1⟩):
  gI P ⟨d,[],.zD x args⟩ K ⟨fr,σ⟩:=by
 subst ha;simp only[gI,lE,hx];exact⟨hf,h.mono fun r σ' ⟨e1,e2⟩=>by subst e1;subst e2;exact hK⟩
theorem cG{P:Program}{d:Option Nat}{f:Nat}{args:List O}{K:St→Prop}{fr:List V}{σ:ag}{as:List V}{Q:V→ag→Prop}(h:PC P f as σ Q)(ha:args.map (ev fr)=as)(hK:∀ r σ',Q r σ'→K ⟨fu fr d r,σ'⟩):
  gI P ⟨d,[],.call f args⟩ K ⟨fr,σ⟩:=by
 subst ha;exact h.mono hK
theorem bg{P:Program}{d:Option Nat}{q:Nat×Bool}{qs:List (Nat×Bool)}{f:Nat}{args:List O}{K:St→Prop}{fr:List V}{σ:ag}{as:List V}{v:V}{c:Bool}(hc:chainB fr (q::qs)=some c)(h:c=true→PC P f as σ (fun r σ'=>r=v∧σ'=σ))(ha:args.map (ev fr)=as)(hK:K ⟨fu fr d v,σ⟩):
  gI P ⟨d,q::qs,.call f args⟩ K ⟨fr,σ⟩:=by
 subst ha;simp only[gI,hc,Bm];exact⟨fun hc=>(h hc).mono fun r' σ' ⟨e1,e2⟩=>by subst e1;subst e2;exact hK,fun _=>⟨v,hK⟩⟩
theorem Lb{P:Program}{d:Option Nat}{q:Nat×Bool}{qs:List (Nat×Bool)}{f:Nat}{args:List O}{K:St→Prop}{fr:List V}{σ:ag}{as:List V}{Q:V→ag→Prop}{c:Bool}(hc:chainB fr (q::qs)=some c)(h:c=true→PC P f as σ Q)(ha:args.map (ev fr)=as)
  (hK:c=true→∀ r σ',Q r σ'→K ⟨fu fr d r,σ'⟩) (hN:c=false→∃ v,K ⟨fu fr d v,σ⟩):gI P ⟨d,q::qs,.call f args⟩ K ⟨fr,σ⟩:=by
 subst ha;simp only[gI,hc,Bm];exact⟨fun hc=>(h hc).mono (hK hc),hN⟩
def aaM(P:Program)(chk:List Pi)(ds:List (List Pi×Pi×List Pi))(last:List Pi)(K:St→Prop)(st:St):Prop:=(∀ p∈chk,D7 p st)∧tG P ds last K st
def mE:List Ob→List Ob→List Ob→(ag→Prop)→Prop
 | [],[],s,K=>K s
 | [],X::Xs,Y::s,K=>X=Y∧mE [] Xs s K
 | x::a,Xs,y::s,K=>x=y∧mE a Xs s K
 | _,_,_,_=>False
theorem sQ:∀ {a Xs s:List Ob} {K:ag→Prop},mE a Xs s K↔∃ ε,s=a++(Xs++ε)∧K ε
 | [],[],s,K=>by simp[mE]
 | [],X::Xs,[],K=>by simp[mE]
 | [],X::Xs,Y::s,K=>by
  simp only[mE,sQ (a:=[]) (Xs:=Xs),ak,aq,ca];constructor
  ·rintro⟨rfl,ε,h1,h2⟩;exact⟨ε,⟨rfl,h1⟩,h2⟩
  ·rintro⟨ε,⟨rfl,h1⟩,h2⟩;exact⟨rfl,ε,h1,h2⟩
 | x::a,Xs,[],K=>by simp[mE]
 | x::a,Xs,y::s,K=>by
  simp only[mE,sQ (a:=a) (Xs:=Xs),aq,ca];constructor
  ·rintro⟨rfl,ε,h1,h2⟩;exact⟨ε,⟨rfl,h1⟩,h2⟩
  ·rintro⟨ε,⟨rfl,h1⟩,h2⟩;exact⟨rfl,ε,h1,h2⟩
theorem Tz{σ:ag}{a Xs b:List Ob}{K:ag→Prop}:grown (σ++a) Xs (σ++b) K=mE a Xs b K:=by
 rw[eq_iff_iff,sQ,grown];simp only[List.append_assoc,aaW]
theorem Qp{σ:ag}{Xs b:List Ob}{K:ag→Prop}:grown σ Xs (σ++b) K=mE [] Xs b K:=by
 rw[eq_iff_iff,sQ,grown];simp only[ak,aaW]
theorem MN{s:List Ob}{K:ag→Prop}:mE [] [] s K=K s:=by cases s<;>rfl
theorem MO{X Y:Ob}{Xs s:List Ob}{K:ag→Prop}:mE [] (X::Xs) (Y::s) K=(X=Y∧mE [] Xs s K):=rfl
theorem MM{x y:Ob}{a Xs s:List Ob}{K:ag→Prop}:mE (x::a) Xs (y::s) K=(x=y∧mE a Xs s K):=by cases Xs<;>rfl
def abC(P:Program)(bx:List Ob)(chk:List Pi)(ds1 ds2:List (List Pi×Pi×List Pi))(last:List Pi)(K:St→Prop)(τ:ag)(Xs:List Ob)(st:St):Prop:=(∀ p∈chk,D7 p st)∧grown τ Xs st.σ (Aa P bx ds1 ds2 last K st.fr τ)
def aby(P:Program)(bx:List Ob)(L:Pi)(chk:List Pi)(ds1 ds2:List (List Pi×Pi×List Pi))(last:List Pi)(K:St→Prop)(τ ε:ag)(st:St):Prop:=Nj bx fun Xs=>gI P L (abC P bx chk ds1 ds2 last K τ Xs) ⟨st.fr,τ++(Xs++ε)⟩
def abx(P:Program)(L:Pi)(chk:List Pi)(ds:List (List Pi×Pi×List Pi))(last:List Pi)(K:St→Prop)(τ:ag)(st:St):Prop:=gI P L (aaM P chk ds last K) ⟨st.fr,τ⟩
def XU(K:St→Prop)(τ:ag)(st:St):Prop:=K ⟨st.fr,τ⟩
section
variable {P:Program} {bx:List Ob} {IM last:List Pi} {L:Pi} {chk:List Pi} {ds1 ds2:List (List Pi×Pi×List Pi)} {K:St→Prop} {fr:List V} {τ ε:ag}
theorem RN:Aa P bx [] [] last K fr τ ε=kW P [] last (XU K (τ++(bx++ε))) ⟨fr,τ++(kJ bx++ε)⟩:=rfl
theorem O6:Aa P bx [] ((IM,L,chk)::ds2) last K fr τ ε=kW P [] IM (abx P L chk ds2 last K (τ++(bx++ε))) ⟨fr,τ++(kJ bx++ε)⟩:=rfl
theorem O7:Aa P bx ((IM,L,chk)::ds1) ds2 last K fr τ ε=kW P [] IM (aby P bx L chk ds1 ds2 last K τ ε) ⟨fr,τ++(kJ bx++ε)⟩:=by cases ds2<;>rfl
end
theorem RO{P:Program}{last:List Pi}{K:St→Prop}{st:St}:tG P [] last K st=kW P [] last K st:=rfl
theorem O8{P:Program}{IM:List Pi}{L:Pi}{chk:List Pi}{ds:List (List Pi×Pi×List Pi)}{last:List Pi}{K:St→Prop}{st:St}:
  tG P ((IM,L,chk)::ds) last K st=kW P [] IM (gI P L (aaM P chk ds last K)) st:=rfl
theorem RP{P:Program}{gs:List Nat}{K:St→Prop}{fr:List V}{σ:ag}:kW P gs [] K ⟨fr,σ⟩=K ⟨Xv gs fr,σ⟩:=rfl
theorem O9{P:Program}{gs:List Nat}{p:Pi}{ps:List Pi}{K:St→Prop}{fr:List V}{σ:ag}:kW P gs (p::ps) K ⟨fr,σ⟩=gI P p (kW P gs ps K) ⟨fr,σ⟩:=rfl
theorem gr{σ l:ag}:(σ++l)[σ.length]?=l[0]?:=by rw[aN (aB _),iu]
theorem nC{σ l:ag}{k:Nat}:(σ++l)[σ.length+k]?=l[k]?:=by rw[aN (Uu _ _),cx]
theorem QU{σ l:ag}{x:Ob}:(σ++l).set σ.length x=σ++l.set 0 x:=by rw[fT _ _ (aB _),iu]
theorem kb{σ l:ag}{k:Nat}{x:Ob}:(σ++l).set (σ.length+k) x=σ++l.set k x:=by
 rw[fT _ _ (Uu _ _),cx]
theorem Un{σ l:ag}:(σ++l).length=σ.length+l.length:=List.length_append
def kc(id g sz:Nat)(rows:List (List V)):V→V
 | .own id' g'=>if id'=id∧g'=g then .sl sz rows else .own id' g'
 | .sub id' g' lo hi=>if id'=id∧g'=g then .sl sz ((rows.drop lo).take (hi - lo))else .sub id' g' lo hi
 | x=>x
def fz(id g sz:Nat)(rows:List (List V)):V→V
 | .agg xs=>.agg (xs.map (kc id g sz rows))
 | x=>kc id g sz rows x
theorem TO{P:Program}{B:Nat}{w0 w:World}{σ:ag}{μ:Mem}(hS:jw P B w0 w σ μ){id E sz by' g:Nat}{rows:List (List V)}(ho:σ[id]?=some (.row E sz by' g true rows)){x:V}{v:Value}(h:VR w σ μ x v):
  VR w σ μ (kc id g sz rows x) v:=by
 unfold kc;split
 ·split
  ·rename_i e;obtain⟨rfl,rfl⟩:=e;rw[h.lX ho];have:=VR.uB hS ho 0 rows.length (by omega) (aB _);rw[Cr hS ho]at this;simpa using this
  ·exact h
 ·split
  ·rename_i e;obtain⟨rfl,rfl⟩:=e;obtain⟨h1,h2,h3⟩:=h.zd ho;rw[h3];exact VR.uB hS ho _ _ h1 h2
  ·exact h
 ·exact h
theorem afh{P:Program}{B:Nat}{w0 w:World}{σ:ag}{μ:Mem}(hS:jw P B w0 w σ μ){id E sz by' g:Nat}{rows:List (List V)}(ho:σ[id]?=some (.row E sz by' g true rows)){x:V}{v:Value}(h:VR w σ μ x v):
  VR w σ μ (fz id g sz rows x) v:=by
 unfold fz;split
 ·rename_i xs;obtain⟨vs,rfl,h1,h2⟩:=h.qS;refine .agg _ _ (by simpa using h1) fun i y hy=>?_;rw[aZ,ar]at hy;obtain⟨z,hz,rfl⟩:=hy;exact TO hS ho (h2 i z hz)
 ·exact TO hS ho h
theorem Wk.fz{P:Program}{n:Nat}{xs:List V}{σ:ag}(id:Nat){E sz by' g:Nat}{sh:Bool}{rows:List (List V)}(ho:σ[id]?=some (.row E sz by' g sh rows)):
  Wk P n xs σ (xs.map (Pm.fz id g sz rows)) (σ.set id (.row E sz by' g true rows)):=by
 refine Wk.trans (Wk.share ho) ?_;have fk:id<σ.length:=(ae.1 ho).1;intro B w0 w μ vs hS hC;refine⟨μ,hS,⟨by simp[hC.1],fun i y hy=>?_⟩,fP.refl _ _ _ _⟩;rw[aZ,ar]at hy;obtain⟨z,hz,rfl⟩:=hy;exact afh hS (by rw[aF fk]) (hC.2 i z hz)
theorem Wk.one{P:Program}{n:Nat}{xs xs':List V}{σ σ':ag}(h:Wk P n xs σ xs' σ')(hl:xs'.length=xs.length):Wk P n [Pm.one xs] σ [Pm.one xs'] σ':=by
 intro B w0 w μ vs hS hC;have h0:=hC.2 0 _ rfl
 have fin:∀ {w':World} {ys:List V} {us:Array Value} {μ':Mem},CR w' σ' μ' ys us→ys.length≠1→VR w' σ' μ' (Pm.one ys) (.tuple us):=by
  intro w' ys us μ' h1 h2
  match ys,h1,h2 with
  | [],h1,_=>exact .iK _ _ h1.1 h1.2
  | x::y::ys,h1,_=>exact .iK _ _ h1.1 h1.2
  | [x],_,h2=>exact absurd rfl h2
 by_cases h1:xs.length=1
 ·match xs,h1,h,hl,h0 with
  | [x],_,h,hl,h0 =>
   match xs',hl,h with
   | [x'],_,h =>
    exact h B w0 w μ vs hS ⟨hC.1,fun i y hy=>hC.2 i y hy⟩
 ·have hx:Pm.one xs=.iK xs:=by
   match xs,h1 with
   | [],_=>rfl
   | x::y::xs,_=>rfl
   | [x],h1=>exact absurd rfl h1
  rw[hx]at h0;obtain⟨us,hv,h2,h3⟩:=h0.H6;obtain⟨μ',h4,h5,h6⟩:=h B w0 w μ us hS ⟨h2,h3⟩;refine⟨μ',h4,⟨hC.1,fun i y hy=>?_⟩,h6⟩;cases i with
  | zero =>
   simp only[ao,aa]at hy;subst hy;rw[hv];exact fin h5 (by rw[hl];exact h1)
  | succ i=>simp at hy
theorem ed{P:Program}{n:Nat}{rs:List Rs}{Q:V→ag→Prop}{e:Exit}{st:St}{xs xs':List V}{σ':ag}(he:e=.normal∨e=.ret)(hx:kO st rs=some xs)(hw:Wk P n xs st.σ xs' σ')(hl:xs'.length=xs.length)(hQ:Q (one xs') σ'):
  BI P n rs Q e st:=⟨he,xs,hx,_,_,hw.one hl,hQ⟩
def gM(m:Nat):List V→Prop
 | []=>True
 | x::xs=>x.Lt m∧gM m xs
theorem eX{m:Nat}:∀ {xs:List V},gM m xs↔∀ (i:Nat) (x:V),xs[i]?=some x→x.Lt m
 | []=>by simp[gM]
 | y::xs=>by
  rw[gM,eX];constructor
  ·rintro⟨h1,h2⟩ i x hx;cases i with
   | zero=>simp only[ao,aa]at hx;subst hx;exact h1
   | succ i=>exact h2 i x (by simpa using hx)
  ·intro h;exact⟨h 0 y rfl,fun i x hx=>h (i+1) x (by simpa using hx)⟩
section
variable {m:Nat}
theorem aec:V.u.Lt m↔True:=⟨fun _=>trivial,fun _=>.u⟩
theorem aeh{x}:(V.b x).Lt m↔True:=⟨fun _=>trivial,fun _=>.b _⟩
theorem Vs{k a}:(V.i k a).Lt m↔True:=⟨fun _=>trivial,fun _=>.i _ _⟩
theorem aed{l}:(V.s l).Lt m↔True:=⟨fun _=>trivial,fun _=>.s _⟩
theorem Y1:V.nil.Lt m↔True:=⟨fun _=>trivial,fun _=>.nil⟩
theorem Y2{sz xs}:(V.lit sz xs).Lt m↔True:=⟨fun _=>trivial,fun _=>.lit _ _⟩
theorem uG{sz xs}:(V.sl sz xs).Lt m↔True:=⟨fun _=>trivial,fun _=>.sl _ _⟩
theorem aeg{sz xs i o}:(V.ep sz xs i o).Lt m↔True:=⟨fun _=>trivial,fun _=>.ep _ _ _ _⟩
theorem PT:V.jc.Lt m↔True:=⟨fun _=>trivial,fun _=>.jc⟩
theorem PS:V.jO.Lt m↔True:=⟨fun _=>trivial,fun _=>.jO⟩
theorem Y0{id g}:(V.own id g).Lt m↔id<m:=⟨fun h=>by cases h;assumption,fun h=>.own _ _ h⟩
theorem YZ{id g lo hi}:(V.sub id g lo hi).Lt m↔id<m:=⟨fun h=>by cases h;assumption,fun h=>.sub _ _ _ _ h⟩
theorem Sx{id o}:(V.ptr id o).Lt m↔id<m:=⟨fun h=>by cases h;assumption,fun h=>.ptr _ _ h⟩
theorem aee{id g i o}:(V.rp id g i o).Lt m↔id<m:=⟨fun h=>by cases h;assumption,fun h=>.rp _ _ _ _ h⟩
theorem aef{id}:(V.mp id).Lt m↔id<m:=⟨fun h=>by cases h;assumption,fun h=>.mp _ h⟩
theorem Y3{xs}:(V.agg xs).Lt m↔gM m xs:=by
 rw[eX];exact⟨fun h=>by cases h;assumption,fun h=>.agg _ h⟩
theorem YY{xs}:(V.iK xs).Lt m↔gM m xs:=by
 rw[eX];exact⟨fun h=>by cases h;assumption,fun h=>.iK _ h⟩
end
theorem Wk.Fb{P:Program}{xs:List V}{σ loc:ag}(aQ:bP σ)(hx:gM σ.length xs):Wk P σ.length xs (σ++loc) xs σ:=Wk.r3 (aB _) aQ (eX.1 hx)
theorem aG{P:Program}{rs:List Rs}{Q:V→ag→Prop}{e:Exit}{fr:List V}{σ loc:ag}{xs:List V}(aQ:bP σ)(he:e=.normal∨e=.ret)(hx:kO ⟨fr,σ++loc⟩ rs=some xs)(hl:gM σ.length xs)(hQ:Q (one xs) σ):
  BI P σ.length rs Q e ⟨fr,σ++loc⟩:=ed he hx (Wk.Fb aQ hl) rfl hQ
theorem dv{P:Program}{rs:List Rs}{Q:V→ag→Prop}{e:Exit}{fr:List V}{σ loc:ag}{xs ys:List V}(aQ:bP σ)(he:e=.normal∨e=.ret)(hx:kO ⟨fr,σ++loc⟩ rs=some xs)(hc:pH xs ys)(hl:gM σ.length ys)(hQ:Q (one ys) σ):
  BI P σ.length rs Q e ⟨fr,σ++loc⟩:=ed he hx ((Wk.ej hc).trans (Wk.Fb aQ hl)) hc.at.1 hQ
end Go.Pm

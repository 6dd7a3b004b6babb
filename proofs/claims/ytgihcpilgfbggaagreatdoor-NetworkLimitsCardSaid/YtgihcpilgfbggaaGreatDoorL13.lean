/- A part of the proof that for every input the law NetworkLimits returns true and leaves its argument as it was. -/
import Derived.Test.YtgihcpilgfbggaaGreatDoorL12
set_option linter.all false

namespace Go.Pm
open Go Go.RowKit
def fp(n:Nat)(P:Program)(c:bj)(K:Exit→St→Prop):Nat→St→Prop
 | 0,_=>False
 | N+1,st=>bX n P c (fun e=>match e with
  | .normal=>fp n P c K N
  | e=>K e) st
theorem bX.ml{n:Nat}{P:Program}{c:bj}{K:Exit→St→Prop}{st:St}(N:Nat)(h:fp n P c K N st):bX n P (.loop c) K st:=by
 intro code hc;cases code
 case loop c' =>
  simp only[fc,ak,bj.loop.injEq]at hc;obtain⟨c2,vz,rfl⟩:=hc;intro B w0 w μ a hs hf;refine pd N (fun k a2 w2=>∃ st2 μ2,fp n P c2 K k st2∧gM P B w0 w2 st2.σ μ2∧FR w2 st2.σ μ2 st2.fr a2∧fe n w st.σ μ w2 st2.σ μ2) ⟨st,μ,h,hs,hf,fe.refl _ _ _ _⟩ ?_;rintro k a2 w2 ⟨st2,μ2,Yd,WJ,PB,qR⟩;cases k with
  | zero=>exact Yd.elim
  | succ k =>
   refine wp_mono (Yd c' vz B w0 w2 μ2 a2 WJ PB) ?_;rintro e a' w' ⟨st',μ',hK,hs',hf',hk⟩;cases e with
   | normal=>exact⟨k,Nat.lt_succ_self k,st',μ',hK,hs',hf',qR.trans hk⟩
   | exit id=>exact⟨st',μ',hK,hs',hf',qR.trans hk⟩
   | goto l=>exact⟨st',μ',hK,hs',hf',qR.trans hk⟩
   | ret=>exact⟨st',μ',hK,hs',hf',qR.trans hk⟩
   | panic c=>exact⟨st',μ',hK,hs',hf',qR.trans hk⟩
   | outgrown=>exact⟨st',μ',hK,hs',hf',qR.trans hk⟩
 all_goals first | (exfalso;revert hc;simp only[fc];try ((repeat' split)<;>simp);done) | (rename_i _ ops draw;exfalso;cases draw<;>simp only[fc]at hc<;>first | (obtain⟨_,_,_,h⟩:=ig hc;simp at h;done) | (rcases gr hc with⟨_,_,_,_,h,_⟩ | ⟨_,_,h,_⟩ | ⟨_,_,_,_,_,_,h,_⟩<;>simp at h;done))
def zJ(id:Nat)(K:Exit→St→Prop):Exit→St→Prop
 | .exit id'=>if id'=id then K .normal else K (.exit id')
 | e=>K e
def UD(n:Nat)(P:Program)(c:bj)(K:Exit→St→Prop)(N:Nat):Exit→St→Prop
 | .normal=>fp n P c K N
 | e=>K e
def KY(k:St→Prop)(K:Exit→St→Prop):Exit→St→Prop
 | .normal=>k
 | e=>K e
def Ik(P:Program):bj→(St→Prop)→St→Prop
 | .df ds last gs tail,k,st=>px P ds last (jv P gs tail k) st
 | _,_,_=>False
theorem ES{P:Program}{c:bj}{k:St→Prop}{st:St}(h:Ik P c k st):∃ ds last gs tail,c=.df ds last gs tail∧px P ds last (jv P gs tail k) st:=by
 cases c with
 | df ds last gs tail=>exact⟨ds,last,gs,tail,rfl,h⟩
 | _=>exact h.elim
def vI(n:Nat)(P:Program):bj→(Exit→St→Prop)→St→Prop
 | .skip,K,st=>K .normal st
 | .aj gs is,K,st=>jv P gs is (K .normal) st
 | .df ds last gs tail,K,st=>px P ds last (jv P gs tail (K .normal)) st
 | .seq a b,K,st=>vI n P a (KY (vI n P b K) K) st
 | .ite c a b,K,st=>match ev st.fr c with
  | .b x=>(x=true→vI n P a K st)∧(x=false→vI n P b K st)
  | _=>False
 | .block id c,K,st=>vI n P c (zJ id K) st
 | .loop c,K,st=>bX n P (.loop c) K st
 | .exit id,K,st=>K (.exit id) st
 | .ret,K,st=>K .ret st
 | .both a b,K,st=>Ik P a (K .normal) st∧Ik P b (K .normal) st
 | .M1 fls ds1 ds2 last gs tail,K,st=>tQ P (E4 fls) ds1 ds2 last (jv P gs tail (K .normal)) (sB st.σ.length fls st.fr) st.σ []
theorem al{n:Nat}{P:Program}:∀ {c:bj} {K:Exit→St→Prop} {st:St},vI n P c K st→bX n P c K st
 | .skip,_,_,h=>bX.skip h
 | .aj _ _,_,_,h=>bX.aj h
 | .df _ _ _ _,_,_,h=>bX.df h
 | .seq a b,K,st,h=>bX.seq ((al (c:=a) h).mono fun e st' hk=>by
   cases e with
   | normal=>exact al (c:=b) hk
   | _=>exact hk)
 | .ite c a b,K,st,h=>by
  simp only[vI]at h;split at h
  ·rename_i x hx;exact bX.ite hx (fun hb=>al (h.1 hb)) fun hb=>al (h.2 hb)
  ·exact h.elim
 | .block id c,K,st,h=>bX.block ((al (c:=c) h).mono fun e st' hk=>by
   cases e with
   | exit id' =>
    simp only[zJ]at hk;simp only[uU];split at hk<;>rename_i h1<;>simp only[h1,if_true,if_false]<;>exact hk
   | _=>exact hk)
 | .loop _,_,_,h=>h
 | .exit _,_,_,h=>bX.exit h
 | .ret,_,_,h=>bX.ret h
 | .both _ _,_,_,h=>bX.both (ES h.1) (ES h.2)
 | .M1 ..,_,_,h=>bX.M1 h
theorem Nl:E4 []=[]:=rfl
theorem Ka(d T:Nat)(zs:List V)(r:List (Nat×Nat×List V)):E4 ((d,T,zs)::r)=.box T zs::E4 r:=rfl
theorem J4:iR []=[]:=rfl
theorem GO(o:Ob)(r:List Ob):iR (o::r)=.dead::iR r:=rfl
theorem KV(n:Nat)(fr:List V):sB n [] fr=fr:=rfl
theorem IJ(n d T:Nat)(zs:List V)(r:List (Nat×Nat×List V))(fr:List V):sB n ((d,T,zs)::r) fr=sB (n+1) r (fr.set d (.ptr n 0)):=rfl
theorem K7{n:Nat}{P:Program}{c:bj}{K:Exit→St→Prop}{N:Nat}{st:St}(h:vI n P c (UD n P c K N) st):fp n P c K (N+1) st:=by
 simp only[fp];exact(al h).mono fun e st' hk=>by cases e<;>exact hk
theorem E8{id:Nat}{K:Exit→St→Prop}:zJ id K .normal=K .normal:=rfl
theorem Np{id:Nat}{K:Exit→St→Prop}:zJ id K .ret=K .ret:=rfl
theorem Kb{id:Nat}{K:Exit→St→Prop}:zJ id K (.exit id)=K .normal:=by simp only[zJ,if_true]
theorem Kc{id id':Nat}{K:Exit→St→Prop}:zJ id K (.exit id')=if id'=id then K .normal else K (.exit id'):=rfl
theorem DH{k:St→Prop}{K:Exit→St→Prop}:KY k K .normal=k:=rfl
theorem KX{k:St→Prop}{K:Exit→St→Prop}:KY k K .ret=K .ret:=rfl
theorem IK{k:St→Prop}{K:Exit→St→Prop}{id:Nat}:KY k K (.exit id)=K (.exit id):=rfl
def pI(r:Option (Prop×V))(d:Option Nat)(K:St→Prop)(fr:List V)(σ:ah):Prop :=
 match r with
 | some (ob,v)=>ob∧K ⟨ez fr d v,σ⟩
 | none=>False
def xI(r:Option (Prop×V×ah))(d:Option Nat)(K:St→Prop)(fr:List V):Prop :=
 match r with
 | some (ob,v,σ')=>ob∧K ⟨ez fr d v,σ'⟩
 | none=>False
def qI(r:Option (Prop×V))(c:Bool)(d:Option Nat)(K:St→Prop)(fr:List V)(σ:ah):Prop :=
 match r with
 | some (ob,v)=>(c=true→ob)∧K ⟨ez fr d v,σ⟩
 | none=>False
theorem Og{ob:Prop}{v:V}{d:Option Nat}{K:St→Prop}{fr:List V}{σ:ah}:pI (some (ob,v)) d K fr σ=(ob∧K ⟨ez fr d v,σ⟩):=rfl
theorem NW{ob:Prop}{v:V}{d:Option Nat}{K:St→Prop}{fr:List V}{σ':ah}:xI (some (ob,v,σ')) d K fr=(ob∧K ⟨ez fr d v,σ'⟩):=rfl
theorem Oe{ob:Prop}{v:V}{c:Bool}{d:Option Nat}{K:St→Prop}{fr:List V}{σ:ah}:qI (some (ob,v)) c d K fr σ=((c=true→ob)∧K ⟨ez fr d v,σ⟩):=rfl
theorem iW{P:Program}{d:Option Nat}{i:I}{K:St→Prop}{fr:List V}{σ:ah}(hs:i.cx=true):gI P ⟨d,[],i⟩ K ⟨fr,σ⟩=pI (aS fr σ i) d K fr σ:=by
 have hx:=sq (fr:=fr) (σ:=σ) hs;simp only[gI];cases i<;>first | (simp[I.cx]at hs;done) | skip
 all_goals
  simp only[jn,pI,hx];generalize aS fr σ _=r;cases r<;>rfl
theorem ry{P:Program}{d:Option Nat}{i:I}{K:St→Prop}{fr:List V}{σ:ah}(hs:i.cx=false)(hc:∀ f args,i≠.call f args)(hv:∀ x args,i≠.jy x args):gI P ⟨d,[],i⟩ K ⟨fr,σ⟩=xI (cd fr σ i) d K fr:=by
 have hp:aS fr σ i=none:=by
  cases h:aS fr σ i with
  | none=>rfl
  | some r=>rw[sP h]at hs;simp at hs
 simp only[gI];cases i<;>first | (simp[I.cx]at hs;done) | exact absurd rfl (hc _ _) | exact absurd rfl (hv _ _) | skip
 all_goals
  simp only[jn,xI,hp];generalize cd fr σ _=r;cases r<;>rfl
theorem Tq{P:Program}{d:Option Nat}{K:St→Prop}{fr:List V}{σ:ah}{x:O}:gI P ⟨d,[],.aK x⟩ K ⟨fr,σ⟩=pI (aS fr σ (.aK x)) d K fr σ:=iW rfl
theorem PZ{P:Program}{d:Option Nat}{K:St→Prop}{fr:List V}{σ:ah}{c a b:O}:gI P ⟨d,[],.pick c a b⟩ K ⟨fr,σ⟩=pI (aS fr σ (.pick c a b)) d K fr σ:=iW rfl
theorem MS{P:Program}{d:Option Nat}{K:St→Prop}{fr:List V}{σ:ah}{zs:List V}{ps:List (Nat×Nat×O)}:gI P ⟨d,[],.build zs ps⟩ K ⟨fr,σ⟩=pI (aS fr σ (.build zs ps)) d K fr σ:=iW rfl
theorem JZ{P:Program}{d:Option Nat}{K:St→Prop}{fr:List V}{σ:ah}{sz:Nat}{szs:List (Option Nat)}{xs:List O}:gI P ⟨d,[],.bQ sz szs xs⟩ K ⟨fr,σ⟩=pI (aS fr σ (.bQ sz szs xs)) d K fr σ:=iW rfl
theorem P7{P:Program}{d:Option Nat}{K:St→Prop}{fr:List V}{σ:ah}{k:Option Nat}{a:O}:gI P ⟨d,[],.load k a⟩ K ⟨fr,σ⟩=pI (aS fr σ (.load k a)) d K fr σ:=iW rfl
theorem MQ{P:Program}{d:Option Nat}{K:St→Prop}{fr:List V}{σ:ah}{x:O}:gI P ⟨d,[],.dF x⟩ K ⟨fr,σ⟩=pI (aS fr σ (.dF x)) d K fr σ:=iW rfl
theorem Tz{P:Program}{d:Option Nat}{K:St→Prop}{fr:List V}{σ:ah}{op:BinOp}{x y:O}:gI P ⟨d,[],.bin op x y⟩ K ⟨fr,σ⟩=pI (aS fr σ (.bin op x y)) d K fr σ:=iW rfl
theorem TA{P:Program}{d:Option Nat}{K:St→Prop}{fr:List V}{σ:ah}{neg:Bool}{ks:List Nat}{x y:O}:gI P ⟨d,[],.beq neg ks x y⟩ K ⟨fr,σ⟩=pI (aS fr σ (.beq neg ks x y)) d K fr σ:=iW rfl
theorem TB{P:Program}{d:Option Nat}{K:St→Prop}{fr:List V}{σ:ah}{neg:Bool}{x y:O}:gI P ⟨d,[],.NS neg x y⟩ K ⟨fr,σ⟩=pI (aS fr σ (.NS neg x y)) d K fr σ:=iW rfl
theorem Xp{P:Program}{d:Option Nat}{K:St→Prop}{fr:List V}{σ:ah}{op:UnOp}{x:O}:gI P ⟨d,[],.un op x⟩ K ⟨fr,σ⟩=pI (aS fr σ (.un op x)) d K fr σ:=iW rfl
theorem Tv{P:Program}{d:Option Nat}{K:St→Prop}{fr:List V}{σ:ah}{k:IntKind}{x:O}:gI P ⟨d,[],.rn k x⟩ K ⟨fr,σ⟩=pI (aS fr σ (.rn k x)) d K fr σ:=iW rfl
theorem TC{P:Program}{d:Option Nat}{K:St→Prop}{fr:List V}{σ:ah}{x:O}:gI P ⟨d,[],.yx x⟩ K ⟨fr,σ⟩=pI (aS fr σ (.yx x)) d K fr σ:=iW rfl
theorem MP{P:Program}{d:Option Nat}{K:St→Prop}{fr:List V}{σ:ah}{sz:Nat}{x:O}{lo hi:Option O}:gI P ⟨d,[],.slice sz x lo hi⟩ K ⟨fr,σ⟩=pI (aS fr σ (.slice sz x lo hi)) d K fr σ:=iW rfl
theorem JX{P:Program}{d:Option Nat}{K:St→Prop}{fr:List V}{σ:ah}{x:O}{lo hi:Option O}:gI P ⟨d,[],.fv x lo hi⟩ K ⟨fr,σ⟩=pI (aS fr σ (.fv x lo hi)) d K fr σ:=iW rfl
theorem Tt{P:Program}{d:Option Nat}{K:St→Prop}{fr:List V}{σ:ah}{off:Nat}{x:O}:gI P ⟨d,[],.eG off x⟩ K ⟨fr,σ⟩=pI (aS fr σ (.eG off x)) d K fr σ:=iW rfl
theorem Ts{P:Program}{d:Option Nat}{K:St→Prop}{fr:List V}{σ:ah}{sz:Nat}{x i:O}:gI P ⟨d,[],.idx sz x i⟩ K ⟨fr,σ⟩=pI (aS fr σ (.idx sz x i)) d K fr σ:=iW rfl
theorem PY{P:Program}{d:Option Nat}{K:St→Prop}{fr:List V}{σ:ah}{x i:O}:gI P ⟨d,[],.gQ x i⟩ K ⟨fr,σ⟩=pI (aS fr σ (.gQ x i)) d K fr σ:=iW rfl
theorem Tu{P:Program}{d:Option Nat}{K:St→Prop}{fr:List V}{σ:ah}{k:Nat}{x:O}:gI P ⟨d,[],.ext k x⟩ K ⟨fr,σ⟩=pI (aS fr σ (.ext k x)) d K fr σ:=iW rfl
theorem Tr{P:Program}{d:Option Nat}{K:St→Prop}{fr:List V}{σ:ah}{str:Bool}{x:O}:gI P ⟨d,[],.len str x⟩ K ⟨fr,σ⟩=pI (aS fr σ (.len str x)) d K fr σ:=iW rfl
theorem P5{P:Program}{d:Option Nat}{K:St→Prop}{fr:List V}{σ:ah}{x y:O}:gI P ⟨d,[],.max2 x y⟩ K ⟨fr,σ⟩=pI (aS fr σ (.max2 x y)) d K fr σ:=iW rfl
theorem P4{P:Program}{d:Option Nat}{K:St→Prop}{fr:List V}{σ:ah}{x y:O}:gI P ⟨d,[],.min2 x y⟩ K ⟨fr,σ⟩=pI (aS fr σ (.min2 x y)) d K fr σ:=iW rfl
theorem P6{P:Program}{d:Option Nat}{K:St→Prop}{fr:List V}{σ:ah}{kd:Nat}{z:V}{ok:Bool}{m k:O}:gI P ⟨d,[],.look kd z ok m k⟩ K ⟨fr,σ⟩=pI (aS fr σ (.look kd z ok m k)) d K fr σ:=iW rfl
theorem P3{P:Program}{d:Option Nat}{K:St→Prop}{fr:List V}{σ:ah}{x:O}:gI P ⟨d,[],.zb x⟩ K ⟨fr,σ⟩=pI (aS fr σ (.zb x)) d K fr σ:=iW rfl
theorem Ty{P:Program}{d:Option Nat}{K:St→Prop}{fr:List V}{σ:ah}{T:Nat}{x:O}:gI P ⟨d,[],.box T x⟩ K ⟨fr,σ⟩=xI (cd fr σ (.box T x)) d K fr:=ry rfl (by simp) (by simp)
theorem MT{P:Program}{d:Option Nat}{K:St→Prop}{fr:List V}{σ:ah}{T:Nat}{zs:List V}:gI P ⟨d,[],.alloc T zs⟩ K ⟨fr,σ⟩=xI (cd fr σ (.alloc T zs)) d K fr:=ry rfl (by simp) (by simp)
theorem MO{P:Program}{d:Option Nat}{K:St→Prop}{fr:List V}{σ:ah}{k:Nat}{szs:List (Option Nat)}{a x:O}:gI P ⟨d,[],.store k szs a x⟩ K ⟨fr,σ⟩=xI (cd fr σ (.store k szs a x)) d K fr:=ry rfl (by simp) (by simp)
theorem TE{P:Program}{d:Option Nat}{K:St→Prop}{fr:List V}{σ:ah}{E sz by':Nat}{x y:O}:gI P ⟨d,[],.app E sz by' x y⟩ K ⟨fr,σ⟩=xI (cd fr σ (.app E sz by' x y)) d K fr:=ry rfl (by simp) (by simp)
theorem P9{P:Program}{d:Option Nat}{K:St→Prop}{fr:List V}{σ:ah}{E:Nat}{x y:O}:gI P ⟨d,[],.apps E x y⟩ K ⟨fr,σ⟩=xI (cd fr σ (.apps E x y)) d K fr:=ry rfl (by simp) (by simp)
theorem Xq{P:Program}{d:Option Nat}{K:St→Prop}{fr:List V}{σ:ah}{E sz by':Nat}{zs:List V}{l c:O}:gI P ⟨d,[],.mk E sz by' zs l c⟩ K ⟨fr,σ⟩=xI (cd fr σ (.mk E sz by' zs l c)) d K fr:=ry rfl (by simp) (by simp)
theorem P8{P:Program}{d:Option Nat}{K:St→Prop}{fr:List V}{σ:ah}{E sz by':Nat}{szs:List (Option Nat)}{xs:List O}:gI P ⟨d,[],.E7 E sz by' szs xs⟩ K ⟨fr,σ⟩=xI (cd fr σ (.E7 E sz by' szs xs)) d K fr:=ry rfl (by simp) (by simp)
theorem MR{P:Program}{d:Option Nat}{K:St→Prop}{fr:List V}{σ:ah}{T E:Nat}:gI P ⟨d,[],.pk T E⟩ K ⟨fr,σ⟩=xI (cd fr σ (.pk T E)) d K fr:=ry rfl (by simp) (by simp)
theorem P2{P:Program}{d:Option Nat}{K:St→Prop}{fr:List V}{σ:ah}{kd:Nat}{szs:List (Option Nat)}{m k x:O}:gI P ⟨d,[],.vT kd szs m k x⟩ K ⟨fr,σ⟩=xI (cd fr σ (.vT kd szs m k x)) d K fr:=ry rfl (by simp) (by simp)
theorem Qa{P:Program}{d:Option Nat}{K:St→Prop}{fr:List V}{σ:ah}{n sz:Nat}{x i:O}:gI P ⟨d,[],.C2 n sz x i⟩ K ⟨fr,σ⟩=pI (aS fr σ (.C2 n sz x i)) d K fr σ:=iW rfl
theorem TD{P:Program}{d:Option Nat}{K:St→Prop}{fr:List V}{σ:ah}{n:Nat}{x:O}:gI P ⟨d,[],.TS n x⟩ K ⟨fr,σ⟩=pI (aS fr σ (.TS n x)) d K fr σ:=iW rfl
theorem Tx{P:Program}{d:Option Nat}{K:St→Prop}{fr:List V}{σ:ah}{f:Nat}{xs:List O}:gI P ⟨d,[],.NQ f xs⟩ K ⟨fr,σ⟩=pI (aS fr σ (.NQ f xs)) d K fr σ:=iW rfl
theorem Tw{P:Program}{d:Option Nat}{K:St→Prop}{fr:List V}{σ:ah}{sz:Nat}{zs:List V}{x:O}:gI P ⟨d,[],.Dd sz zs x⟩ K ⟨fr,σ⟩=xI (cd fr σ (.Dd sz zs x)) d K fr:=ry rfl (by simp) (by simp)
def gX(p:Pi)(r:Option Bool)(K:St→Prop)(fr:List V)(σ:ah):Prop :=
 match r with
 | none=>False
 | some c=>match p.i with
  | .load k a=>match ev fr a with
   | .ptr _ _=>qI (aS fr σ (.load k a)) c p.d K fr σ
   | _=>∃ v,(c=true→∃ ob,aS fr σ (.load k a)=some (ob,v)∧ob)∧K ⟨ez fr p.d v,σ⟩
  | i=>qI (aS fr σ i) c p.d K fr σ
theorem jx{P:Program}{p:Pi}{K:St→Prop}{fr:List V}{σ:ah}(hg:p.g≠[])(hc:(∀ f args,p.i≠.call f args)∧∀ x args,p.i≠.jy x args):gI P p K ⟨fr,σ⟩=gX p (chainB fr p.g) K fr σ:=by
 obtain⟨d,g,i⟩:=p;cases g with
 | nil=>exact absurd rfl hg
 | cons q qs =>
  simp only[gI,gX];cases chainB fr (q::qs)with
  | none=>rfl
  | some c =>
   simp only[xZ];cases i<;>first | rfl | exact absurd rfl (hc.1 _ _) | exact absurd rfl (hc.2 _ _)
theorem Te{P:Program}{d:Option Nat}{q:Nat×Bool}{qs:List (Nat×Bool)}{K:St→Prop}{fr:List V}{σ:ah}{x:O}:gI P ⟨d,q::qs,.aK x⟩ K ⟨fr,σ⟩=gX ⟨d,q::qs,.aK x⟩ (chainB fr (q::qs)) K fr σ:=jx (by simp) (by simp)
theorem PQ{P:Program}{d:Option Nat}{q:Nat×Bool}{qs:List (Nat×Bool)}{K:St→Prop}{fr:List V}{σ:ah}{c a b:O}:gI P ⟨d,q::qs,.pick c a b⟩ K ⟨fr,σ⟩=gX ⟨d,q::qs,.pick c a b⟩ (chainB fr (q::qs)) K fr σ:=jx (by simp) (by simp)
theorem ML{P:Program}{d:Option Nat}{q:Nat×Bool}{qs:List (Nat×Bool)}{K:St→Prop}{fr:List V}{σ:ah}{zs:List V}{ps:List (Nat×Nat×O)}:gI P ⟨d,q::qs,.build zs ps⟩ K ⟨fr,σ⟩=gX ⟨d,q::qs,.build zs ps⟩ (chainB fr (q::qs)) K fr σ:=jx (by simp) (by simp)
theorem JV{P:Program}{d:Option Nat}{q:Nat×Bool}{qs:List (Nat×Bool)}{K:St→Prop}{fr:List V}{σ:ah}{sz:Nat}{szs:List (Option Nat)}{xs:List O}:gI P ⟨d,q::qs,.bQ sz szs xs⟩ K ⟨fr,σ⟩=gX ⟨d,q::qs,.bQ sz szs xs⟩ (chainB fr (q::qs)) K fr σ:=jx (by simp) (by simp)
theorem PV{P:Program}{d:Option Nat}{q:Nat×Bool}{qs:List (Nat×Bool)}{K:St→Prop}{fr:List V}{σ:ah}{k:Option Nat}{a:O}:gI P ⟨d,q::qs,.load k a⟩ K ⟨fr,σ⟩=gX ⟨d,q::qs,.load k a⟩ (chainB fr (q::qs)) K fr σ:=jx (by simp) (by simp)
theorem MK{P:Program}{d:Option Nat}{q:Nat×Bool}{qs:List (Nat×Bool)}{K:St→Prop}{fr:List V}{σ:ah}{x:O}:gI P ⟨d,q::qs,.dF x⟩ K ⟨fr,σ⟩=gX ⟨d,q::qs,.dF x⟩ (chainB fr (q::qs)) K fr σ:=jx (by simp) (by simp)
theorem Tl{P:Program}{d:Option Nat}{q:Nat×Bool}{qs:List (Nat×Bool)}{K:St→Prop}{fr:List V}{σ:ah}{op:BinOp}{x y:O}:gI P ⟨d,q::qs,.bin op x y⟩ K ⟨fr,σ⟩=gX ⟨d,q::qs,.bin op x y⟩ (chainB fr (q::qs)) K fr σ:=jx (by simp) (by simp)
theorem Tm{P:Program}{d:Option Nat}{q:Nat×Bool}{qs:List (Nat×Bool)}{K:St→Prop}{fr:List V}{σ:ah}{neg:Bool}{ks:List Nat}{x y:O}:gI P ⟨d,q::qs,.beq neg ks x y⟩ K ⟨fr,σ⟩=gX ⟨d,q::qs,.beq neg ks x y⟩ (chainB fr (q::qs)) K fr σ:=jx (by simp) (by simp)
theorem Tn{P:Program}{d:Option Nat}{q:Nat×Bool}{qs:List (Nat×Bool)}{K:St→Prop}{fr:List V}{σ:ah}{neg:Bool}{x y:O}:gI P ⟨d,q::qs,.NS neg x y⟩ K ⟨fr,σ⟩=gX ⟨d,q::qs,.NS neg x y⟩ (chainB fr (q::qs)) K fr σ:=jx (by simp) (by simp)
theorem Xo{P:Program}{d:Option Nat}{q:Nat×Bool}{qs:List (Nat×Bool)}{K:St→Prop}{fr:List V}{σ:ah}{op:UnOp}{x:O}:gI P ⟨d,q::qs,.un op x⟩ K ⟨fr,σ⟩=gX ⟨d,q::qs,.un op x⟩ (chainB fr (q::qs)) K fr σ:=jx (by simp) (by simp)
theorem Tk{P:Program}{d:Option Nat}{q:Nat×Bool}{qs:List (Nat×Bool)}{K:St→Prop}{fr:List V}{σ:ah}{k:IntKind}{x:O}:gI P ⟨d,q::qs,.rn k x⟩ K ⟨fr,σ⟩=gX ⟨d,q::qs,.rn k x⟩ (chainB fr (q::qs)) K fr σ:=jx (by simp) (by simp)
theorem To{P:Program}{d:Option Nat}{q:Nat×Bool}{qs:List (Nat×Bool)}{K:St→Prop}{fr:List V}{σ:ah}{x:O}:gI P ⟨d,q::qs,.yx x⟩ K ⟨fr,σ⟩=gX ⟨d,q::qs,.yx x⟩ (chainB fr (q::qs)) K fr σ:=jx (by simp) (by simp)
theorem MJ{P:Program}{d:Option Nat}{q:Nat×Bool}{qs:List (Nat×Bool)}{K:St→Prop}{fr:List V}{σ:ah}{sz:Nat}{x:O}{lo hi:Option O}:gI P ⟨d,q::qs,.slice sz x lo hi⟩ K ⟨fr,σ⟩=gX ⟨d,q::qs,.slice sz x lo hi⟩ (chainB fr (q::qs)) K fr σ:=jx (by simp) (by simp)
theorem JU{P:Program}{d:Option Nat}{q:Nat×Bool}{qs:List (Nat×Bool)}{K:St→Prop}{fr:List V}{σ:ah}{x:O}{lo hi:Option O}:gI P ⟨d,q::qs,.fv x lo hi⟩ K ⟨fr,σ⟩=gX ⟨d,q::qs,.fv x lo hi⟩ (chainB fr (q::qs)) K fr σ:=jx (by simp) (by simp)
theorem Th{P:Program}{d:Option Nat}{q:Nat×Bool}{qs:List (Nat×Bool)}{K:St→Prop}{fr:List V}{σ:ah}{off:Nat}{x:O}:gI P ⟨d,q::qs,.eG off x⟩ K ⟨fr,σ⟩=gX ⟨d,q::qs,.eG off x⟩ (chainB fr (q::qs)) K fr σ:=jx (by simp) (by simp)
theorem Tg{P:Program}{d:Option Nat}{q:Nat×Bool}{qs:List (Nat×Bool)}{K:St→Prop}{fr:List V}{σ:ah}{sz:Nat}{x i:O}:gI P ⟨d,q::qs,.idx sz x i⟩ K ⟨fr,σ⟩=gX ⟨d,q::qs,.idx sz x i⟩ (chainB fr (q::qs)) K fr σ:=jx (by simp) (by simp)
theorem PO{P:Program}{d:Option Nat}{q:Nat×Bool}{qs:List (Nat×Bool)}{K:St→Prop}{fr:List V}{σ:ah}{x i:O}:gI P ⟨d,q::qs,.gQ x i⟩ K ⟨fr,σ⟩=gX ⟨d,q::qs,.gQ x i⟩ (chainB fr (q::qs)) K fr σ:=jx (by simp) (by simp)
theorem Tj{P:Program}{d:Option Nat}{q:Nat×Bool}{qs:List (Nat×Bool)}{K:St→Prop}{fr:List V}{σ:ah}{k:Nat}{x:O}:gI P ⟨d,q::qs,.ext k x⟩ K ⟨fr,σ⟩=gX ⟨d,q::qs,.ext k x⟩ (chainB fr (q::qs)) K fr σ:=jx (by simp) (by simp)
theorem Tf{P:Program}{d:Option Nat}{q:Nat×Bool}{qs:List (Nat×Bool)}{K:St→Prop}{fr:List V}{σ:ah}{str:Bool}{x:O}:gI P ⟨d,q::qs,.len str x⟩ K ⟨fr,σ⟩=gX ⟨d,q::qs,.len str x⟩ (chainB fr (q::qs)) K fr σ:=jx (by simp) (by simp)
theorem PT{P:Program}{d:Option Nat}{q:Nat×Bool}{qs:List (Nat×Bool)}{K:St→Prop}{fr:List V}{σ:ah}{x y:O}:gI P ⟨d,q::qs,.max2 x y⟩ K ⟨fr,σ⟩=gX ⟨d,q::qs,.max2 x y⟩ (chainB fr (q::qs)) K fr σ:=jx (by simp) (by simp)
theorem PS{P:Program}{d:Option Nat}{q:Nat×Bool}{qs:List (Nat×Bool)}{K:St→Prop}{fr:List V}{σ:ah}{x y:O}:gI P ⟨d,q::qs,.min2 x y⟩ K ⟨fr,σ⟩=gX ⟨d,q::qs,.min2 x y⟩ (chainB fr (q::qs)) K fr σ:=jx (by simp) (by simp)
theorem PU{P:Program}{d:Option Nat}{q:Nat×Bool}{qs:List (Nat×Bool)}{K:St→Prop}{fr:List V}{σ:ah}{kd:Nat}{z:V}{ok:Bool}{m k:O}:gI P ⟨d,q::qs,.look kd z ok m k⟩ K ⟨fr,σ⟩=gX ⟨d,q::qs,.look kd z ok m k⟩ (chainB fr (q::qs)) K fr σ:=jx (by simp) (by simp)
theorem PR{P:Program}{d:Option Nat}{q:Nat×Bool}{qs:List (Nat×Bool)}{K:St→Prop}{fr:List V}{σ:ah}{x:O}:gI P ⟨d,q::qs,.zb x⟩ K ⟨fr,σ⟩=gX ⟨d,q::qs,.zb x⟩ (chainB fr (q::qs)) K fr σ:=jx (by simp) (by simp)
theorem an{P:Program}{d:Option Nat}{f:Nat}{args:List O}{K:St→Prop}{fr:List V}{σ σ1:ah}{as:List V}{v:V}(h:PC P f as σ (fun r σ'=>r=v∧σ'=σ1))(ha:args.map (ev fr)=as)(hK:K ⟨ez fr d v,σ1⟩):
  gI P ⟨d,[],.call f args⟩ K ⟨fr,σ⟩:=by
 subst ha;exact h.mono fun r σ' ⟨e1,e2⟩=>by subst e1;subst e2;exact hK
theorem oB{P:Program}{d:Option Nat}{f:Nat}{x:O}{args:List O}{K:St→Prop}{fr caps:List V}{σ σ1:ah}{as:List V}{v:V}(hx:ev fr x=.fn f caps)(hf:xt P f=true)(h:PC P f as σ (fun r σ'=>r=v∧σ'=σ1))(ha:args.map (ev fr)++caps=as)(hK:K ⟨ez fr d v,σ1⟩):
  gI P ⟨d,[],.jy x args⟩ K ⟨fr,σ⟩:=by
 subst ha;simp only[gI,jn,hx];exact⟨hf,h.mono fun r σ' ⟨e1,e2⟩=>by subst e1;subst e2;exact hK⟩
theorem jc{P:Program}{d:Option Nat}{f:Nat}{args:List O}{K:St→Prop}{fr:List V}{σ:ah}{as:List V}{Q:V→ah→Prop}(h:PC P f as σ Q)(ha:args.map (ev fr)=as)(hK:∀ r σ',Q r σ'→K ⟨ez fr d r,σ'⟩):
  gI P ⟨d,[],.call f args⟩ K ⟨fr,σ⟩:=by
 subst ha;exact h.mono hK
theorem br{P:Program}{d:Option Nat}{q:Nat×Bool}{qs:List (Nat×Bool)}{f:Nat}{args:List O}{K:St→Prop}{fr:List V}{σ:ah}{as:List V}{v:V}{c:Bool}(hc:chainB fr (q::qs)=some c)(h:c=true→PC P f as σ (fun r σ'=>r=v∧σ'=σ))(ha:args.map (ev fr)=as)(hK:K ⟨ez fr d v,σ⟩):
  gI P ⟨d,q::qs,.call f args⟩ K ⟨fr,σ⟩:=by
 subst ha;simp only[gI,hc,xZ];exact⟨fun hc=>(h hc).mono fun r' σ' ⟨e1,e2⟩=>by subst e1;subst e2;exact hK,fun _=>⟨v,hK⟩⟩
theorem AQ{P:Program}{d:Option Nat}{q:Nat×Bool}{qs:List (Nat×Bool)}{x:O}{args:List O}{K:St→Prop}{fr:List V}{σ:ah}{v:V}{c:Bool}(hc:chainB fr (q::qs)=some c)
  (h:c=true→∃ f caps,ev fr x=.fn f caps∧xt P f=true∧PC P f (args.map (ev fr)++caps) σ (fun r σ'=>r=v∧σ'=σ)) (hK:K ⟨ez fr d v,σ⟩):gI P ⟨d,q::qs,.jy x args⟩ K ⟨fr,σ⟩:=by
 simp only[gI,hc,xZ];refine⟨fun hc=>?_,fun _=>⟨v,hK⟩⟩;obtain⟨f,caps,h1,h2,h3⟩:=h hc;rw[h1];exact⟨h2,h3.mono fun r' σ' ⟨e1,e2⟩=>by subst e1;subst e2;exact hK⟩
def TO(P:Program)(chk:List Pi)(ds:List (List Pi×Pi×List Pi))(last:List Pi)(K:St→Prop)(st:St):Prop:=(∀ p∈chk,yt p st)∧px P ds last K st
def kb:List Ob→List Ob→List Ob→(ah→Prop)→Prop
 | [],[],s,K=>K s
 | [],X::Xs,Y::s,K=>X=Y∧kb [] Xs s K
 | x::a,Xs,y::s,K=>x=y∧kb a Xs s K
 | _,_,_,_=>False
theorem oV:∀ {a Xs s:List Ob} {K:ah→Prop},kb a Xs s K↔∃ ε,s=a++(Xs++ε)∧K ε
 | [],[],s,K=>by simp[kb]
 | [],X::Xs,[],K=>by simp[kb]
 | [],X::Xs,Y::s,K=>by
  simp only[kb,oV (a:=[]) (Xs:=Xs),aG,aJ,List.cons.injEq];constructor
  ·rintro⟨rfl,ε,h1,h2⟩;exact⟨ε,⟨rfl,h1⟩,h2⟩
  ·rintro⟨ε,⟨rfl,h1⟩,h2⟩;exact⟨rfl,ε,h1,h2⟩
 | x::a,Xs,[],K=>by simp[kb]
 | x::a,Xs,y::s,K=>by
  simp only[kb,oV (a:=a) (Xs:=Xs),aJ,List.cons.injEq];constructor
  ·rintro⟨rfl,ε,h1,h2⟩;exact⟨ε,⟨rfl,h1⟩,h2⟩
  ·rintro⟨ε,⟨rfl,h1⟩,h2⟩;exact⟨rfl,ε,h1,h2⟩
theorem MI{σ:ah}{a Xs b:List Ob}{K:ah→Prop}:grown (σ++a) Xs (σ++b) K=kb a Xs b K:=by
 rw[eq_iff_iff,oV,grown];simp only[List.append_assoc,TY]
theorem JT{σ:ah}{Xs b:List Ob}{K:ah→Prop}:grown σ Xs (σ++b) K=kb [] Xs b K:=by
 rw[eq_iff_iff,oV,grown];simp only[aG,TY]
theorem Gy{s:List Ob}{K:ah→Prop}:kb [] [] s K=K s:=by cases s<;>rfl
theorem Gz{X Y:Ob}{Xs s:List Ob}{K:ah→Prop}:kb [] (X::Xs) (Y::s) K=(X=Y∧kb [] Xs s K):=rfl
theorem Gx{x y:Ob}{a Xs s:List Ob}{K:ah→Prop}:kb (x::a) Xs (y::s) K=(x=y∧kb a Xs s K):=by cases Xs<;>rfl
def UB(P:Program)(bx:List Ob)(chk:List Pi)(ds1 ds2:List (List Pi×Pi×List Pi))(last:List Pi)(K:St→Prop)(τ:ah)(Xs:List Ob)(st:St):Prop:=(∀ p∈chk,yt p st)∧grown τ Xs st.σ (tQ P bx ds1 ds2 last K st.fr τ)
def Uw(P:Program)(bx:List Ob)(L:Pi)(chk:List Pi)(ds1 ds2:List (List Pi×Pi×List Pi))(last:List Pi)(K:St→Prop)(τ ε:ah)(st:St):Prop:=G1 bx fun Xs=>gI P L (UB P bx chk ds1 ds2 last K τ Xs) ⟨st.fr,τ++(Xs++ε)⟩
def Uv(P:Program)(L:Pi)(chk:List Pi)(ds:List (List Pi×Pi×List Pi))(last:List Pi)(K:St→Prop)(τ:ah)(st:St):Prop:=gI P L (TO P chk ds last K) ⟨st.fr,τ⟩
def QP(K:St→Prop)(τ:ah)(st:St):Prop:=K ⟨st.fr,τ⟩
section
variable {P:Program} {bx:List Ob} {C8 last:List Pi} {L:Pi} {chk:List Pi} {ds1 ds2:List (List Pi×Pi×List Pi)} {K:St→Prop} {fr:List V} {τ ε:ah}
theorem KZ:tQ P bx [] [] last K fr τ ε=jv P [] last (QP K (τ++(bx++ε))) ⟨fr,τ++(iR bx++ε)⟩:=rfl
theorem IM:tQ P bx [] ((C8,L,chk)::ds2) last K fr τ ε=jv P [] C8 (Uv P L chk ds2 last K (τ++(bx++ε))) ⟨fr,τ++(iR bx++ε)⟩:=rfl
theorem IN:tQ P bx ((C8,L,chk)::ds1) ds2 last K fr τ ε=jv P [] C8 (Uw P bx L chk ds1 ds2 last K τ ε) ⟨fr,τ++(iR bx++ε)⟩:=by cases ds2<;>rfl
end
theorem K3{P:Program}{last:List Pi}{K:St→Prop}{st:St}:px P [] last K st=jv P [] last K st:=rfl
theorem IP{P:Program}{C8:List Pi}{L:Pi}{chk:List Pi}{ds:List (List Pi×Pi×List Pi)}{last:List Pi}{K:St→Prop}{st:St}:
  px P ((C8,L,chk)::ds) last K st=jv P [] C8 (gI P L (TO P chk ds last K)) st:=rfl
theorem K4{P:Program}{gs:List Nat}{K:St→Prop}{fr:List V}{σ:ah}:jv P gs [] K ⟨fr,σ⟩=K ⟨Dd gs fr,σ⟩:=rfl
theorem IQ{P:Program}{gs:List Nat}{p:Pi}{ps:List Pi}{K:St→Prop}{fr:List V}{σ:ah}:jv P gs (p::ps) K ⟨fr,σ⟩=gI P p (jv P gs ps K) ⟨fr,σ⟩:=rfl
theorem fQ{σ l:ah}:(σ++l)[σ.length]?=l[0]?:=by rw[aM (aw _),eU]
theorem qD{σ l:ah}{k:Nat}:(σ++l)[σ.length+k]?=l[k]?:=by rw[aM (NG _ _),dJ]
theorem Kd{σ l:ah}{x:Ob}:(σ++l).set σ.length x=σ++l.set 0 x:=by rw[ed _ _ (aw _),eU]
theorem mV{σ l:ah}{k:Nat}{x:Ob}:(σ++l).set (σ.length+k) x=σ++l.set k x:=by
 rw[ed _ _ (NG _ _),dJ]
theorem Ns{σ l:ah}:(σ++l).length=σ.length+l.length:=List.length_append
def kF(id g sz:Nat)(rows:List (List V)):V→V
 | .own id' g'=>if id'=id∧g'=g then .sl sz rows else .own id' g'
 | .sub id' g' lo hi=>if id'=id∧g'=g then .sl sz ((rows.drop lo).take (hi - lo))else .sub id' g' lo hi
 | x=>x
def fz(id g sz:Nat)(rows:List (List V)):V→V
 | .agg xs=>.agg (xs.map (kF id g sz rows))
 | x=>kF id g sz rows x
theorem MU{P:Program}{B:Nat}{w0 w:World}{σ:ah}{μ:Mem}(hS:gM P B w0 w σ μ){id E sz by' g:Nat}{rows:List (List V)}(ho:σ[id]?=some (.row E sz by' g true rows)){x:V}{v:Value}(h:VR w σ μ x v):
  VR w σ μ (kF id g sz rows x) v:=by
 unfold kF;split
 ·split
  ·rename_i e;obtain⟨rfl,rfl⟩:=e;rw[h.jY ho];have:=VR.sS hS ho 0 rows.length (by omega) (aw _);rw[DD hS ho]at this;simpa using this
  ·exact h
 ·split
  ·rename_i e;obtain⟨rfl,rfl⟩:=e;obtain⟨h1,h2,h3⟩:=h.nw ho;rw[h3];exact VR.sS hS ho _ _ h1 h2
  ·exact h
 ·exact h
theorem Xt{P:Program}{B:Nat}{w0 w:World}{σ:ah}{μ:Mem}(hS:gM P B w0 w σ μ){id E sz by' g:Nat}{rows:List (List V)}(ho:σ[id]?=some (.row E sz by' g true rows)){x:V}{v:Value}(h:VR w σ μ x v):
  VR w σ μ (fz id g sz rows x) v:=by
 unfold fz;split
 ·rename_i xs;obtain⟨vs,rfl,h1,h2⟩:=h.nz;refine .agg _ _ (by simpa using h1) fun i y hy=>?_;rw[bg,ak]at hy;obtain⟨z,hz,rfl⟩:=hy;exact MU hS ho (h2 i z hz)
 ·exact MU hS ho h
theorem Wk.fz{P:Program}{n:Nat}{xs:List V}{σ:ah}(id:Nat){E sz by' g:Nat}{sh:Bool}{rows:List (List V)}(ho:σ[id]?=some (.row E sz by' g sh rows)):
  Wk P n xs σ (xs.map (Pm.fz id g sz rows)) (σ.set id (.row E sz by' g true rows)):=by
 refine Wk.trans (Wk.share ho) ?_;have eC:id<σ.length:=(ab.1 ho).1;intro B w0 w μ vs hS hC;refine⟨μ,hS,⟨by simp[hC.1],fun i y hy=>?_⟩,fe.refl _ _ _ _⟩;rw[bg,ak]at hy;obtain⟨z,hz,rfl⟩:=hy;exact Xt hS (by rw[aq eC]) (hC.2 i z hz)
theorem Wk.one{P:Program}{n:Nat}{xs xs':List V}{σ σ':ah}(h:Wk P n xs σ xs' σ')(hl:xs'.length=xs.length):Wk P n [Pm.one xs] σ [Pm.one xs'] σ':=by
 intro B w0 w μ vs hS hC;have h0:=hC.2 0 _ rfl
 have fin:∀ {w':World} {ys:List V} {us:Array Value} {μ':Mem},CR w' σ' μ' ys us→ys.length≠1→VR w' σ' μ' (Pm.one ys) (.tuple us):=by
  intro w' ys us μ' h1 h2
  match ys,h1,h2 with
  | [],h1,_=>exact .gZ _ _ h1.1 h1.2
  | x::y::ys,h1,_=>exact .gZ _ _ h1.1 h1.2
  | [x],_,h2=>exact absurd rfl h2
 by_cases h1:xs.length=1
 ·match xs,h1,h,hl,h0 with
  | [x],_,h,hl,h0 =>
   match xs',hl,h with
   | [x'],_,h =>
    exact h B w0 w μ vs hS ⟨hC.1,fun i y hy=>hC.2 i y hy⟩
 ·have hx:Pm.one xs=.gZ xs:=by
   match xs,h1 with
   | [],_=>rfl
   | x::y::xs,_=>rfl
   | [x],h1=>exact absurd rfl h1
  rw[hx]at h0;obtain⟨us,hv,h2,h3⟩:=h0.Cp;obtain⟨μ',h4,h5,h6⟩:=h B w0 w μ us hS ⟨h2,h3⟩;refine⟨μ',h4,⟨hC.1,fun i y hy=>?_⟩,h6⟩;cases i with
  | zero =>
   simp only[ax,aa]at hy;subst hy;rw[hv];exact fin h5 (by rw[hl];exact h1)
  | succ i=>simp at hy
theorem ei{P:Program}{n:Nat}{rs:List Rs}{Q:V→ah→Prop}{e:Exit}{st:St}{xs xs':List V}{σ':ah}(he:e=.normal∨e=.ret)(hx:kh st rs=some xs)(hw:Wk P n xs st.σ xs' σ')(hl:xs'.length=xs.length)(hQ:Q (one xs') σ'):
  wW P n rs Q e st:=⟨he,xs,hx,_,_,hw.one hl,hQ⟩
def gh(m:Nat):List V→Prop
 | []=>True
 | x::xs=>x.Lt m∧gh m xs
theorem eW{m:Nat}:∀ {xs:List V},gh m xs↔∀ (i:Nat) (x:V),xs[i]?=some x→x.Lt m
 | []=>by simp[gh]
 | y::xs=>by
  rw[gh,eW];constructor
  ·rintro⟨h1,h2⟩ i x hx;cases i with
   | zero=>simp only[ax,aa]at hx;subst hx;exact h1
   | succ i=>exact h2 i x (by simpa using hx)
  ·intro h;exact⟨h 0 y rfl,fun i x hx=>h (i+1) x (by simpa using hx)⟩
section
variable {m:Nat}
theorem Wj:V.u.Lt m↔True:=⟨fun _=>trivial,fun _=>.u⟩
theorem Wq{x}:(V.b x).Lt m↔True:=⟨fun _=>trivial,fun _=>.b _⟩
theorem OB{k a}:(V.i k a).Lt m↔True:=⟨fun _=>trivial,fun _=>.i _ _⟩
theorem Wl{l}:(V.s l).Lt m↔True:=⟨fun _=>trivial,fun _=>.s _⟩
theorem RT:V.nil.Lt m↔True:=⟨fun _=>trivial,fun _=>.nil⟩
theorem RU{sz xs}:(V.lit sz xs).Lt m↔True:=⟨fun _=>trivial,fun _=>.lit _ _⟩
theorem qc{sz xs}:(V.sl sz xs).Lt m↔True:=⟨fun _=>trivial,fun _=>.sl _ _⟩
theorem Wp{sz xs i o}:(V.ep sz xs i o).Lt m↔True:=⟨fun _=>trivial,fun _=>.ep _ _ _ _⟩
theorem Jn:V.fE.Lt m↔True:=⟨fun _=>trivial,fun _=>.fE⟩
theorem Jm:V.ie.Lt m↔True:=⟨fun _=>trivial,fun _=>.ie⟩
theorem RR{id g}:(V.own id g).Lt m↔id<m:=⟨fun h=>by cases h;assumption,fun h=>.own _ _ h⟩
theorem RQ{id g lo hi}:(V.sub id g lo hi).Lt m↔id<m:=⟨fun h=>by cases h;assumption,fun h=>.sub _ _ _ _ h⟩
theorem LF{id o}:(V.ptr id o).Lt m↔id<m:=⟨fun h=>by cases h;assumption,fun h=>.ptr _ _ h⟩
theorem Wm{id g i o}:(V.rp id g i o).Lt m↔id<m:=⟨fun h=>by cases h;assumption,fun h=>.rp _ _ _ _ h⟩
theorem Wn{id}:(V.mp id).Lt m↔id<m:=⟨fun h=>by cases h;assumption,fun h=>.mp _ h⟩
theorem RV{xs}:(V.agg xs).Lt m↔gh m xs:=by
 rw[eW];exact⟨fun h=>by cases h;assumption,fun h=>.agg _ h⟩
theorem RP{xs}:(V.gZ xs).Lt m↔gh m xs:=by
 rw[eW];exact⟨fun h=>by cases h;assumption,fun h=>.gZ _ h⟩
theorem Wo{f xs}:(V.fn f xs).Lt m↔gh m xs:=by
 rw[eW];exact⟨fun h=>by cases h;assumption,fun h=>.fn _ _ h⟩
end
theorem Wk.EM{P:Program}{xs:List V}{σ loc:ah}(aU:bG σ)(hx:gh σ.length xs):Wk P σ.length xs (σ++loc) xs σ:=Wk.vC (aw _) aU (eW.1 hx)
theorem aD{P:Program}{rs:List Rs}{Q:V→ah→Prop}{e:Exit}{fr:List V}{σ loc:ah}{xs:List V}(aU:bG σ)(he:e=.normal∨e=.ret)(hx:kh ⟨fr,σ++loc⟩ rs=some xs)(hl:gh σ.length xs)(hQ:Q (one xs) σ):
  wW P σ.length rs Q e ⟨fr,σ++loc⟩:=ei he hx (Wk.EM aU hl) rfl hQ
theorem jW{P:Program}{rs:List Rs}{Q:V→ah→Prop}{e:Exit}{fr:List V}{σ loc:ah}{xs ys:List V}(aU:bG σ)(he:e=.normal∨e=.ret)(hx:kh ⟨fr,σ++loc⟩ rs=some xs)(hc:nP xs ys)(hl:gh σ.length ys)(hQ:Q (one ys) σ):
  wW P σ.length rs Q e ⟨fr,σ++loc⟩:=ei he hx ((Wk.ic hc).trans (Wk.EM aU hl)) hc.at.1 hQ
end Go.Pm

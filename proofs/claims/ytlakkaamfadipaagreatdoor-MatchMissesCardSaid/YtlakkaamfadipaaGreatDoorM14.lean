/- A part of a proof; the claim's last text says of what. -/
import Derived.Test.YtlakkaamfadipaaGreatDoorM13
set_option linter.all false
open Option renaming some->N
open Bool renaming true->A,false->Z
open List renaming length->F

namespace Go.Pm
open Go Go.RowKit
variable(r:Option (Prop×V))(S:bP)(k:bk)(T:ao)(Q:Nat)(G:aM)(M:ag){i:I}{n:Nat}{U:St}{X:aM}{c:bH}{H:bP}{E:bj}{R:bk}
def fS(n:Nat)(P:aM)(c:bH)(K:bj):Nat->bk
 |0,_=>False
 |a+1,st=>cd n P c (λe=>match e with
  |.normal=>fS n P c K a
  |e=>K e) st
def cd.xA(h:fS n X c E Q U):cd n X (.loop c) E U:=by
 intro r q;cases r;case loop c' =>
  simp only[fW,al,bH.loop.injEq]at q;obtain⟨C,H,rfl⟩:=q;intro B x w v a I D;refine rX Q (λk u t=>∃d j,fS n X C E k d/\gU X B x t d.J j/\FR t d.J j d.fr u/\fX n w U.J v t d.J j) ⟨U,v,h,I,D,fX.refl _ _ _ _⟩ ?_;rintro k u t ⟨d,j,y,z,K,o⟩;cases k with
  |zero=>exact y.elim
  |succ k =>refine wp_mono (y c' H B x t j u z K) ?_;rintro e M L ⟨i,g,p,b,f,m⟩;cases e with|normal=>exact⟨k,Nat.lt_succ_self k,i,g,p,b,f,o.trans m⟩|exit id=>exact⟨i,g,p,b,f,o.trans m⟩|goto l=>exact⟨i,g,p,b,f,o.trans m⟩|ret=>exact⟨i,g,p,b,f,o.trans m⟩|panic c=>exact⟨i,g,p,b,f,o.trans m⟩|outgrown=>exact⟨i,g,p,b,f,o.trans m⟩
 all_goals first|(exfalso;revert q;simp only[fW];try ((repeat' split)<;>simp);done)|(rename_i _ G s;exfalso;cases s<;>simp only[fW]at q<;>first|(obtain⟨_,_,_,h⟩:=jl q;simp at h;done)|(rcases il q with⟨_,_,_,_,h,_⟩|⟨_,_,h,_⟩|⟨_,_,_,_,_,_,h,_⟩<;>simp at h;done))
def xr(id:Nat)(K:bj):bj|.exit id'=>if id'=id then K .normal else K (.exit id')|e=>K e
def abE(c:bH)(K:bj)(a:Nat):bj|.normal=>fS Q G c K a|e=>K e
def HT(K:bj):bj|.normal=>k|e=>K e
def NA:bH->(bk)->bk|.dH ds last gs tail,k,st=>so G ds last (kL G gs tail k) st|_,_,_=>False
def Jr(h:NA X c R U):∃d last b a,c=.dH d last b a/\so X d last (kL X b a R) U:=by cases c with|dH d last b a=>exact⟨d,last,b,a,rfl,h⟩|_=>exact h.elim
def zM(n:Nat)(P:aM):bH->(bj)->bk
 |.skip,K,st=>K .normal st
 |.ar gs is,K,st=>kL P gs is (K .normal) st
 |.dH ds last gs tail,K,st=>so P ds last (kL P gs tail (K .normal)) st
 |.seq a b,K,st=>zM n P a (HT (zM n P b K) K) st
 |.ite c a b,K,st=>match ev st.fr c with
  |.b x=>(x=A->zM n P a K st)/\(x=Z->zM n P b K st)
  |_=>False
 |.block id c,K,st=>zM n P c (xr id K) st
 |.loop c,K,st=>cd n P (.loop c) K st
 |.exit id,K,st=>K (.exit id) st
 |.ret,K,st=>K .ret st
 |.both a b,K,st=>NA P a (K .normal) st/\NA P b (K .normal) st
 |.QG fls ds1 ds2 last gs tail,K,st=>xQ P (JH fls) ds1 ds2 last (kL P gs tail (K .normal)) (vV (F st.J) fls st.fr) st.J []
def ay{n:Nat}{P:aM}:∀{c:bH} {K:bj} {f:St},zM n P c K f->cd n P c K f
 |.skip,_,_,h=>cd.skip h
 |.ar _ _,_,_,h=>cd.ar h
 |.dH _ _ _ _,_,_,h=>cd.dH h
 |.seq a b,K,f,h=>cd.seq ((ay (c:=a) h).mono λe g d=>by
   cases e with
   |normal=>exact ay (c:=b) d
   |_=>exact d)
 |.ite c a b,K,f,h=>by
  simp only[zM]at h;split at h;.rename_i x l;exact cd.ite l (λi=>ay (h.1 i)) λi=>ay (h.2 i)
  exact h.elim
 |.block id c,K,f,h=>cd.block ((ay (c:=c) h).mono λe g d=>by
   cases e with
   |exit k =>simp only[xr]at d;simp only[yI];split at d<;>rename_i j<;>simp only[j,aU,aQ]<;>exact d
   |_=>exact d)
 |.loop _,_,_,h=>h
 |.exit _,_,_,h=>cd.exit h
 |.ret,_,_,h=>cd.ret h
 |.both _ _,_,_,h=>cd.both (Jr h.1) (Jr h.2)
 |.QG ..,_,_,h=>cd.QG h
def TS:JH []=[]:=rfl
def Qf(d T:Nat)(zs:ao)(r:List (Nat×Nat×ao)):JH ((d,T,zs)::r)=.box T zs::JH r:=rfl
def P7:jH []=[]:=rfl
def LP(o:Ob)(r:List Ob):jH (o::r)=.dead::jH r:=rfl
def Q9(n:Nat)(fr:ao):vV n [] fr=fr:=rfl
def Oa(n d T:Nat)(zs:ao)(r:List (Nat×Nat×ao))(fr:ao):vV n ((d,T,zs)::r) fr=vV (n+1) r (fr.set d (.ptr n 0)):=rfl
def Rj{a:Nat}(h:zM n X c (abE n X c E a) U):fS n X c E (a+1) U:=by simp only[fS];exact(ay h).mono λe d b=>by cases e<;>exact b
def JL{id:Nat}{K:bj}:xr id K .normal=K .normal:=rfl
def TV{id:Nat}{K:bj}:xr id K .ret=K .ret:=rfl
def Qg{id:Nat}{K:bj}:xr id K (.exit id)=K .normal:=by simp only[xr,aU]
def Qh{id a:Nat}{K:bj}:xr id K (.exit a)=if a=id then K .normal else K (.exit a):=rfl
def HS{k:bk}{K:bj}:HT k K .normal=k:=rfl
def Rc{k:bk}{K:bj}:HT k K .ret=K .ret:=rfl
def Oc{k:bk}{K:bj}{id:Nat}:HT k K (.exit id)=K (.exit id):=rfl
def pI:Prop :=
 match r with|some (a,v)=>a/\k ⟨ek T S v,M⟩|none=>False
def xI(r:Option (Prop×V×ag))(d:bP)(K:bk)(fr:ao):Prop :=
 match r with|some (a,v,b)=>a/\K ⟨ek fr d v,b⟩|none=>False
def qI(c:Bool)(d:bP)(K:bk)(fr:ao)(J:ag):Prop :=
 match r with|some (a,v)=>(c=A->a)/\K ⟨ek fr d v,J⟩|none=>False
def U3{a:Prop}{v:V}{d:bP}{K:bk}{fr:ao}{J:ag}:pI (N (a,v)) d K fr J=(a/\K ⟨ek fr d v,J⟩):=rfl
def UC{a:Prop}{v:V}{d:bP}{K:bk}{fr:ao}{b:ag}:xI (N (a,v,b)) d K fr=(a/\K ⟨ek fr d v,b⟩):=rfl
def UU{a:Prop}{v:V}{c:Bool}{d:bP}{K:bk}{fr:ao}{J:ag}:qI (N (a,v)) c d K fr J=((c=A->a)/\K ⟨ek fr d v,J⟩):=rfl
def iS{fr:ao}{J:ag}(a:i.de=A):gI X ⟨H,[],i⟩ R ⟨fr,J⟩=pI (ba fr J i) H R fr J:=by
 have b:=vL (fr:=fr) (J:=J) a;simp only[gI];cases i<;>first|(simp[I.de]at a;done)|skip
 all_goals
  simp only[jO,pI,b];generalize ba fr J _=r;cases r<;>rfl
def oD{fr:ao}{J:ag}(b:i.de=Z)(e:∀f a,i≠.call f a)(d:∀x a,i≠.l6 x a)(g:∀x,i≠.next x:=by simp):gI X ⟨H,[],i⟩ R ⟨fr,J⟩=xI (cc fr J i) H R fr:=by
 have c:ba fr J i=none:=by cases h:ba fr J i with|none=>rfl|some r=>rw[wq h]at b;simp at b
 simp only[gI];cases i<;>first|(simp[I.de]at b;done)|exact absurd rfl (e _ _)|exact absurd rfl (d _ _)|exact absurd rfl (g _)|skip
 all_goals
  simp only[jO,xI,c];generalize cc fr J _=r;cases r<;>rfl
def aaf{P:aM}{d:bP}{K:bk}{fr:ao}{J:ag}{x:O}:gI P ⟨d,[],.aV x⟩ K ⟨fr,J⟩=pI (ba fr J (.aV x)) d K fr J:=iS rfl
def WL{P:aM}{d:bP}{K:bk}{fr:ao}{J:ag}{c a b:O}:gI P ⟨d,[],.pick c a b⟩ K ⟨fr,J⟩=pI (ba fr J (.pick c a b)) d K fr J:=iS rfl
def Tm{P:aM}{d:bP}{K:bk}{fr:ao}{J:ag}{zs:ao}{a:List (Nat×Nat×O)}:gI P ⟨d,[],.build zs a⟩ K ⟨fr,J⟩=pI (ba fr J (.build zs a)) d K fr J:=iS rfl
def PV{P:aM}{d:bP}{K:bk}{fr:ao}{J:ag}{c:Nat}{a:List (bP)}{b:List O}:gI P ⟨d,[],.bN c a b⟩ K ⟨fr,J⟩=pI (ba fr J (.bN c a b)) d K fr J:=iS rfl
def WW{P:aM}{d:bP}{K:bk}{fr:ao}{J:ag}{k:bP}{a:O}:gI P ⟨d,[],.load k a⟩ K ⟨fr,J⟩=pI (ba fr J (.load k a)) d K fr J:=iS rfl
def Tk{P:aM}{d:bP}{K:bk}{fr:ao}{J:ag}{x:O}:gI P ⟨d,[],.dE x⟩ K ⟨fr,J⟩=pI (ba fr J (.dE x)) d K fr J:=iS rfl
def aaq{P:aM}{d:bP}{K:bk}{fr:ao}{J:ag}{a:BinOp}{x y:O}:gI P ⟨d,[],.bin a x y⟩ K ⟨fr,J⟩=pI (ba fr J (.bin a x y)) d K fr J:=iS rfl
def aar{P:aM}{d:bP}{K:bk}{fr:ao}{J:ag}{a:Bool}{b:cy}{x y:O}:gI P ⟨d,[],.beq a b x y⟩ K ⟨fr,J⟩=pI (ba fr J (.beq a b x y)) d K fr J:=iS rfl
def aas{P:aM}{d:bP}{K:bk}{fr:ao}{J:ag}{a:Bool}{x y:O}:gI P ⟨d,[],.Yd a x y⟩ K ⟨fr,J⟩=pI (ba fr J (.Yd a x y)) d K fr J:=iS rfl
def aeX{P:aM}{d:bP}{K:bk}{fr:ao}{J:ag}{a:UnOp}{x:O}:gI P ⟨d,[],.un a x⟩ K ⟨fr,J⟩=pI (ba fr J (.un a x)) d K fr J:=iS rfl
def aam{P:aM}{d:bP}{K:bk}{fr:ao}{J:ag}{k:IntKind}{x:O}:gI P ⟨d,[],.Hm k x⟩ K ⟨fr,J⟩=pI (ba fr J (.Hm k x)) d K fr J:=iS rfl
def aat{P:aM}{d:bP}{K:bk}{fr:ao}{J:ag}{x:O}:gI P ⟨d,[],.G5 x⟩ K ⟨fr,J⟩=pI (ba fr J (.G5 x)) d K fr J:=iS rfl
def Th{P:aM}{d:bP}{K:bk}{fr:ao}{J:ag}{a:Nat}{x:O}{b c:Option O}:gI P ⟨d,[],.slice a x b c⟩ K ⟨fr,J⟩=pI (ba fr J (.slice a x b c)) d K fr J:=iS rfl
def PT{P:aM}{d:bP}{K:bk}{fr:ao}{J:ag}{x:O}{a b:Option O}:gI P ⟨d,[],.fM x a b⟩ K ⟨fr,J⟩=pI (ba fr J (.fM x a b)) d K fr J:=iS rfl
def aaj{P:aM}{d:bP}{K:bk}{fr:ao}{J:ag}{a:Nat}{x:O}:gI P ⟨d,[],.fV a x⟩ K ⟨fr,J⟩=pI (ba fr J (.fV a x)) d K fr J:=iS rfl
def aai{P:aM}{d:bP}{K:bk}{fr:ao}{J:ag}{a:Nat}{x i:O}:gI P ⟨d,[],.idx a x i⟩ K ⟨fr,J⟩=pI (ba fr J (.idx a x i)) d K fr J:=iS rfl
def WK{P:aM}{d:bP}{K:bk}{fr:ao}{J:ag}{x i:O}:gI P ⟨d,[],.fN x i⟩ K ⟨fr,J⟩=pI (ba fr J (.fN x i)) d K fr J:=iS rfl
def aak{P:aM}{d:bP}{K:bk}{fr:ao}{J:ag}{k:Nat}{x:O}:gI P ⟨d,[],.ext k x⟩ K ⟨fr,J⟩=pI (ba fr J (.ext k x)) d K fr J:=iS rfl
def aah{P:aM}{d:bP}{K:bk}{fr:ao}{J:ag}{a:Bool}{x:O}:gI P ⟨d,[],.len a x⟩ K ⟨fr,J⟩=pI (ba fr J (.len a x)) d K fr J:=iS rfl
def WU{P:aM}{d:bP}{K:bk}{fr:ao}{J:ag}{x y:O}:gI P ⟨d,[],.max2 x y⟩ K ⟨fr,J⟩=pI (ba fr J (.max2 x y)) d K fr J:=iS rfl
def WQ{P:aM}{d:bP}{K:bk}{fr:ao}{J:ag}{x y:O}:gI P ⟨d,[],.min2 x y⟩ K ⟨fr,J⟩=pI (ba fr J (.min2 x y)) d K fr J:=iS rfl
def WV{P:aM}{d:bP}{K:bk}{fr:ao}{J:ag}{a:Nat}{z:V}{ok:Bool}{m k:O}:gI P ⟨d,[],.look a z ok m k⟩ K ⟨fr,J⟩=pI (ba fr J (.look a z ok m k)) d K fr J:=iS rfl
def WO{P:aM}{d:bP}{K:bk}{fr:ao}{J:ag}{x:O}:gI P ⟨d,[],.BJ x⟩ K ⟨fr,J⟩=pI (ba fr J (.BJ x)) d K fr J:=iS rfl
def aap{P:aM}{d:bP}{K:bk}{fr:ao}{J:ag}{T:Nat}{x:O}:gI P ⟨d,[],.box T x⟩ K ⟨fr,J⟩=xI (cc fr J (.box T x)) d K fr:=oD rfl (by simp) (by simp)
def Tn{P:aM}{d:bP}{K:bk}{fr:ao}{J:ag}{T:Nat}{zs:ao}:gI P ⟨d,[],.alloc T zs⟩ K ⟨fr,J⟩=xI (cc fr J (.alloc T zs)) d K fr:=oD rfl (by simp) (by simp)
def Tg{P:aM}{d:bP}{K:bk}{fr:ao}{J:ag}{k:Nat}{b:List (bP)}{a x:O}:gI P ⟨d,[],.store k b a x⟩ K ⟨fr,J⟩=xI (cc fr J (.store k b a x)) d K fr:=oD rfl (by simp) (by simp)
def aav{P:aM}{d:bP}{K:bk}{fr:ao}{J:ag}{E b a:Nat}{x y:O}:gI P ⟨d,[],.app E b a x y⟩ K ⟨fr,J⟩=xI (cc fr J (.app E b a x y)) d K fr:=oD rfl (by simp) (by simp)
def WZ{P:aM}{d:bP}{K:bk}{fr:ao}{J:ag}{E:Nat}{x y:O}:gI P ⟨d,[],.apps E x y⟩ K ⟨fr,J⟩=xI (cc fr J (.apps E x y)) d K fr:=oD rfl (by simp) (by simp)
def aeY{P:aM}{d:bP}{K:bk}{fr:ao}{J:ag}{E b a:Nat}{zs:ao}{l c:O}:gI P ⟨d,[],.mk E b a zs l c⟩ K ⟨fr,J⟩=xI (cc fr J (.mk E b a zs l c)) d K fr:=oD rfl (by simp) (by simp)
def WY{P:aM}{d:bP}{K:bk}{fr:ao}{J:ag}{E c b:Nat}{a:List (bP)}{e:List O}:gI P ⟨d,[],.JJ E c b a e⟩ K ⟨fr,J⟩=xI (cc fr J (.JJ E c b a e)) d K fr:=oD rfl (by simp) (by simp)
def Tl{P:aM}{d:bP}{K:bk}{fr:ao}{J:ag}{T E:Nat}:gI P ⟨d,[],.nJ T E⟩ K ⟨fr,J⟩=xI (cc fr J (.nJ T E)) d K fr:=oD rfl (by simp) (by simp)
def WN{P:aM}{d:bP}{K:bk}{fr:ao}{J:ag}{b:Nat}{a:List (bP)}{m k x:O}:gI P ⟨d,[],.vf b a m k x⟩ K ⟨fr,J⟩=xI (cc fr J (.vf b a m k x)) d K fr:=oD rfl (by simp) (by simp)
def W0{P:aM}{d:bP}{K:bk}{fr:ao}{J:ag}{n a:Nat}{x i:O}:gI P ⟨d,[],.JP n a x i⟩ K ⟨fr,J⟩=pI (ba fr J (.JP n a x i)) d K fr J:=iS rfl
def aau{P:aM}{d:bP}{K:bk}{fr:ao}{J:ag}{n:Nat}{x:O}:gI P ⟨d,[],.asl n x⟩ K ⟨fr,J⟩=pI (ba fr J (.asl n x)) d K fr J:=iS rfl
def aao{P:aM}{d:bP}{K:bk}{fr:ao}{J:ag}{f:Nat}{a:List O}:gI P ⟨d,[],.TH f a⟩ K ⟨fr,J⟩=pI (ba fr J (.TH f a)) d K fr J:=iS rfl
def aan{P:aM}{d:bP}{K:bk}{fr:ao}{J:ag}{a:Nat}{zs:ao}{x:O}:gI P ⟨d,[],.Hn a zs x⟩ K ⟨fr,J⟩=xI (cc fr J (.Hn a zs x)) d K fr:=oD rfl (by simp) (by simp)
section
variable {P:aM} {d:bP} {K:bk} {fr:ao} {J:ag}
def aal{x:O}:gI P ⟨d,[],.Nz x⟩ K ⟨fr,J⟩=pI (ba fr J (.Nz x)) d K fr J:=iS rfl
def WJ{a:Nat}{x:O}:gI P ⟨d,[],.Kd a x⟩ K ⟨fr,J⟩=pI (ba fr J (.Kd a x)) d K fr J:=iS rfl
def WI{n:Nat}{x i:O}:gI P ⟨d,[],.NS n x i⟩ K ⟨fr,J⟩=pI (ba fr J (.NS n x i)) d K fr J:=iS rfl
def aag{E a:Nat}{l c:O}:gI P ⟨d,[],.XI E a l c⟩ K ⟨fr,J⟩=xI (cc fr J (.XI E a l c)) d K fr:=oD rfl (by simp) (by simp)
def Tf{x y:O}:gI P ⟨d,[],.Ed x y⟩ K ⟨fr,J⟩=pI (ba fr J (.Ed x y)) d K fr J:=iS rfl
def WX{a:Nat}{x h m:O}:gI P ⟨d,[],.clip a x h m⟩ K ⟨fr,J⟩=pI (ba fr J (.clip a x h m)) d K fr J:=iS rfl
def WT{a:Nat}{m k:O}:gI P ⟨d,[],.Dx a m k⟩ K ⟨fr,J⟩=xI (cc fr J (.Dx a m k)) d K fr:=oD rfl (by simp) (by simp)
def WS{a:Nat}{z:V}{m k:O}:gI P ⟨d,[],.wA a z m k⟩ K ⟨fr,J⟩=xI (cc fr J (.wA a z m k)) d K fr:=oD rfl (by simp) (by simp)
def WR{a:List (bP)}{m s x:O}:gI P ⟨d,[],.wz a m s x⟩ K ⟨fr,J⟩=xI (cc fr J (.wz a m s x)) d K fr:=oD rfl (by simp) (by simp)
def Tj{x:O}:gI P ⟨d,[],.range x⟩ K ⟨fr,J⟩=xI (cc fr J (.range x)) d K fr:=oD rfl (by simp) (by simp)
def nI(r:Option (Nat×Nat×Nat×Nat×cy))(d:bP)(K:bk)(fr:ao)(J:ag):Prop :=
 match r with
 |some (j,m,E,n,a)=>(a=[]->K ⟨ek fr d (.gy [.b Z]),J⟩)/\∀q∈a,K ⟨ek fr d (.gy [.b A,.u,.u]),J.set j (.iter Z m E n (a.filter λi=>i != q) (N q))⟩
 |none=>False
def Va{j m E n:Nat}{a:cy}:nI (N (j,m,E,n,a)) d K fr J=((a=[]->K ⟨ek fr d (.gy [.b Z]),J⟩)/\∀q∈a,K ⟨ek fr d (.gy [.b A,.u,.u]),J.set j (.iter Z m E n (a.filter λi=>i != q) (N q))⟩):=rfl
def WM{x:O}:gI P ⟨d,[],.next x⟩ K ⟨fr,J⟩=nI (BH J (ev fr x)) d K fr J:=by simp only[gI,jO,nI];generalize BH J (ev fr x)=r;cases r<;>rfl
end
variable(C:aM)(D:List Ob)(p:Pi)(T:List Pi)(X:List (List Pi×Pi×List Pi)){U:List O}{f:Nat}{q:Nat×Bool}{t:O}{v:V}{R:aM}{M y:ag}{S E:ao}{G:bP}{Q:bk}{B:dF}
def gX(r:Option Bool)(K:bk)(fr:ao)(J:ag):Prop :=
 match r with
 |none=>False
 |some c=>match p.i with
  |.load k a=>match ev fr a with
   |.ptr _ _=>qI (ba fr J (.load k a)) c p.d K fr J
   |_=>∃v,(c=A->∃b,ba fr J (.load k a)=N (b,v)/\b)/\K ⟨ek fr p.d v,J⟩
  |i=>qI (ba fr J i) c p.d K fr J
def kF{p:Pi}(h:p.g≠[])(b:(∀f a,p.i≠.call f a)/\∀x a,p.i≠.l6 x a):gI R p Q ⟨S,M⟩=gX p (chainB S p.g) Q S M:=by
 obtain⟨d,g,i⟩:=p;cases g with
 |nil=>exact absurd rfl h
 |cons q e =>simp only[gI,gX];cases chainB S (q::e)with|none=>rfl|some c =>simp only[wS];cases i<;>first|rfl|exact absurd rfl (b.1 _ _)|exact absurd rfl (b.2 _ _)
def Z1{P:aM}{d:bP}{q:Nat×Bool}{a:dF}{K:bk}{fr:ao}{J:ag}{x:O}:gI P ⟨d,q::a,.aV x⟩ K ⟨fr,J⟩=gX ⟨d,q::a,.aV x⟩ (chainB fr (q::a)) K fr J:=kF (by simp) (by simp)
def Wz{P:aM}{d:bP}{q:Nat×Bool}{e:dF}{K:bk}{fr:ao}{J:ag}{c a b:O}:gI P ⟨d,q::e,.pick c a b⟩ K ⟨fr,J⟩=gX ⟨d,q::e,.pick c a b⟩ (chainB fr (q::e)) K fr J:=kF (by simp) (by simp)
def Tc{P:aM}{d:bP}{q:Nat×Bool}{a:dF}{K:bk}{fr:ao}{J:ag}{zs:ao}{b:List (Nat×Nat×O)}:gI P ⟨d,q::a,.build zs b⟩ K ⟨fr,J⟩=gX ⟨d,q::a,.build zs b⟩ (chainB fr (q::a)) K fr J:=kF (by simp) (by simp)
def PQ{P:aM}{d:bP}{q:Nat×Bool}{b:dF}{K:bk}{fr:ao}{J:ag}{c:Nat}{a:List (bP)}{e:List O}:gI P ⟨d,q::b,.bN c a e⟩ K ⟨fr,J⟩=gX ⟨d,q::b,.bN c a e⟩ (chainB fr (q::b)) K fr J:=kF (by simp) (by simp)
def WE{P:aM}{d:bP}{q:Nat×Bool}{b:dF}{K:bk}{fr:ao}{J:ag}{k:bP}{a:O}:gI P ⟨d,q::b,.load k a⟩ K ⟨fr,J⟩=gX ⟨d,q::b,.load k a⟩ (chainB fr (q::b)) K fr J:=kF (by simp) (by simp)
def Ta{P:aM}{d:bP}{q:Nat×Bool}{a:dF}{K:bk}{fr:ao}{J:ag}{x:O}:gI P ⟨d,q::a,.dE x⟩ K ⟨fr,J⟩=gX ⟨d,q::a,.dE x⟩ (chainB fr (q::a)) K fr J:=kF (by simp) (by simp)
def Z7{P:aM}{d:bP}{q:Nat×Bool}{a:dF}{K:bk}{fr:ao}{J:ag}{b:BinOp}{x y:O}:gI P ⟨d,q::a,.bin b x y⟩ K ⟨fr,J⟩=gX ⟨d,q::a,.bin b x y⟩ (chainB fr (q::a)) K fr J:=kF (by simp) (by simp)
def Z8{P:aM}{d:bP}{q:Nat×Bool}{b:dF}{K:bk}{fr:ao}{J:ag}{a:Bool}{c:cy}{x y:O}:gI P ⟨d,q::b,.beq a c x y⟩ K ⟨fr,J⟩=gX ⟨d,q::b,.beq a c x y⟩ (chainB fr (q::b)) K fr J:=kF (by simp) (by simp)
def Z9{P:aM}{d:bP}{q:Nat×Bool}{b:dF}{K:bk}{fr:ao}{J:ag}{a:Bool}{x y:O}:gI P ⟨d,q::b,.Yd a x y⟩ K ⟨fr,J⟩=gX ⟨d,q::b,.Yd a x y⟩ (chainB fr (q::b)) K fr J:=kF (by simp) (by simp)
def aeW{P:aM}{d:bP}{q:Nat×Bool}{a:dF}{K:bk}{fr:ao}{J:ag}{b:UnOp}{x:O}:gI P ⟨d,q::a,.un b x⟩ K ⟨fr,J⟩=gX ⟨d,q::a,.un b x⟩ (chainB fr (q::a)) K fr J:=kF (by simp) (by simp)
def Z6{P:aM}{d:bP}{q:Nat×Bool}{a:dF}{K:bk}{fr:ao}{J:ag}{k:IntKind}{x:O}:gI P ⟨d,q::a,.Hm k x⟩ K ⟨fr,J⟩=gX ⟨d,q::a,.Hm k x⟩ (chainB fr (q::a)) K fr J:=kF (by simp) (by simp)
def aaa{P:aM}{d:bP}{q:Nat×Bool}{a:dF}{K:bk}{fr:ao}{J:ag}{x:O}:gI P ⟨d,q::a,.G5 x⟩ K ⟨fr,J⟩=gX ⟨d,q::a,.G5 x⟩ (chainB fr (q::a)) K fr J:=kF (by simp) (by simp)
def S9{P:aM}{d:bP}{q:Nat×Bool}{a:dF}{K:bk}{fr:ao}{J:ag}{b:Nat}{x:O}{c e:Option O}:gI P ⟨d,q::a,.slice b x c e⟩ K ⟨fr,J⟩=gX ⟨d,q::a,.slice b x c e⟩ (chainB fr (q::a)) K fr J:=kF (by simp) (by simp)
def PO{P:aM}{d:bP}{q:Nat×Bool}{a:dF}{K:bk}{fr:ao}{J:ag}{x:O}{b c:Option O}:gI P ⟨d,q::a,.fM x b c⟩ K ⟨fr,J⟩=gX ⟨d,q::a,.fM x b c⟩ (chainB fr (q::a)) K fr J:=kF (by simp) (by simp)
def Z4{P:aM}{d:bP}{q:Nat×Bool}{b:dF}{K:bk}{fr:ao}{J:ag}{a:Nat}{x:O}:gI P ⟨d,q::b,.fV a x⟩ K ⟨fr,J⟩=gX ⟨d,q::b,.fV a x⟩ (chainB fr (q::b)) K fr J:=kF (by simp) (by simp)
def Z3{P:aM}{d:bP}{q:Nat×Bool}{a:dF}{K:bk}{fr:ao}{J:ag}{b:Nat}{x i:O}:gI P ⟨d,q::a,.idx b x i⟩ K ⟨fr,J⟩=gX ⟨d,q::a,.idx b x i⟩ (chainB fr (q::a)) K fr J:=kF (by simp) (by simp)
def Wy{P:aM}{d:bP}{q:Nat×Bool}{a:dF}{K:bk}{fr:ao}{J:ag}{x i:O}:gI P ⟨d,q::a,.fN x i⟩ K ⟨fr,J⟩=gX ⟨d,q::a,.fN x i⟩ (chainB fr (q::a)) K fr J:=kF (by simp) (by simp)
def Z5{P:aM}{d:bP}{q:Nat×Bool}{a:dF}{K:bk}{fr:ao}{J:ag}{k:Nat}{x:O}:gI P ⟨d,q::a,.ext k x⟩ K ⟨fr,J⟩=gX ⟨d,q::a,.ext k x⟩ (chainB fr (q::a)) K fr J:=kF (by simp) (by simp)
def Z2{P:aM}{d:bP}{q:Nat×Bool}{b:dF}{K:bk}{fr:ao}{J:ag}{a:Bool}{x:O}:gI P ⟨d,q::b,.len a x⟩ K ⟨fr,J⟩=gX ⟨d,q::b,.len a x⟩ (chainB fr (q::b)) K fr J:=kF (by simp) (by simp)
def WC{P:aM}{d:bP}{q:Nat×Bool}{a:dF}{K:bk}{fr:ao}{J:ag}{x y:O}:gI P ⟨d,q::a,.max2 x y⟩ K ⟨fr,J⟩=gX ⟨d,q::a,.max2 x y⟩ (chainB fr (q::a)) K fr J:=kF (by simp) (by simp)
def WB{P:aM}{d:bP}{q:Nat×Bool}{a:dF}{K:bk}{fr:ao}{J:ag}{x y:O}:gI P ⟨d,q::a,.min2 x y⟩ K ⟨fr,J⟩=gX ⟨d,q::a,.min2 x y⟩ (chainB fr (q::a)) K fr J:=kF (by simp) (by simp)
def WD{P:aM}{d:bP}{q:Nat×Bool}{a:dF}{K:bk}{fr:ao}{J:ag}{b:Nat}{z:V}{ok:Bool}{m k:O}:gI P ⟨d,q::a,.look b z ok m k⟩ K ⟨fr,J⟩=gX ⟨d,q::a,.look b z ok m k⟩ (chainB fr (q::a)) K fr J:=kF (by simp) (by simp)
def WG{P:aM}{d:bP}{q:Nat×Bool}{a:dF}{K:bk}{fr:ao}{J:ag}{n b:Nat}{x i:O}:gI P ⟨d,q::a,.JP n b x i⟩ K ⟨fr,J⟩=gX ⟨d,q::a,.JP n b x i⟩ (chainB fr (q::a)) K fr J:=kF (by simp) (by simp)
def WA{P:aM}{d:bP}{q:Nat×Bool}{a:dF}{K:bk}{fr:ao}{J:ag}{x:O}:gI P ⟨d,q::a,.BJ x⟩ K ⟨fr,J⟩=gX ⟨d,q::a,.BJ x⟩ (chainB fr (q::a)) K fr J:=kF (by simp) (by simp)
def aA(h:PC R f E M (λr a=>r=v/\a=y))(d:U.map (ev S)=E)(b:Q ⟨ek S G v,y⟩): gI R ⟨G,[],.call f U⟩ Q ⟨S,M⟩:=by subst d;exact h.mono λr a ⟨c,e⟩=>by subst c;subst e;exact b
def xn{b:ao}(j:ev S t=.fn f E)(c:Iz R f=A)(h:PC R f b M (λr a=>r=v/\a=y))(e:U.map (ev S)++E=b)(g:Q ⟨ek S G v,y⟩): gI R ⟨G,[],.l6 t U⟩ Q ⟨S,M⟩:=by subst e;simp only[gI,jO,j];exact⟨c,h.mono λr a ⟨d,i⟩=>by subst d;subst i;exact g⟩
def cB{a:V->ag->Prop}(h:PC R f E M a)(d:U.map (ev S)=E)(c:∀r b,a r b->Q ⟨ek S G r,b⟩): gI R ⟨G,[],.call f U⟩ Q ⟨S,M⟩:=by subst d;exact h.mono c
def b7{v:V}{c:Bool}(a:chainB S (q::B)=N c)(h:c=A->PC R f E M (λr b=>r=v/\b=M))(g:U.map (ev S)=E)(d:Q ⟨ek S G v,M⟩): gI R ⟨G,q::B,.call f U⟩ Q ⟨S,M⟩:=by subst g;simp only[gI,a,wS];exact⟨λa=>(h a).mono λj b ⟨e,i⟩=>by subst e;subst i;exact d,λ_=>⟨v,d⟩⟩
def ui{v:V}{c:Bool}(b:chainB S (q::B)=N c) (h:c=A->∃f a,ev S t=.fn f a/\Iz R f=A/\PC R f (U.map (ev S)++a) M (λr d=>r=v/\d=M)) (e:Q ⟨ek S G v,M⟩):gI R ⟨G,q::B,.l6 t U⟩ Q ⟨S,M⟩:=by simp only[gI,b,wS];refine⟨λb=>?_,λ_=>⟨v,e⟩⟩;obtain⟨f,a,k,g,i⟩:=h b;rw[k];exact⟨g,i.mono λm d ⟨j,l⟩=>by subst j;subst l;exact e⟩
def qU{P:aM}{d:bP}{q:Nat×Bool}{e:dF}{f:Nat}{a:List O}{K:bk}{fr:ao}{J:ag}{g:ao}{Q:V->ag->Prop}{c:Bool}(b:chainB fr (q::e)=N c)(h:c=A->PC P f g J Q)(j:a.map (ev fr)=g) (k:c=A->∀r i,Q r i->K ⟨ek fr d r,i⟩) (l:c=Z->∃v,K ⟨ek fr d v,J⟩):gI P ⟨d,q::e,.call f a⟩ K ⟨fr,J⟩:=by subst j;simp only[gI,b,wS];exact⟨λb=>(h b).mono (k b),l⟩
def aaL(last:List Pi)(K:bk)(a:St):Prop:=(∀p∈T,CC p a)/\so C X last K a
def ln:ag->List Ob->List Ob->List Ob->(ag->ag->Prop)->Prop|τ,[],[],s,K=>K τ s|τ,[],X::Xs,b::s,K=>X=b/\ln τ [] Xs s K|τ,_::a,Xs,y::s,K=>ln (τ++[y]) a Xs s K|_,_,_,_,_=>False
def vk:∀{a:List Ob} {τ:ag} {Xs s:List Ob} {K:ag->ag->Prop},ln τ a Xs s K<->∃d ε,F d=F a/\s=d++(Xs++ε)/\K (τ++d) ε
 |[],τ,[],s,K=>by
  simp only[ln];constructor;.intro h;exact⟨[],s,rfl,rfl,by simpa using h⟩
  rintro⟨d,ε,e,rfl,c⟩;obtain rfl:=aL e;simpa using c
 |[],τ,X::Xs,[],K=>by simp only[ln,T9];rintro⟨d,ε,e,c,_⟩;simp at c
 |[],τ,X::Xs,b::s,K=>by
  simp only[ln,vk (a:=[]) (Xs:=Xs)];constructor;.rintro⟨rfl,d,ε,e,rfl,c⟩;obtain rfl:=aL e;exact⟨[],ε,rfl,rfl,c⟩
  rintro⟨d,ε,e,c,f⟩;obtain rfl:=aL e;simp only[bg,bo,C8]at c;exact⟨c.1.symm,[],ε,rfl,c.2,f⟩
 |x::a,τ,Xs,[],K=>by
  simp only[ln,T9];rintro⟨d,ε,e,c,_⟩;cases d with
  |nil=>simp at e
  |cons y d=>simp at c
 |x::a,τ,Xs,y::s,K=>by
  simp only[ln,vk (a:=a) (Xs:=Xs)];constructor;.rintro⟨d,ε,e,rfl,c⟩;exact⟨y::d,ε,by simp[e],rfl,by simpa using c⟩
  rintro⟨d,ε,e,c,f⟩;cases d with|nil=>simp at e|cons z d =>simp only[bo,C8]at c;obtain⟨rfl,rfl⟩:=c;exact⟨d,ε,by simpa using e,rfl,by simpa using f⟩
def grown_of{J J':ag}{a Xs b:List Ob}{K:ag->ag->Prop}(f:F J'=F J):grown (J++a) Xs (J'++b) K=ln J' a Xs b K:=by
 rw[aaV,vk,grown];constructor
 .rintro⟨j,ε,d,g,h⟩;have e:=List.append_eq_append_iff.1 g;rcases e with⟨c,rfl,rfl⟩|⟨c,rfl,i⟩;.exact⟨c,ε,by simp[f]at d;exact d,rfl,h⟩
  have m:c=[]:=aL (by simp at d f;omega);subst m;simp only[bM,bg]at d i f h;have k:F a=0:=by simp at d;omega
  exact⟨[],ε,by simp[k],i.symm,by simpa using h⟩
 rintro⟨l,ε,d,rfl,g⟩;exact⟨J'++l,ε,by simp[d,f],by simp,g⟩
def S7{J:ag}{a c b:List Ob}{K:ag->ag->Prop}:grown (J++a) c (J++b) K=ln J a c b K:=grown_of rfl
def PL{J:ag}{Xs b:List Ob}{K:ag->ag->Prop}:grown J Xs (J++b) K=ln J [] Xs b K:=by have:=grown_of (J:=J) (J':=J) (a:=[]) (Xs:=Xs) (b:=b) (K:=K) rfl;rwa [bM]at this
def LA{τ:ag}{s:List Ob}{K:ag->ag->Prop}:ln τ [] [] s K=K τ s:=by cases s<;>rfl
def LB{τ:ag}{X a:Ob}{b s:List Ob}{K:ag->ag->Prop}:ln τ [] (X::b) (a::s) K=(X=a/\ln τ [] b s K):=rfl
def Ly{τ:ag}{x y:Ob}{a b s:List Ob}{K:ag->ag->Prop}:ln τ (x::a) b (y::s) K=ln (τ++[y]) a b s K:=by cases b<;>rfl
def abC(ds2:List (List Pi×Pi×List Pi))(last:List Pi)(K:bk)(τ:ag)(b:List Ob)(a:St):Prop:=(∀p∈T,CC p a)/\grown τ b a.J (xQ C D X ds2 last K a.fr)
def abA(ds2:List (List Pi×Pi×List Pi))(last:List Pi)(K:bk)(τ ε:ag)(b:St):Prop:=L1 D λa=>gI C p (abC C D T X ds2 last K τ a) ⟨b.fr,τ++(a++ε)⟩
def abz(last:List Pi)(K:bk)(τ:ag)(a:St):Prop:=gI C p (aaL C T X last K) ⟨a.fr,τ⟩
def XL(K:bk)(τ:ag)(a:St):Prop:=K ⟨a.fr,τ⟩
section
variable {P:aM} {bx:List Ob} {Hb last:List Pi} {L:Pi} {chk:List Pi} {ds1 ds2:List (List Pi×Pi×List Pi)} {K:bk} {fr:ao} {τ ε:ag}
def Rf:xQ P bx [] [] last K fr τ ε=kL P [] last (XL K (τ++(bx++ε))) ⟨fr,τ++(jH bx++ε)⟩:=rfl
def Og:xQ P bx [] ((Hb,L,chk)::ds2) last K fr τ ε=kL P [] Hb (abz P L chk ds2 last K (τ++(bx++ε))) ⟨fr,τ++(jH bx++ε)⟩:=rfl
def Oh:xQ P bx ((Hb,L,chk)::ds1) ds2 last K fr τ ε=kL P [] Hb (abA P bx L chk ds1 ds2 last K τ ε) ⟨fr,τ++(jH bx++ε)⟩:=by cases ds2<;>rfl
end
variable{S:Mem}{B:Nat}{x:V}{v:Value}{X:aM}{R w:aT}{U:ag}{T:cD}
def Rg{P:aM}{last:List Pi}{K:bk}{a:St}:so P [] last K a=kL P [] last K a:=rfl
def Oi{P:aM}{Hb:List Pi}{L:Pi}{chk:List Pi}{a:List (List Pi×Pi×List Pi)}{last:List Pi}{K:bk}{b:St}: so P ((Hb,L,chk)::a) last K b=kL P [] Hb (gI P L (aaL P chk a last K)) b:=rfl
def Rh{P:aM}{a:cy}{K:bk}{fr:ao}{J:ag}:kL P a [] K ⟨fr,J⟩=K ⟨Hn a fr,J⟩:=rfl
def Oj{P:aM}{a:cy}{p:Pi}{b:List Pi}{K:bk}{fr:ao}{J:ag}:kL P a (p::b) K ⟨fr,J⟩=gI P p (kL P a b K) ⟨fr,J⟩:=rfl
def iP{J l:ag}:(J++l)[F J]?=l[0]?:=by rw[aD (ax _),fA]
def xt{J l:ag}{k:Nat}:(J++l)[F J+k]?=l[k]?:=by rw[aD (Uc _ _),dD]
def Qi{J l:ag}{x:Ob}:(J++l).set (F J) x=J++l.set 0 x:=by rw[b8 _ _ (ax _),fA]
def CH{J l:ag}{k:Nat}{x:Ob}:(J++l).set (F J+k) x=J++l.set k x:=by rw[b8 _ _ (Uc _ _),dD]
def TZ{J l:ag}:F (J++l)=F J+F l:=ai
def sk(id g b:Nat)(a:cD):V->V|.own id' g'=>if id'=id/\g'=g then .sl b a else .own id' g'|.sub id' g' lo hi=>if id'=id/\g'=g then .sl b ((a.drop lo).take (hi - lo))else .sub id' g' lo hi|x=>x
def fz(id g sz:Nat)(rows:cD):V->V|.agg xs=>.agg (xs.map (sk id g sz rows))|x=>sk id g sz rows x
def To(b:gU X B R w U S){id E d c g:Nat}(a:U[id]?=N (.row E d c g A T))(h:VR w U S x v): VR w U S (sk id g d T x) v:=by
 unfold sk;split
 .split;.rename_i e;obtain⟨rfl,rfl⟩:=e;rw[h.kE a];have:=VR.wv b a 0 (F T) (by omega) (ax _);rw[HM b a]at this;simpa using this
  exact h
 .split;.rename_i e;obtain⟨rfl,rfl⟩:=e;obtain⟨i,f,j⟩:=h.pJ a;rw[j];exact VR.wv b a _ _ i f
  exact h
 exact h
def ae0(d:gU X B R w U S){id E b a g:Nat}(e:U[id]?=N (.row E b a g A T))(h:VR w U S x v): VR w U S (fz id g b T x) v:=by
 unfold fz;split;.rename_i m;obtain⟨l,rfl,j,f⟩:=h.iZ;refine .agg _ _ (by simpa using j) λi y c=>?_;rw[bu,al]at c;obtain⟨z,k,rfl⟩:=c;exact To d e (f i z k)
 exact To d e h
def Wk.fz{P:aM}{n:Nat}{xs:ao}{J:ag}(id:Nat){E sz by' g:Nat}{sh:Bool}{rows:cD}(c:J[id]?=N (.row E sz by' g sh rows)):
  Wk P n xs J (xs.map (Pm.fz id g sz rows)) (J.set id (.row E sz by' g A rows)):=by refine Wk.trans (Wk.share c) ?_;have f:id<F J:=(ab.1 c).1;intro B j w e k d a;refine⟨e,d,⟨by simp[a.1],λi y b=>?_⟩,fX.refl _ _ _ _⟩;rw[bu,al]at b;obtain⟨z,h,rfl⟩:=b;exact ae0 d (by rw[aw f]) (a.2 i z h)
def Wk.one{e d:ao}{o:ag}(h:Wk X B e U d o)(m:F d=F e):Wk X B [Pm.one e] U [Pm.one d] o:=by
 intro a s w r C t l;have n:=l.2 0 _ rfl;have q:∀{p:aT} {f:ao} {k:Array Value} {c:Mem},CR p o c f k->F f≠1->VR p o c (Pm.one f) (.tuple k):=by intro p f k c b g;match f,b,g with|[],b,_=>exact .gy _ _ b.1 b.2|x::y::f,b,_=>exact .gy _ _ b.1 b.2|[x],_,g=>exact absurd rfl g
 by_cases b:F e=1
 .match e,b,h,m,n with
  |[x],_,h,m,n =>match d,m,h with|[x'],_,h =>exact h a s w r C t ⟨l.1,λi y j=>l.2 i y j⟩
 have v:Pm.one e=.gy e:=by match e,b with|[],_=>rfl|x::y::e,_=>rfl|[x],b=>exact absurd rfl b
 rw[v]at n;obtain⟨k,D,g,u⟩:=n.Gx;obtain⟨c,E,G,z⟩:=h a s w r k t ⟨g,u⟩;refine⟨c,E,⟨l.1,λi y j=>?_⟩,z⟩;cases i with|zero =>simp only[aH,aa]at j;subst j;rw[D];exact q G (by rw[m];exact b)|succ i=>simp at j
def fv{b:List Rs}{Q:V->ag->Prop}{e:Exit}{a:St}{xs xs':ao}(d:e=.normal\/e=.ret)(h:lg a b=N xs)(c:Wk X B xs a.J xs' U)(f:F xs'=F xs)(g:Q (one xs') U): rv X B b Q e a:=⟨d,xs,h,_,_,c.one f,g⟩
def fY(m:Nat):ao->Prop|[]=>True|x::xs=>x.Lt m/\fY m xs
def fi{m:Nat}:∀{b:ao},fY m b<->∀(i:Nat) (x:V),b[i]?=N x->x.Lt m
 |[]=>by simp[fY]
 |y::b=>by
  rw[fY,fi];constructor;.rintro⟨d,c⟩ i x a;cases i with|zero=>simp only[aH,aa]at a;subst a;exact d|succ i=>exact c i x (by simpa using a)
  intro h;exact⟨h 0 y rfl,λi x a=>h (i+1) x (by simpa using a)⟩
section
variable {m:Nat}
def af2:V.u.Lt m<->True:=⟨λ_=>trivial,λ_=>.u⟩
def af3{x}:(V.b x).Lt m<->True:=⟨λ_=>trivial,λ_=>.b _⟩
def Ve{k a}:(V.i k a).Lt m<->True:=⟨λ_=>trivial,λ_=>.i _ _⟩
def YS{l}:(V.s l).Lt m<->True:=⟨λ_=>trivial,λ_=>.s _⟩
def YV:V.nil.Lt m<->True:=⟨λ_=>trivial,λ_=>.nil⟩
def YW{sz xs}:(V.lit sz xs).Lt m<->True:=⟨λ_=>trivial,λ_=>.lit _ _⟩
def zk{sz xs}:(V.sl sz xs).Lt m<->True:=⟨λ_=>trivial,λ_=>.sl _ _⟩
def adE{sz xs i o}:(V.ep sz xs i o).Lt m<->True:=⟨λ_=>trivial,λ_=>.ep _ _ _ _⟩
def OW:V.eE.Lt m<->True:=⟨λ_=>trivial,λ_=>.eE⟩
def OV:V.gO.Lt m<->True:=⟨λ_=>trivial,λ_=>.gO⟩
def YU{id g}:(V.own id g).Lt m<->id<m:=⟨λh=>by cases h;assumption,λh=>.own _ _ h⟩
def YR{id g lo hi}:(V.sub id g lo hi).Lt m<->id<m:=⟨λh=>by cases h;assumption,λh=>.sub _ _ _ _ h⟩
def YT{id o}:(V.ptr id o).Lt m<->id<m:=⟨λh=>by cases h;assumption,λh=>.ptr _ _ h⟩
def adB{id g i o}:(V.rp id g i o).Lt m<->id<m:=⟨λh=>by cases h;assumption,λh=>.rp _ _ _ _ h⟩
def adC{id}:(V.mp id).Lt m<->id<m:=⟨λh=>by cases h;assumption,λh=>.mp _ h⟩
def adD{id}:(V.it id).Lt m<->id<m:=⟨λh=>by cases h;assumption,λh=>.it _ h⟩
def RL{xs}:(V.agg xs).Lt m<->fY m xs:=by rw[fi];exact⟨λh=>by cases h;assumption,λh=>.agg _ h⟩
def YQ{xs}:(V.gy xs).Lt m<->fY m xs:=by rw[fi];exact⟨λh=>by cases h;assumption,λh=>.gy _ h⟩
end
variable{X:List Rs}{S:aM}{R T:ag}{U:ao}
def Wk.DM{P:aM}{xs:ao}{J loc:ag}(a:bT J)(b:fY (F J) xs):Wk P (F J) xs (J++loc) xs J:=Wk.xe (ax _) a (fi.1 b)
def bl{Q:V->ag->Prop}{e:Exit}{xs:ao}(d:bT R)(c:e=.normal\/e=.ret)(f:lg ⟨U,R++T⟩ X=N xs)(a:fY (F R) xs)(b:Q (one xs) R): rv S (F R) X Q e ⟨U,R++T⟩:=fv c f (Wk.DM d a) rfl b
def km{y:V}(d:bT R)(c:lg ⟨U,R++T⟩ X=N [y])(b:fY (F R) [y]):rv S (F R) X (λr a=>r=y/\a=R) .ret ⟨U,R++T⟩:=bl d (.inr rfl) c b ⟨rfl,rfl⟩
def pA{Q:V->ag->Prop}{e:Exit}{a ys:ao}(h:bT R)(c:e=.normal\/e=.ret)(g:lg ⟨U,R++T⟩ X=N a)(b:pe a ys)(d:fY (F R) ys)(f:Q (one ys) R): rv S (F R) X Q e ⟨U,R++T⟩:=fv c g ((Wk.gW b).trans (Wk.DM h d)) b.at.1 f
end Go.Pm

/- Part of a proof. -/
import Derived.Test.YtfeddmfijllgmaaGreatDoorZ8
import Derived.Test.YtfeddmfijllgmaaGreatDoorZ9
import Derived.Test.YtfeddmfijllgmaaGreatDoorZ10
import Derived.Test.YtfeddmfijllgmaaGreatDoorZ19
set_option linter.all false
set_option maxHeartbeats 2000000
open Bool renaming true->G,false->Z
open Go.Proofs.Tryz renaming prog->A
open List renaming length->X
namespace Go.Proofs.Tryz
open Go Go.Pm Go.Bt
open Go.Pm.V(u)
variable(l:aL)(a:List It)(v:bH)(c:UInt8)(n:Nat)(x:Int)(p:aL)(P:cz)(T:It)(Q:bH)(J:ai)(M:eJ){U:ai}{K:bG}
def YS:bh A 264 [.agg T.axV] J (.I (width T)):=by
 refine aT func264 ams.2 λa b=>an ?_;simp only[ams,It.axV,SS,seval];simp only[W,seval];refine⟨λh=>?_,λh=>?_⟩;.exact aS a rfl (by simp[LW]) (by simp at h;simp[cM,width,h])
 exact aS a rfl (by simp[LW]) (by simp at h;simp[cM,width,h])
def aez(l:bW U)(f:X a<2^63):∀(c d:List It) (e:Int),a=d++c ->(K (.exit 0) ⟨[.sl 3 (a.map It.axV),u,.I 0,.I (gJ e c),u,u,.sl 3 (a.map It.axV),.I (X a),.I (X a),.b Z,u,u,u,u,u,u,u,u],U⟩) ->gF (X U) A LO K (X c+1) ⟨[.sl 3 (a.map It.axV),u,.I 0,.I e,u,u,.sl 3 (a.map It.axV),.I (X a),.I (X d),u,u,u,u,u,u,u,u,u],U⟩:=by
 intro c;induction c with
 |nil =>intro d e g i;subst g;refine aD λR j=>?_;simp only[LO,W,seval];refine⟨λh=>by simp at h,λ_=>?_⟩;simpa[gJ]using i
 |cons x c ih =>
 intro d e g i;subst g;refine aD λR j=>?_;simp only[LO,gA,It.axV,W,seval];refine⟨λ_=>⟨?_,?_⟩,λh=>?_⟩;.simp;omega
 .refine ak (YS x _) rfl ?_;simp only[W,seval];refine j _ ?_;have k:=eE d x (by simp at f;omega);rw[k];refine uj (aB _) l ?_ ?_ (ih (d++[x]) (IntKind.i64.wrap (e+width x)) (by simp) ?_);.repeat first|exact .nil|refine .cons (.refl _) ?_|refine .cons (.forget _) ?_
  .simp only[LW]
  simpa[gJ]using i
 simp at h;omega
def Xq:bh A 236 [.sl 3 (a.map It.axV)] J (.I (gJ 0 a)):=by
 refine aT func236 amI.2 λc d=>an ?_;have b:X a<2^63:=by have:=oI (d 0 _ rfl).1;simpa using this
 simp only[amI,SS,seval];simp only[ab,W,seval];refine cD.mM (X a+1) (aez a c b a [] 0 (by simp) ?_);simp only[W,seval];exact bt rfl ⟨rfl,rfl⟩
def BU:bh A 219 [.agg P.axV] J (.I (if jO P then 0 else 1)):=by
 refine aT func219 amT.2 λa b=>an ?_;simp only[amT,cz.axV,SS,seval];simp only[W,seval];refine⟨λh=>?_,λh=>?_⟩;.exact aS a rfl (by simp[LW]) (by simp at h;simp[cM,jO];omega)
 exact aS a rfl (by simp[LW]) (by simp at h;simp[cM,jO,h])
def aeG(aM:X l<2^63):∀(a d:aL),l=d++a ->(a.all kS=G->∀j0 j1 j2 j3 j4 j5 j6 j7 j8 j9 J D T ad V k af o P ac C x H N w O e y z au m F E g q am B Q r av L aE i p n M j t ap f v,K (.exit 0) ⟨[j0,j1,j2,j3,j4,j5,j6,j7,j8,j9,J,D,T,ad,V,k,af,o,P,ac,C,x,H,N,w,O,e,y,z,au,m,F,E,g,q,am,B,Q,r,av,L,aE,i,p,n,M,j,t,ap,f,v],U⟩) ->(a.all kS=Z->∀j0 j1 j3 j4 j5 j6 j7 j8 j9 J D T ad V k af o P ac C x H N w O e y z au m F E g q am B Q r av L aE i p n M j t ap f v,K .ret ⟨[j0,j1,.b Z,j3,j4,j5,j6,j7,j8,j9,J,D,T,ad,V,k,af,o,P,ac,C,x,H,N,w,O,e,y,z,au,m,F,E,g,q,am,B,Q,r,av,L,aE,i,p,n,M,j,t,ap,f,v],U⟩) ->gF (X U) A LV K (X a+1) ⟨[.s l,u,u,.I (X d),u,u,u,u,u,u,u,u,u,u,u,u,u,u,u,u,u,u,u,u,u,u,u,u,u,u,u,u,u,u,u,u,u,u,u,u,u,u,u,u,u,u,u,u,u,u,u],U⟩:=by
 intro a;induction a with
 |nil =>intro d he h1 h2;subst he;refine aD λR hR=>?_;simp only[LV,W,seval];exact⟨λh=>by simp at h,λ_=>h1 rfl ..⟩
 |cons c a ih =>
 intro d he h1 h2;subst he;refine aD λR hR=>?_;simp only[LV,W,seval];refine⟨λ_=>⟨by simp;omega,λh=>?_,λh=>?_⟩,λh=>by simp at h;omega⟩;.refine h2 ?_ ..;simp only[im,Bool.and_eq_false_iff];left;simp at h;simp[kS];omega
 refine hR _ (bL (fr':=[.s (d++c::a),u,u,.I (X (d++[c])),u,u,u,u,u,u,u,u,u,u,u,u,u,u,u,u,u,u,u,u,u,u,u,u,u,u,u,u,u,u,u,u,u,u,u,u,u,u,u,u,u,u,u,u,u,u,u]) ?_ (ih (d++[c]) (by simp) (λh2=>h1 ?_) (λh3=>h2 ?_)));.rw[cT (by simp at aM;omega)];simp only[ae,ah,aj];repeat first|exact .nil|refine .cons (.refl _) ?_|refine .cons (.forget _) ?_
 .simp[h2];simp at h;simp[kS];omega
 simp[h3]
def pW:bh A 192 [.sl 1 (v.map cG),.I x] J (.I (mB v x)):=by
 refine aT func192 am6.2 λb c=>an ?_;simp only[am6,SS,seval];simp only[W,seval];refine⟨λh=>?_,λh=>?_⟩;.refine bt rfl ?_;simp at h;simp only[cM,aQ,bj,V.i.injEq,jd,dm,mB];rw[aO (by omega)]
 simp at h;have a:x.toNat<X v:=by omega
 rw[sH a];simp only[W,seval];refine⟨by simp;omega,bt rfl ?_⟩;simp only[cM,mB,aQ,bj,V.i.injEq,jd,dm];rw[ao (show ¬(x<0\/(X v:Int)<=x\/8<=x)by omega)]
def PX:bh A 146 [.I x] J (.b Z):=by refine aT func146 anJ.2 λa c=>an ?_;simp only[anJ,SS,seval];simp only[W,seval];exact bt rfl (by simp[cM])
def py(b:Int)(J:ai):bh A 92 [.I x,.I b] J (.I (gp x b)):=by refine aT func92 p92.2 λc d=>an ?_;simp only[p92,SS,seval];simp only[W,seval];refine ak (PX x _) rfl ?_;simp only[W,seval];refine ak (PX b _) rfl ?_;simp only[W,seval];refine⟨λh=>?_,λh=>⟨λa=>?_,λa=>?_⟩⟩<;>refine bt rfl ?_<;>simp at h<;>(try simp at a)<;>simp only[cM,gp,aQ,bj,V.i.injEq,jd,dm]<;>(repeat' split)<;>omega
def ait(f:X v<2^63):∀(a b:bH),v=b++a ->(sP a=0->((fj 3 (fh (.I 0) (fj 14 fo))) λj=>K (.exit 0) ⟨j,U⟩))->(sP a≠0->((fj 2 (fh (.I (sP a)) (fj 15 fo))) λj=>K .ret ⟨j,U⟩)) ->gF (X U) A Uq K (X a+1) ⟨(uu 3 (.I 0::uu 2 (.sl 1 (v.map cG)::.I (X v)::.I (X b)::uu 9 []))),U⟩:=by
 intro a;induction a with
 |nil =>intro b i g d;subst i;refine aD λR k=>?_;simp only[Uq,W,seval];exact⟨λh=>by simp at h,λ_=>g rfl ..⟩
 |cons c a ih =>
 intro b i g d;subst i;refine aD λR k=>?_;simp only[Uq,W,seval];simp only[cG,W,seval];refine⟨λ_=>⟨by simp;omega,λh=>?_,λh=>?_⟩,λh=>by simp at h;omega⟩
 .simp at h;have e:sP (c::a)=c:=by simp[sP,h]
  rw[e]at d;exact d h ..
 simp at h;have e:sP (c::a)=sP a:=by simp[sP,h]
 rw[e]at g d;refine k _ (bL ?_ (ih (b++[c]) (by simp) g d));rw[cT (by simp at f;omega)];simp only[ae,ah,aj];repeat' constructor
def MF:bh A 91 [.sl 1 (v.map cG)] J (.I (sP v)):=by
 refine aT func91 p91.2 λc b=>an ?_;have a:X v<2^63:=by simpa using oI (b 0 _ rfl).1
 simp only[p91,SS,seval];simp only[ab,W,seval];refine cD.bL ?_ (X v+1) (ait v a v [] (by simp) ?_ ?_);.repeat' constructor
 .intro h;simp only[W,seval];simp only[JE];intros;exact bt rfl (by simp[cM,h])
 intro h;simp only[W,seval];simp only[JE];intros;exact bt rfl ⟨rfl,rfl⟩
def DX(b:cz)(J:ai):bh A 278 [.agg P.axV,.agg b.axV] J (.I (jU P b)):=by refine aT func278 ami.2 λa c=>an ?_;simp only[ami,cz.axV,SS,seval];simp only[W,seval];refine ak (py _ _ _) rfl ?_;simp only[W,seval];refine ak (py _ _ _) rfl ?_;simp only[W,seval];refine ak (py _ _ _) rfl ?_;simp only[W,seval];refine kh (zs:=[.sl 1 ([gp P.time b.time,gp P.bR b.bR,gp P.ax0 b.ax0].map cG)]) (.cons (.lit _ _) .nil) (MF _ _) ?_;simp only[W,seval];exact aS a rfl (by simp[LW]) ⟨rfl,rfl⟩
def X5:bh A 144 [.sl 1 (v.map cG),.agg P.axV] J (.b (Tg v P)):=by refine aT func144 anL.2 λa c=>an ?_;simp only[anL,cz.axV,SS,seval];simp only[W,seval];refine cm rfl (λ_=>pW v P.bR _) rfl ?_;simp only[W,seval];exact aS a rfl (by simp[LW]) ⟨rfl,rfl⟩
def MW{J:ai}{K:bG}(d:bW J)(a b:bH):∀(k n:Nat),n+k=8 ->((fj 4 (fh (.own (X J) 8) (fh (.I (ig a b 8)) (fj 24 fo)))) λj=>K (.exit 0) ⟨j,J++[.row 3 1 8 8 Z ((kT a b 8).map cG)]⟩) ->gF (X J) A L0 K (k+1) ⟨(.sl 1 (a.map cG)::.sl 1 (b.map cG)::uu 2 (.own (X J) n::.I (ig a b n)::uu 2 (.I n::uu 21 []))),J++[.row 3 1 8 n Z ((kT a b n).map cG)]⟩
 |0,n,he,h1=>by
  have:n=8:=by omega
  subst this;refine aD λR c=>?_;simp only[L0,W,seval];refine⟨nofun,λ_=>h1 ..⟩
 |k+1,n,he,h1=>by
  refine aD λR c=>?_;simp only[L0,W,seval];refine⟨λ_=>?_,λh=>by simp at h;omega⟩;refine ak (pW a n _) rfl ?_;simp only[W,seval];refine ak (pW b n _) rfl ?_;simp only[W,seval];have f:=cT (n:=n) (by omega);have g:(kT a b n).map cG++[[V.i .i64 (if mB a n<mB b n then mB b n else mB a n)]]=(kT a b (n+1)).map cG:=by simp[zq,cG]
  simp only[g,f];refine⟨?_,λh=>?_,λh=>?_⟩;.simp only[ab,mO,maxLen];omega
  .have e:ig a b (n+1)=n+1:=by simp at h;simp[ig,h]
   refine c _ (bL ?_ (MW d a b k (n+1) (by omega) h1));rw[e];repeat' constructor
  have e:ig a b (n+1)=ig a b n:=by simp at h;simp[ig,h]
  refine c _ (bL ?_ (MW d a b k (n+1) (by omega) h1));rw[e];repeat' constructor
def K5:Ti A 3 1 8:=ng (by kernel_rfl)
def YT:bh A 193 [.sl 1 (v.map cG),.sl 1 (Q.map cG)] J (.sl 1 ((rY v Q).map cG)):=by
 refine aT func193 am5.2 λa b=>an ?_;simp only[am5,SS,seval];simp only[W,seval];refine cD.wk ((Wk.jP (k:=4) K5 rfl).trans (Wk.fG ?_)) (cD.mM 9 (MW a v Q 8 0 (by omega) ?_));.simp only[W,seval];repeat' constructor
 simp only[JE];intros;simp only[W,seval];refine⟨?_,?_⟩;.have:ig v Q 8<=8:=nr v Q 8;simp only[ab,mO];omega
 refine fB 0 a rfl rfl ?_ ?_;.simp[fz,jR,iY,xa]
 simp[fz,jR,cM,rY]
def Oe:bh A 145 [.sl 1 (v.map cG)] J (.sl 1 ((rY v []).map cG)):=by refine aT func145 anK.2 λa b=>an ?_;simp only[anK,SS,seval];simp only[W,seval];refine kh (zs:=[.sl 1 (v.map cG),.sl 1 (([]:bH).map cG)]) (.cons (.refl _) (.cons (.nil _) .nil)) (YT v [] _) ?_;simp only[W,seval];exact bt rfl ⟨rfl,rfl⟩
def Ap:bh A 284 [.s l,.i .u8 c.toNat] J (.I (Lib.indexByte l c)):=by
 refine PC.MJ λw h g a=>?_;obtain⟨x,f,b,_⟩:=(a.2 0 _ rfl).pT;have d:=(a.2 1 _ rfl).jy;refine⟨.int .i64 (Lib.indexByte l c),?_,.i _ _⟩;rw[vs2 a.1,f,d];refine(Tryz.pN x c.toNat w).mono ?_;rintro e j ⟨rfl,rfl⟩;refine⟨?_,rfl⟩;rw[b];have:((c.toNat:Int).toNat).toUInt8=c:=by simp
 rw[this]
def vo:bh A 270 [.s l,.i .u8 c.toNat] J (.I (Lib.indexByte l c)):=by refine aT func270 amm.2 λa b=>an ?_;simp only[amm,SS,seval];simp only[W,seval];refine ak (Ap l c _) rfl ?_;simp only[W,seval];exact bt rfl ⟨rfl,rfl⟩
def Ip:bh A 311 [.s l,.s [c]] J (.I (Lib.indexByte l c)):=by
 refine PC.MJ λw k j b=>?_;obtain⟨x,g,d,_⟩:=(b.2 0 _ rfl).pT;obtain⟨y,f,a,_⟩:=(b.2 1 _ rfl).pT;refine⟨.int .i64 (Lib.indexByte l c),?_,.i _ _⟩;have e:y=⟨#[c]⟩:=by
  have h:y.data=#[c]:=by apply Array.toList_inj.1;rw[a]
  cases y;simp_all
 rw[vs2 b.1,g,f,e];refine(Tryz.pM x c w).mono ?_;rintro e m ⟨rfl,rfl⟩;exact⟨by rw[d],rfl⟩
def OC:bh A 299 [.s l,.s [c]] J (.iS [.s (cutAt l c).1,.s (cutAt l c).2.1,.b (cutAt l c).2.2]):=by
 refine aT func299 amb.2 λg a=>an ?_;simp only[amb,SS,seval];simp only[W,seval];refine ak (Ip l c _) rfl ?_;simp only[W,Nat.reduceAdd,Nat.reduceSub,Nat.reduceLeDiff,Nat.reduceEqDiff,Int.reduceToNat,reduceIte,reduceCtorEq];have i:=nH l c;have j:=Ig (a 0 _ rfl).1;refine⟨λh=>?_,λh=>?_⟩
 .simp only[bz]at h;have d:IntKind.i64.wrap (Lib.indexByte l c+((1:Nat):Int))=Lib.indexByte l c+1:=IntWalk.i64_in _ (by omega);rw[d];refine⟨by omega,by omega,bt rfl ⟨?_,rfl⟩⟩;have e:(Lib.indexByte l c+1).toNat=(Lib.indexByte l c).toNat+1:=by omega
  have f:(l.drop ((Lib.indexByte l c).toNat+1)).take (X l - ((Lib.indexByte l c).toNat+1))=l.drop ((Lib.indexByte l c).toNat+1):=cc (by simp);simp only[cM,cutAt,h,aR,e,f,yP,aQ,bj]
 simp only[gW]at h;exact bt rfl ⟨by simp only[cM,cutAt,h,bo,aQ,bj],rfl⟩
def HF:bh A 281 [.s l,.s [c]] J (.iS [.s (cutAt l c).1,.s (cutAt l c).2.1,.b (cutAt l c).2.2]):=by refine aT func281 amh.2 λa d=>an ?_;simp only[amh,SS,seval];simp only[W,seval];refine ak (OC l c _) rfl ?_;simp only[W,seval];exact bt rfl ⟨rfl,rfl⟩
def Ar:bh A 301 [.s l,.s p] J (.b (ayl l p)):=by refine aT func301 ama.2 λa c=>an ?_;simp only[ama,SS,seval];simp only[W,seval];refine⟨λh=>by simp at h;omega,bt rfl ⟨?_,rfl⟩⟩;simp[cM,ayl]
def Nn:bh A 285 [.s l,.s p] J (.b (ayl l p)):=by refine aT func285 ame.2 λa c=>an ?_;simp only[ame,SS,seval];simp only[W,seval];refine ak (Ar l p _) rfl ?_;simp only[W,seval];exact bt rfl ⟨rfl,rfl⟩
def Aq:bh A 302 [.s l,.s p] J (.b (ayo l p)):=by
 refine aT func302 al9.2 λg c=>an ?_;simp only[al9,SS,seval];simp only[W,seval];have j:=Ig (c 0 _ rfl).1;have i:=Ig (c 1 _ rfl).1;have d:IntKind.i64.wrap ((X l:Int) - (X p:Int))=X l - X p:=IntWalk.i64_in _ (by omega);rw[d];refine⟨λh=>by simp at h;omega,bt rfl ⟨?_,rfl⟩⟩;simp only[cM,ayo,aQ,bj];by_cases a:X p<=X l
 .have e:((X l:Int) - (X p:Int)).toNat=X l - X p:=by omega
  have f:(l.drop (X l - X p)).take (X l - (X l - X p))=l.drop (X l - X p):=cc (by simp);simp[e,f,a]
 simp[a]
def Nk:bh A 286 [.s l,.s p] J (.b (ayo l p)):=by refine aT func286 amd.2 λa c=>an ?_;simp only[amd,SS,seval];simp only[W,seval];refine ak (Aq l p _) rfl ?_;simp only[W,seval];exact bt rfl ⟨rfl,rfl⟩
def PU:bh A 266 [.s l] J (.s (ff l)):=by refine aT func266 amq.2 λa b=>an ?_;simp only[amq,SS,seval];simp only[W,seval];refine ak (HF l 32 _) rfl ?_;simp only[W,seval];exact bt rfl ⟨rfl,rfl⟩
def D7:bh A 273 [.s l] J (.s (ff l)):=by refine aT func273 amj.2 λa b=>an ?_;simp only[amj,SS,seval];simp only[W,seval];refine ak (HF l 32 _) rfl ?_;simp only[W,seval];exact bt rfl ⟨rfl,rfl⟩
set_option maxRecDepth 8000 in
def HP:bh A 283 [.i .u8 c.toNat] J (.I (nL c)):=by refine aT func283 amf.2 λb e=>an ?_;simp only[amf,SS,seval];simp only[W,seval];clear e b;refine⟨λa=>?_,λa=>⟨λf=>?_,λf=>⟨λd=>?_,λd=>⟨λg=>?_,λg=>?_⟩⟩⟩⟩<;>refine bt rfl ⟨?_,rfl⟩<;>simp at*<;> simp only[cM,nL,aQ,bj,V.i.injEq,jd]<;>(repeat' split)<;>omega
def qb:bh A 198 [.s l] J (.b (ayc l)):=by
 refine aT func198 am1.2 λg f=>an ?_;have a:=Ig (f 0 _ rfl).1;simp only[am1,SS,seval];simp only[W,seval];refine⟨?_,?_,λh=>?_,λh=>?_⟩;.intro h;simp at h;omega
 .intro h;simp at h;omega
 .refine bt rfl ⟨?_,rfl⟩;simp only[cM,aQ,bj,V.b.injEq];cases l with|nil=>rfl|cons c r =>simp only[ayc];simp at h;simp;omega
 cases l with
 |nil=>simp at h
 |cons c r =>
 have e:ayc (c::r)=r.all kS:=by simp only[ayc];simp at h;simp;omega
 refine cD.bL ?_ (X r+1) (aeG (c::r) a r [c] rfl (λd=>?_) (λd=>?_));.simp only[W,seval];repeat' constructor
 .simp only[W,seval];intros;exact bt rfl ⟨by simp only[cM,e,d,aQ,bj],rfl⟩
 simp only[W,seval];intros;exact bt rfl ⟨by simp only[cM,e,d,aQ,bj],rfl⟩
def xj:bh A 238 [.agg T.axV] J (.b (eB T)):=by refine aT func238 amG.2 λa c=>an ?_;simp only[amG,It.axV,SS,seval];simp only[W,seval];exact aS a rfl (by simp[LW]) ⟨rfl,rfl⟩
def Ym{b a:bH}{x:Int}:gi (List.map cG (b++x::a)) (X b) 0=some (.I x):=by simp[gi,cG]
def Vg{J:ai}{K:bG}(a b:bH)(f:X a<2^63)(k:X a=X b):∀(g c d i:bH),a=d++g->b=i++c->X d=X i ->(g=c->((fj 26 fo) λj=>K (.exit 0) ⟨j,J⟩))->(g≠c->((fj 4 (fh (.b Z) (fj 21 fo))) λj=>K .ret ⟨j,J⟩)) ->gF (X J) A LQ K (X g+1) ⟨(.sl 1 (a.map cG)::.sl 1 (b.map cG)::uu 10 (.I (X a)::.I (X d)::uu 12 [])),J⟩
 |[],c,d,i,ha,hb,hp,h1,h2=>by
  have:c=[]:=by
   subst ha;subst hb;simp at k;have:X c=0:=by omega
   exact lX.1 this
  subst this;subst ha;refine aD λR l=>?_;simp only[LQ,W,seval];exact⟨λh=>by simp at h,λ_=>h1 rfl ..⟩
 |x::g,[],d,i,ha,hb,hp,h1,h2=>by subst ha;subst hb;simp at k;omega
 |x::g,y::c,d,i,ha,hb,hp,h1,h2=>by
  subst ha;subst hb;refine aD λR l=>?_;have m:gi (List.map cG (i++y::c)) (X d) 0=some (.I y):=by rw[hp];exact Ym
  simp only[LQ,m,cG,W,seval];refine⟨λ_=>⟨by simp;omega,by simp;omega,λh=>?_,λh=>?_⟩,λh=>by simp at h;omega⟩;.simp at h;exact h2 (by simp[h]) ..
  simp at h;subst h;refine l _ (bL ?_ (Vg _ _ f k g c (d++[x]) (i++[x]) (by simp) (by simp) (by simp[hp]) (λe=>h1 (by rw[e])) (λe=>h2 (by simp[e]))));rw[cT (by simp at f;omega)];simp only[ae,ah,aj];repeat' constructor
def Nv:bh A 220 [.sl 1 (v.map cG),.sl 1 (Q.map cG)] J (.b (v==Q)):=by
 refine aT func220 amS.2 λf d=>an ?_;have a:=oI (d 0 _ rfl).1;rw[ab]at a;simp only[amS,SS,seval];simp only[ab,W,seval];refine⟨λh=>?_,λh=>?_⟩;.refine bt rfl ⟨?_,rfl⟩;simp at h;simp only[cM,aQ,bj,V.b.injEq];exact(beq_eq_false_iff_ne.2 λe=>h (by rw[e])).symm
 simp at h;refine cD.bL ?_ (X v+1) (Vg v Q a (by omega) v Q [] [] rfl rfl rfl (λc=>?_) (λc=>?_));.simp only[W,seval];repeat' constructor
 .simp only[W,seval];simp only[JE];intros;exact bt rfl ⟨by simp[cM,c],rfl⟩
 simp only[W,seval];simp only[JE];intros;exact bt rfl ⟨by simp[cM,c],rfl⟩
def aev(g:X l<2^63):∀(a d:aL),l=d++a ->(a.all (λb=>!jB b)=G->((fh (.s l) (fj 62 fo)) λj=>K (.exit 0) ⟨j,U⟩))->(a.all (λb=>!jB b)=Z->((fj 2 (fh (.b Z) (fj 60 fo))) λj=>K .ret ⟨j,U⟩)) ->gF (X U) A LI K (X a+1) ⟨(.s l::uu 2 (.I (X d)::uu 59 [])),U⟩:=by
 intro a;induction a with
 |nil =>intro d f k i;have f:=dH f;subst f;refine aD λR m=>?_;simp only[LI,W,seval];exact⟨λh=>by simp at h,λ_=>k rfl ..⟩
 |cons c a ih =>
 intro d f k i;subst f;refine aD λR m=>?_;simp only[LI,W,seval];refine⟨λ_=>⟨by simp;omega,λ_=>by simp;omega,λ_=>by simp;omega,?_⟩,λh=>by simp at h;omega⟩;refine cm rfl (λ_=>vo [60,62,123,125] c _) rfl ?_;simp only[W,seval];have e:(decide ((c.toNat:Int)<32)||decide (126<(c.toNat:Int))||decide (0<=Lib.indexByte [60,62,123,125] c))=jB c:=by simp only[jB];congr 2<;>exact decide_eq_decide.2 (by omega)
 rw[e];refine⟨λh=>?_,λh=>?_⟩;.exact i (by simp[h]) ..
 refine m _ (bL ?_ (ih (d++[c]) (by simp) (λe=>k (by simp[h,e])) (λe=>i (by simp only[im,e,dU]))));rw[cT (by simp at g;omega)];simp only[ae,ah,aj];repeat' constructor
def rB:bh A 265 [.s l] J (.b (eQ l)):=by
 refine aT func265 amr.2 λj f=>an ?_;have a:=Ig (f 0 _ rfl).1;simp only[amr,SS,seval];simp only[W,seval];have g:∀n:Nat,n<2^63->0<n->IntKind.i64.wrap ((n:Int) - 1)=((n - 1:Nat):Int):=λn d k=>by rw[IntWalk.i64_in _ (by omega)];omega
 have i:∀h:X l≠0,IntKind.i64.wrap ((X l:Int) - 1)=((X l - 1:Nat):Int):=λh=>g _ a (by omega);by_cases c:X l=0;.refine⟨λh=>by simp[c]at h,λ_=>?_,λh=>by simp[c]at h⟩;exact bt rfl ⟨by simp[cM,eQ,lh,c],rfl⟩
 rw[i c];refine⟨λ_=>by omega,λh=>?_,λh=>?_⟩
 .refine bt rfl ⟨?_,rfl⟩;have e:lh l=Z:=by simp only[lh];simp[c]at h |-;omega
  simp only[cM,eQ,e,dq,aQ,bj]
 have e:lh l=G:=by simp only[lh];simp[c]at h |-;omega
 refine cD.bL ?_ (X l+1) (aev l a l [] rfl (λd=>?_) (λd=>?_));.simp only[W,seval];repeat' constructor
 .simp only[JE];intros;simp only[W,seval];refine ak (HF l 32 _) rfl ?_;simp only[W,seval];refine ak (qb _ _) rfl ?_;simp only[W,seval];refine bt rfl ⟨?_,rfl⟩;simp only[cM,eQ,e,d,mE,cN,aQ,bj];congr 3;exact decide_eq_decide.2 (by omega)
 simp only[JE];intros;simp only[W,seval];exact bt rfl ⟨by simp only[cM,eQ,e,d,cN,dq,aQ,bj],rfl⟩
def aey(d:List It)(q:bW U)(f:X d<2^63):∀(a c:List It),d=c++a ->(fits a T=G->((fj 40 fo) λl=>K (.exit 0) ⟨l,U++[.box 70 T.axV]⟩))->(fits a T=Z->∀n,((fj 4 (fh (.b Z) (fj 35 fo))) λl=>K .ret ⟨l,U++n⟩)) ->gF (X U) A LN K (X a+1) ⟨(uu 3 (.ptr (X U) 0::uu 3 (.sl 3 (d.map It.axV)::.I (X d)::.I (X c)::uu 30 []))),U++[.box 70 T.axV]⟩:=by
 intro a;induction a with
 |nil =>intro c i k j;have i:=dH i;subst i;refine aD λR p=>?_;simp only[LN,W,seval];exact⟨λh=>by simp at h,λ_=>k rfl ..⟩
 |cons y a ih =>
 intro c i k j;subst i;refine aD λR p=>?_;simp only[LN,It.axV,W,seval];refine⟨λ_=>⟨by simp;omega,?_⟩,λh=>by simp at h;omega⟩;refine ak (xj y _) rfl ?_;simp only[W,seval];have r:bW (U++[.box 70 T.axV]):=cx q (by simp[It.axV,iY,air,aov]);have back:fits (y::a) T=fits a T->∀g,qP g ((uu 3 (.ptr (X U) 0::uu 3 (.sl 3 ((c++y::a).map It.axV)::.I (X (c++y::a))::.I (X (c++[y]))::uu 30 []))))->∀o,R ⟨g,U++[.box 70 T.axV,o]⟩:=by intro e g s o;rw[e]at k j;refine p _ (dn [.box 70 T.axV] [o] r s ?_ (ih (c++[y]) (by simp) k j));simp only[LW,ah,aj,aP];omega
 refine⟨λh=>?_,λh=>?_⟩
 .refine back ?_ _ ?_ _
  .have:gK T y=Z:=by simp only[gK,h,jN,dq]
   simp[fits,this]
  rw[cT (by simp at f;omega)];simp only[ae,ah,aj];repeat' constructor
 refine cm rfl (λ_=>PU y.ax1 _) rfl ?_;simp only[W,seval];refine⟨λm=>?_,λm=>?_⟩
 .refine j ?_ _ ..;have:gK T y=G:=by simp only[gK,h,lK,cN];exact m
  simp[fits,this]
 refine back ?_ _ ?_ _
 .have:gK T y=Z:=by simp only[gK,h,lK,cN];exact m
  simp[fits,this]
 rw[cT (by simp at f;omega)];simp only[ae,ah,aj];repeat' constructor
def agm(a:List It)(J:ai):bh A 239 [.sl 3 (a.map It.axV),.agg T.axV] J (.b (fits a T)):=by
 refine aT func239 amF.2 λe f=>an ?_;have c:=oI (f 0 _ rfl).1;rw[ab]at c;simp only[amF,SS,seval];simp only[ab,W,seval];refine⟨by simp[It.axV,jQ,jK],?_⟩;refine cD.bL ?_ (X a+1) (aey T a e c a [] rfl (λd=>?_) (λd=>?_));.simp only[W,seval];repeat' constructor
 .simp only[JE];intros;simp only[W,seval];exact aS e rfl (by simp[LW]) ⟨by simp[cM,d],rfl⟩
 simp only[JE];intros;simp only[W,seval];exact aS e rfl (by simp[LW]) ⟨by simp[cM,d],rfl⟩
set_option maxRecDepth 8000 in
def Ih(g:List It)(x:It)(J:ai):bh A 237 [.sl 3 ((a++x::g).map It.axV),.I (X a)] J (.b (cv a.getLast? x)):=by
 refine aT func237 amH.2 λi q=>an ?_;have f:=oI (q 0 _ rfl).1;rw[ab]at f;simp only[amH,SS,seval];simp only[It.axV,W,seval];refine⟨by simp;omega,λc=>?_,λc=>⟨λk=>?_,λk=>?_⟩⟩
 .simp only[dM]at c;have p:∀y d,a=d++[y]->IntKind.i64.wrap ((X a:Int) - 1)=X d:=λy d e=>by
   subst e;have:X (d++[y])<2^63:=by simp at f |-;omega
   rw[IntWalk.i64_in _ (by omega)];simp
  rcases fN a with r|⟨d,y,n⟩;.subst r;refine⟨λh=>by simp at h,.I 0,λh=>by simp at h,?_⟩;simp only[W,seval];refine aS i rfl (by simp[LW]) ⟨?_,rfl⟩;simp[cM,cv,c]
  rw[fk]at n;rw[p y d n];subst n;have o:gi (List.map It.axV (d++[y]++x::g)) (X d) 0=some (.I y.axW):=by rw[aJ,uW,oE];rfl
  simp only[al,o];refine⟨λ_=>by simp;omega,.I y.axW,λ_=>⟨True,rfl,trivial⟩,?_⟩;simp only[W,seval];refine aS i rfl (by simp[LW]) ⟨?_,rfl⟩;have s:((X (d++[y]):Int)==0)=Z:=by simp;omega
  simp only[cM,cv,c,s,aR,aQ,bj,kj,iZ,nR,mz]
 .refine ak (qb _ _) rfl ?_;simp only[W,seval];simp only[dM,fW]at c k;refine aS i rfl (by simp[LW]) ⟨?_,rfl⟩;simp only[cM,cv,c,k,aR,bo,aQ,bj];simp
 simp only[dM,fW,gj]at c k;have tagged:(x.axW=2\/x.axW=4)->cv a.getLast? x=(eQ x.ax1&&decide (1<=x.id)&&decide (x.id<=999)):=λh=>by simp only[cv,c,k,h,aR,bo]
 refine⟨λj=>⟨λ_=>?_,λh=>?_⟩,λj=>⟨λl=>?_,λl=>⟨λm=>?_,λm=>?_⟩⟩⟩;.refine ak (rB _ _) rfl ?_;simp only[W,seval];refine aS i rfl (by simp[LW]) ⟨?_,rfl⟩;simp at j;simp only[cM,tagged (.inl j),aQ,bj]
 .rw[j]at h;simp at h
 .refine ak (rB _ _) rfl ?_;simp only[W,seval];refine aS i rfl (by simp[LW]) ⟨?_,rfl⟩;simp at l;simp only[cM,tagged (.inr l),aQ,bj]
 .refine ak (qb _ _) rfl ?_;simp only[W,seval];refine aS i rfl (by simp[LW]) ⟨?_,rfl⟩;simp at m;simp[cM,cv,m]
 refine aS i rfl (by simp[LW]) ⟨?_,rfl⟩;simp at j m l;simp[cM,cv,c,k,j,m,l]
def aeI(o:bW U)(g:X a<2^63):∀(b c:List It),a=c++b ->(cj c b=0->((fj 35 fo) λk=>K (.exit 0) ⟨k,U⟩))->(cj c b≠0->∀l,((fj 2 (fh (.I (cj c b)) (fj 32 fo))) λk=>K .ret ⟨k,U++l⟩)) ->gF (X U) A LZ K (X b+1) ⟨(.sl 3 (a.map It.axV)::uu 12 (.sl 3 (a.map It.axV)::.I (X a)::.I (X c)::uu 19 [])),U⟩:=by
 intro b;induction b with
 |nil =>intro c f i d;have f:=dH f;subst f;refine aD λR n=>?_;simp only[LZ,W,seval];exact⟨λh=>by simp at h,λ_=>i rfl ..⟩
 |cons y b ih =>
 intro c f i d;subst f;refine aD λR n=>?_;simp only[LZ,It.axV,W,seval];refine⟨λ_=>⟨by simp;omega,?_⟩,λh=>by simp at h;omega⟩;refine ak (Ih c b y _) rfl ?_;simp only[W,seval];refine⟨λh=>?_,λh=>?_⟩
 .have e:cj c (y::b)=1:=by simp at h;simp[cj,h]
  rw[e]at d;exact d (by decide) _ ..
 refine ak (xj y _) rfl ?_;simp only[W,seval];have p:List.take (X c - 0) (List.map It.axV (c++y::b))=c.map It.axV:=by simp
 simp only[p];refine⟨λ_=>by simp;omega,cm rfl (λ_=>agm y c _) rfl ?_⟩;simp only[W,seval];have m:cv c.getLast? y=G:=by simpa using h
 refine⟨λj=>?_,λj=>?_⟩
 .have e:cj c (y::b)=7:=by simp only[cj,m,j,aR,bo,sM]
  rw[e]at d;exact d (by decide) _ ..
 have e:cj c (y::b)=cj (c++[y]) b:=by simp only[cj,m,j,bo,sM,aI]
 rw[e]at i d;refine n _ (uj (aB _) o ?_ ?_ (ih (c++[y]) (by simp) i d));.rw[cT (by simp at g;omega)];simp only[ae,ah,aj];repeat' constructor
 simp only[LW]
def qX:bh A 195 [.sl 3 (a.map It.axV)] J (.I (cU a)):=by
 refine aT func195 am4.2 λd f=>an ?_;have b:=oI (f 0 _ rfl).1;rw[ab]at b;simp only[am4,SS,seval];simp only[ab,W,seval];refine cm rfl (λ_=>Xq a _) rfl ?_;simp only[ab,W,seval];refine⟨λh=>?_,λh=>?_⟩
 .refine bt rfl ⟨?_,rfl⟩;simp at h;have:512<X a\/1024<gJ 0 a:=by omega
  simp only[cM,cU,this,aR,aQ,bj]
 simp at h;have e:¬(512<X a\/1024<gJ 0 a):=by omega
 refine cD.bL ?_ (X a+1) (aeI a d b a [] rfl (λc=>?_) (λc=>?_));.simp only[W,seval];repeat' constructor
 .simp only[JE];intros;simp only[W,seval];exact bt rfl ⟨by simp only[cM,cU,e,c,bo,aQ,bj],rfl⟩
 simp only[JE];intros;simp only[W,seval];exact aS d rfl (by simp[LW]) ⟨by simp only[cM,cU,e,bo,aQ,bj],rfl⟩
def aex(q:bW U)(g:X a<2^40):∀(d f:List It) (c:bH),a=f++d->X c<=X f ->(∀v,((fj 3 (fh (.own (X U+1) (X (dW c d))) (fj 29 fo))) λs=>K (.exit 0) ⟨s,U++[v,.row 3 1 8 (X (dW c d)) Z ((dW c d).map cG)]⟩)) ->gF (X U) A F7 K (X d+1) ⟨(uu 3 (.own (X U+1) (X c)::.mp (X U)::uu 3 (.sl 3 (a.map It.axV)::.I (X a)::.I (X f)::uu 22 []))),U++[.map 3 4 (nk c),.row 3 1 8 (X c) Z (c.map cG)]⟩:=by
 intro d;induction d with
 |nil =>intro f c m p j;have m:=dH m;subst m;refine aD λR o=>?_;simp only[F7,W,seval];exact⟨λh=>by simp at h,λ_=>j _ ..⟩
 |cons y d ih =>
 intro f c m p j;subst m;refine aD λR o=>?_;by_cases k:y.id∈c
 .have l:kg (U++[.map 3 4 (nk c),.row 3 1 8 (X c) Z (c.map cG),.box 70 y.axV]) 0 (.mp (X U)) (.I y.id)=some (some (0+c.idxOf y.id,.b G)):=by simp only[kg,iF,aG,yw,k,aR]
  simp only[It.axV]at l;simp only[F7,It.axV,W,seval];refine⟨λ_=>⟨by simp;omega,?_⟩,λh=>by simp at h;omega⟩;refine ak (xj y _) rfl ?_;simp only[l,W,seval];have e:dW c (y::d)=dW c d:=by simp[dW,k]
  rw[e]at j;have n:bW (U++[.map 3 4 (nk c),.row 3 1 8 (X c) Z (c.map cG)]):=cx q (by simp);refine⟨λ_=>by simp[V.sj],λh=>by simp at h,λ_=>?_⟩;refine o _ (dn [_,_] [_] n ?_ ?_ (ih (f++[y]) c (by simp) (by simp;omega) j));.rw[cT (by simp at g;omega)];simp only[ae,ah,aj];repeat' constructor
  simp only[LW,ah,aj,aP];omega
 have l:kg (U++[.map 3 4 (nk c),.row 3 1 8 (X c) Z (c.map cG),.box 70 y.axV]) 0 (.mp (X U)) (.I y.id)=some none:=by simp only[kg,iF,aG,yw,k,bo]
 have r:jA 0 (.I y.id) (nk c) 0=some none:=by simp only[yw,k,bo]
 simp only[It.axV]at l;simp only[F7,It.axV,W,seval];refine⟨λ_=>⟨by simp;omega,?_⟩,λh=>by simp at h;omega⟩;refine ak (xj y _) rfl ?_;simp only[l,r,W,seval];have x:c.contains y.id=Z:=by simpa using k
 refine⟨λ_=>by simp[V.sj],λh=>?_,λh=>?_⟩
 .have e:dW c (y::d)=dW (c++[y.id]) d:=by simp[dW,k,h]
  rw[e]at j;have u:c.map cG++[[V.i .i64 y.id]]=(c++[y.id]).map cG:=by simp[cG]
  have w:nk c++[(V.i .i64 y.id,ph [none] (V.b G))]=nk (c++[y.id]):=by simp[nk,ph]
  have t:X c+1=X (c++[y.id]):=by simp
  rw[u,w,t];have n:bW (U++[.map 3 4 (nk (c++[y.id])),.row 3 1 8 (X (c++[y.id])) Z ((c++[y.id]).map cG)]):=cx q (by simp);refine⟨by simp[V.sj,ph,V.Ea,V.pure],?_,?_⟩;.simp at g;simp[maxLen];omega
  refine o _ (dn [_,_] [_] n ?_ ?_ (ih (f++[y]) (c++[y.id]) (by simp) (by simp;omega) j));.rw[cT (by simp at g;omega)];simp only[ae,ah,aj];repeat' constructor
  simp only[LW,ah,aj,aP];omega
 have e:dW c (y::d)=dW c d:=by simp[dW,h]
 rw[e]at j;have n:bW (U++[.map 3 4 (nk c),.row 3 1 8 (X c) Z (c.map cG)]):=cx q (by simp);refine o _ (dn [_,_] [_] n ?_ ?_ (ih (f++[y]) c (by simp) (by simp;omega) j));.rw[cT (by simp at g;omega)];simp only[ae,ah,aj];repeat' constructor
 simp only[LW,ah,aj,aP];omega
def Dk(b:X a<2^40)(J:ai):PC A 240 [.sl 3 (a.map It.axV)] J (λr d=>r=.own (X J) 0/\d=J++[.row 3 1 8 0 Z ((ax9 a).map cG)]):=by
 refine aT func240 amE.2 λc e=>an ?_;simp only[amE,SS,seval];simp only[ab,W,seval];refine cD.wk ((Wk.ov (J:=J) [_] (k:=3) K5 rfl).trans (Wk.fG ?_)) (cD.mM (X a+1) (aex a c b a [] [] rfl (aB _) ?_));.simp only[W,seval];repeat' constructor
 simp only[JE];intros;simp only[W,seval];exact AB 1 c (.inr rfl) rfl rfl rfl (by simp[IK,Ob.gen]) (by simp[cM,ax9,mv1,Ob.fresh])
def Sg(b:X a<2^40)(J:ai):bh A 240 [.sl 3 (a.map It.axV)] J (.sl 1 ((ax9 a).map cG)) :=PC.closed λc=>PC.fz c (Dk a b J)
def Ve{J:ai}{K:bG}(e:bW J)(N:Nat)(j:N<2^40):∀(k i:Nat),i+k=N ->((fj 3 (fh (.own (X J) 0) (fj 15 fo))) λf=>K (.exit 0) ⟨f,J++[.row 3 1 8 0 Z (kH N N)]⟩) ->gF (X J) A LL K (k+1) ⟨(uu 3 (.own (X J) 0::uu 4 (.I N::.I i::uu 9 []))),J++[.row 3 1 8 0 Z (kH N i)]⟩
 |0,i,b,h1=>by
  have b:i=N:=by omega
  subst b;refine aD λR c=>?_;simp only[LL,W,seval];exact⟨λh=>by simp at h,λ_=>h1 ..⟩
 |k+1,i,b,h1=>by
  have a:i<N:=by omega
  refine aD λR c=>?_;simp only[LL,zA (Nat.le_of_lt a),I9 a,W,seval];refine⟨λ_=>?_,λh=>by simp at h;omega⟩;have d:=cT (n:=i) (by omega);rw[d];have g:(kH N i).set i [V.i .i64 (((i+1:Nat)):Int)]=kH N (i+1):=by rw[<- I8 a];rfl
  rw[g];refine⟨by omega,a,c _ (bL ?_ (Ve e N j k (i+1) (by omega) h1))⟩;repeat' constructor
def DL(b:n<2^40)(J:ai):bh A 243 [.I n] J (.sl 1 ((dK n).map cG)):=by
 refine aT func243 amB.2 λa c=>an ?_;simp only[amB,SS,seval];simp only[W,seval];refine⟨⟨by omega,.inl trivial,by omega,by omega,by simp[maxLen];omega⟩,?_⟩;have e:List.replicate n [V.i .i64 0]=kH n 0:=by simp[kH,dK]
 rw[e];refine cD.bL (fr':=(uu 3 (.own (X J) 0::uu 4 (.I n::.I (0:Nat)::uu 9 [])))) ?_ (n+1) (Ve a n b n 0 (by omega) ?_);.rw[zA (iP _)];repeat' constructor
 simp only[JE];intros;simp only[W,seval];refine fB 0 a rfl rfl ?_ ?_;.simp[fz,jR,iY,xa]
 simp[fz,jR,cM,kH]
def SG:Int:=if x∈v then v.idxOf x else -1
def aeu(l:bH)(f:X l<2^63):∀(a b:bH),l=b++a->x ∉ b ->(x ∉ l->((fj 19 fo) λj=>K (.exit 0) ⟨j,U⟩))->(x∈l->((fj 4 (fh (.I (SG l x)) (fj 14 fo))) λj=>K .ret ⟨j,U⟩)) ->gF (X U) A LH K (X a+1) ⟨(.sl 1 (l.map cG)::.I x::uu 5 (.I (X l)::.I (X b)::uu 10 [])),U⟩:=by
 intro a;induction a with
 |nil =>intro b d i k g;have d:=dH d;subst d;refine aD λR m=>?_;simp only[LH,W,seval];exact⟨λh=>by simp at h,λ_=>k i ..⟩
 |cons c a ih =>
 intro b d i k g;subst d;refine aD λR m=>?_;simp only[LH,cG,W,seval];refine⟨λ_=>⟨by simp;omega,λh=>?_,λh=>?_⟩,λh=>by simp at h;omega⟩
 .simp at h;subst h;have e:SG (b++x::a) x=X b:=by simp[SG,List.idxOf_append,i]
  rw[e]at g;exact g (by simp) ..
 simp at h;refine m _ (bL ?_ (ih (b++[c]) (by simp) (by simp[i,h]) k g));rw[cT (by simp at f;omega)];simp only[ae,ah,aj];repeat' constructor
def P8:bh A 267 [.sl 1 (v.map cG),.I x] J (.I (SG v x)):=by
 refine aT func267 amp.2 λc b=>an ?_;have a:=oI (b 0 _ rfl).1;rw[ab]at a;simp only[amp,SS,seval];simp only[ab,W,seval];refine cD.bL ?_ (X v+1) (aeu x v a v [] rfl (by simp) (λh=>?_) (λh=>?_));.repeat' constructor
 .simp only[JE];intros;simp only[W,seval];exact bt rfl ⟨by simp[cM,SG,h],rfl⟩
 simp only[JE];intros;simp only[W,seval];exact bt rfl ⟨rfl,rfl⟩
def HI:bh A 241 [.sl 1 (v.map cG),.I x] J (.b (v.contains x)):=by
 refine aT func241 amD.2 λa c=>an ?_;simp only[amD,SS,seval];simp only[W,seval];refine ak (P8 v x _) rfl ?_;simp only[W,seval];refine bt rfl ⟨?_,rfl⟩;by_cases h:x∈v;.simp[cM,SG,h]
 simp[cM,SG,h]
def Vf{J:ai}{K:bG}(a b:List It)(g:X a<2^63)(k:X a=X b):∀(d c f i:List It),a=f++d->b=i++c->X f=X i ->(iJ d c=G->((fj 26 fo) λj=>K (.exit 0) ⟨j,J⟩))->(iJ d c=Z->((fj 4 (fh (.b Z) (fj 21 fo))) λj=>K .ret ⟨j,J⟩)) ->gF (X J) A LP K (X d+1) ⟨(.sl 3 (a.map It.axV)::.sl 3 (b.map It.axV)::uu 10 (.I (X a)::.I (X f)::uu 12 [])),J⟩
 |[],c,f,i,ha,hb,hp,h1,h2=>by
  have:c=[]:=by
   subst ha;subst hb;simp at k;have:X c=0:=by omega
   exact lX.1 this
  subst this;subst ha;refine aD λR l=>?_;simp only[LP,W,seval];exact⟨λh=>by simp at h,λ_=>h1 rfl ..⟩
 |x::d,[],f,i,ha,hb,hp,h1,h2=>by subst ha;subst hb;simp at k;omega
 |x::d,y::c,f,i,ha,hb,hp,h1,h2=>by
  subst ha;subst hb;refine aD λR l=>?_;have m:(List.map It.axV (i++y::c)).getD (X f) []=y.axV:=by rw[hp];exact gA
  simp only[LP,m,It.axV,ix,ez,W,seval];refine⟨λ_=>⟨by simp;omega,by simp;omega,λh=>?_,λh=>?_⟩,λh=>by simp at h;omega⟩
  .refine h2 ?_ ..;have:IQ x y=Z:=by simpa only[IQ,dt]using h
   simp[iJ,this]
  have n:IQ x y=G:=by simpa only[IQ,eI]using h
  have e:iJ (x::d) (y::c)=iJ d c:=by simp[iJ,n]
  rw[e]at h1 h2;refine l _ (bL ?_ (Vf _ _ g k d c (f++[x]) (i++[y]) (by simp) (by simp) (by simp[hp]) h1 h2));rw[cT (by simp at g;omega)];simp only[ae,ah,aj];repeat' constructor
def I6(b:List It)(J:ai):bh A 228 [.sl 3 (a.map It.axV),.sl 3 (b.map It.axV)] J (.b (iJ a b)):=by
 refine aT func228 amM.2 λg f=>an ?_;have c:=oI (f 0 _ rfl).1;rw[ab]at c;simp only[amM,SS,seval];simp only[ab,W,seval];refine⟨λh=>?_,λh=>?_⟩
 .refine bt rfl ⟨?_,rfl⟩;simp at h;simp only[cM,aQ,bj,V.b.injEq];cases e:iJ a b;.rfl
  exact absurd (J9 e) (by omega)
 simp at h;refine cD.bL ?_ (X a+1) (Vf a b c (by omega) a b [] [] rfl rfl rfl (λd=>?_) (λd=>?_));.simp only[W,seval];repeat' constructor
 .simp only[W,seval];simp only[JE];intros;exact bt rfl ⟨by simp[cM,d],rfl⟩
 simp only[W,seval];simp only[JE];intros;exact bt rfl ⟨by simp[cM,d],rfl⟩
def th(b:List It)(J:ai):bh A 179 [.sl 3 (a.map It.axV),.sl 3 (b.map It.axV)] J (.b (iJ a b)):=by refine aT func179 ani.2 λc d=>an ?_;simp only[ani,SS,seval];simp only[W,seval];refine ak (I6 a b _) rfl ?_;simp only[W,seval];exact bt rfl ⟨rfl,rfl⟩
def aas(t:bW U)(i:X a<2^40): ∀(c d:List It) (b:aL) (g:Nat),a=d++c->X b+X (ax8 c).1<2^40 ->(∀p,((fh (.sl 3 (a.map It.axV)) (fj 2 (fh (.own (X U) n) (fh (.I (X a - X (ax8 c).2:Nat)) (fh (.own (X U+1) p) (fj 50 fo)))))) λr=>K (.exit 2) ⟨r,U++[.row 70 3 32 n Z M,.row 5 1 1 p Z (aC (b++(ax8 c).1))]⟩)) ->gF (X U) A F4 K (X c+1) ⟨(.sl 3 (a.map It.axV)::uu 2 (.own (X U) n::.I (X d)::.own (X U+1) g::uu 50 [])),U++[.row 70 3 32 n Z M,.row 5 1 1 g Z (aC b)]⟩:=by
 intro c;induction c with
 |nil =>
  intro d b g j k f;have j:=dH j;subst j;refine aD λR q=>?_;simp only[F4,W,seval];refine⟨λh=>by simp at h,.I 0,λh=>by simp at h,?_⟩;simp only[W,seval];refine⟨λh=>by simp at h,λ_=>?_⟩;have e:b++(ax8 []).1=b:=by simp[ax8]
  rw[e]at f;exact f _ ..
 |cons x c ih =>
 intro d b g j k f;subst j;refine aD λR q=>?_;simp only[F4,It.axV,W,seval];refine⟨λ_=>by simp;omega,.I x.axW,λ_=>rfl,?_⟩;simp only[W,seval];have s:decide ((X d:Int)<(X (List.map It.axV (d++x::c)):Int))=G:=by simp;omega
 simp only[s,It.axV,W,seval];refine⟨λh=>?_,λh=>?_⟩
 .simp at h;have m:(ax8 (x::c)).1=x.ax1++(ax8 c).1:=by simp[ax8,h]
  have l:(ax8 (x::c)).2=(ax8 c).2:=by simp[ax8,h]
  rw[m]at f k;rw[l]at f;simp only[<- List.append_assoc b]at f;rw[ae]at k;refine⟨by simp;omega,⟨?_,?_⟩,?_⟩;.simp only[bC];omega
  .simp only[bC,maxLen];omega
  rw[fD];refine q _ (bL ?_ (ih (d++[x]) (b++x.ax1) (g+1) (by simp) (by rw[ae];omega) f));rw[cT (by simp at i;omega)];simp only[ae,ah,aj];repeat' constructor
 simp at h;have m:(ax8 (x::c))=([],x::c):=by simp[ax8,h]
 rw[m]at f;have l:X (d++x::c) - X (x::c)=X d:=by simp
 have o:=f g;simp only[l,bE]at o;exact o ..
def K4:Ti A 70 3 32:=ng (by kernel_rfl)
def YX:Ti A 5 1 1:=ng (by kernel_rfl)
def yo{J:ai}{K:bG}(i:List It)(j:bW J)(d:X i<2^40): ∀(n:Nat) (a c b:List It),i=c++a->X a<=n->bA a<2^40->X b<=X c ->((fj 3 (fh (.own (X J) (X (b++lO n a))) (fj 52 fo))) λz=>K (.exit 0) ⟨z,J++[.row 70 3 32 (X (b++lO n a)) Z ((b++lO n a).map It.axV)]⟩) ->gF (X J) A LG K (n+1) ⟨(.sl 3 (i.map It.axV)::uu 2 (.own (X J) (X b)::.I (X c)::uu 51 [])),J++[.row 70 3 32 (X b) Z (b.map It.axV)]⟩
 |n,[],c,b,l,hn,ht,ho,h1=>by
  have l:=dH l;subst l;have e:b++lO n []=b:=by cases n<;>simp[lO]
  rw[e]at h1;refine aD λR o=>?_;simp only[LG,W,seval];exact⟨λh=>by simp at h,λ_=>h1 ..⟩
 |0,x::a,c,b,l,hn,ht,ho,h1=>by simp at hn
 |n+1,x::a,c,b,l,hn,ht,ho,h1=>by
  subst l;refine aD λR o=>?_;simp only[LG,It.axV,W,seval];refine⟨λ_=>⟨by simp;omega,λg=>?_,λg=>?_⟩,λh=>by simp at h;omega⟩
  .simp at g;have e:b++lO (n+1) (x::a)=(b++[x])++lO n a:=by simp[lO,g]
   rw[e]at h1;have q:b.map It.axV++[[.I x.axW,.s x.ax1,.I x.id]]=(b++[x]).map It.axV:=by simp[It.axV]
   have p:X b+1=X (b++[x]):=by simp
   rw[q,p];simp only[bA]at ht;refine⟨by simp;omega,?_,?_⟩;.simp at d;simp[maxLen];omega
   refine o _ (bL ?_ (yo _ j d n a (c++[x]) (b++[x]) (by simp) (by simp at hn;omega) (by omega) (by simp;omega) h1));rw[cT (by simp at d;omega)];simp only[ae,ah,aj];repeat' constructor
  simp at g;obtain⟨f,t⟩:=yV (x::a);have y:=tH (r:=a) g;have w:=Av (x::a);have v:X (c++x::a) - X (ax8 (x::a)).2=X (c++f):=by have:=congrArg List.length t;simp only[ae]at this |-;omega
  refine cD.wk ((Wk.ov (J:=J) [_] (k:=5) YX rfl).trans (Wk.fG ?_)) (cD.mM (X (x::a)+1) (aas _ (X b) (b.map It.axV) j d (x::a) c [] 0 rfl (by simp;omega) ?_));.simp only[W,seval];repeat' constructor
  simp only[JE];intros;rw[v,aw];simp only[bC,jC,W,seval];have m:c++x::a=(c++f)++(ax8 (x::a)).2:=by rw[aJ,<- t]
  have B:1<=X f:=by have:=congrArg List.length t;simp only[ae,ah]at this;omega
  refine⟨λh=>⟨?_,?_⟩,λh=>?_⟩;.simp at d;simp[maxLen];omega
  .simp at h;have e:b++lO (n+1) (x::a)=(b++[⟨1,(ax8 (x::a)).1,0⟩])++lO n (ax8 (x::a)).2:=by
    have:¬X (ax8 (x::a)).1=0:=by omega
    simp[lO,g,this]
   rw[e]at h1;have q:b.map It.axV++[[.I 1,.s (ax8 (x::a)).1,.I 0]]=(b++[(⟨1,(ax8 (x::a)).1,0⟩:It)]).map It.axV:=by simp[It.axV]
   have p:X b+1=X (b++[(⟨1,(ax8 (x::a)).1,0⟩:It)]):=by simp
   rw[q,p];have u:bW (J++[.row 70 3 32 (X (b++[(⟨1,(ax8 (x::a)).1,0⟩:It)])) Z ((b++[(⟨1,(ax8 (x::a)).1,0⟩:It)]).map It.axV)]):=cx j (by simp);refine o _ (dn [_] [_] u ?_ ?_ (yo _ j d n (ax8 (x::a)).2 (c++f) (b++[⟨1,(ax8 (x::a)).1,0⟩]) m (by simp at hn;omega) (by omega) (by simp;omega) h1));.repeat' constructor
   simp only[LW,ah,aj,aP];omega
  simp at h;have e:b++lO (n+1) (x::a)=b++lO n (ax8 (x::a)).2:=by simp[lO,g,h]
  rw[e]at h1;have u:bW (J++[.row 70 3 32 (X b) Z (b.map It.axV)]):=cx j (by simp);refine o _ (dn [_] [_] u ?_ ?_ (yo _ j d n (ax8 (x::a)).2 (c++f) b m (by simp at hn;omega) (by omega) (by simp;omega) h1));.repeat' constructor
  simp only[LW,ah,aj,aP];omega
def MM(b:X a<2^40)(d:bA a<2^40)(J:ai):bh A 268 [.sl 3 (a.map It.axV)] J (.sl 3 ((ayb a).map It.axV)):=by
 refine aT func268 amo.2 λc e=>an ?_;simp only[amo,SS,seval];simp only[W,seval];refine cD.wk ((Wk.jP (k:=3) K4 rfl).trans (Wk.fG ?_)) (cD.mM (X a+1) (yo a c b (X a) a [] [] rfl (aB _) d (aB _) ?_));.simp only[W,seval];repeat' constructor
 simp only[JE];intros;simp only[W,seval];refine fB 0 c rfl rfl ?_ ?_;.simp[fz,jR,iY,xa]
 simp[fz,jR,cM,ayb]
def J4{J:ai}{K:bG}(F:V)(a c:bH)(q:X a<2^63): ∀(i:Nat) (l:fF),i<=min (X a) (X c)->(∀x,jo x l=Ij (a.drop i) (c.drop i) x) ->(∀l,(∀x,jo x l=Ij a c x)->((fh (F) (fj 6 (fh (.mp (X J)) (fj 52 fo)))) λp=>K (.exit 0) ⟨p,J++[.map 3 3 (sq l)]⟩)) ->gF (X J) A LM K (i+1) ⟨(F::.sl 1 (a.map cG)::.sl 1 (c.map cG)::uu 4 (.mp (X J)::.I ((i:Int) - 1)::uu 51 [])),J++[.map 3 3 (sq l)]⟩
 |0,l,hi,hl,h1=>by refine aD λR m=>?_;simp only[LM,W,seval];exact⟨nofun,λ_=>h1 l (by simpa using hl) ..⟩
 |i+1,l,hi,hl,h1=>by
  have d:i<X a:=by omega
  have g:i<X c:=by omega
  have o:((i+1:Nat):Int) - 1=(i:Nat):=by omega
  have n:IntKind.i64.wrap ((i:Int) - 1)=(i:Int) - 1:=IntWalk.i64_in _ (by omega);have e:∀x,jo x (mN l (a.getD i 0) (c.getD i 0))=Ij (a.drop i) (c.drop i) x:=λx=>by rw[uN,Ot d g,hl x]
  rw[o];refine aD λR m=>?_;simp only[LM,al,sH d,sH g,W,seval];rcases Dq l (a.getD i 0)with⟨_,f,j⟩|⟨k,b,_,f,j⟩;all_goals
   simp only[f,n,ph,j,W,seval];refine⟨λ_=>⟨by simp;omega,by simp;omega,by simp[V.sj,V.Ea,V.pure],?_⟩,λh=>by simp at h<;>omega⟩;refine m _ (bL ?_ (J4 F a c q i _ (by omega) e h1));repeat' constructor
def Xa(l:fF)(H:bW U)(i:X a<2^40)(J:∀x,jo x l=Ij v Q x):∀(d f:List It) (c:List It),a=f++d->X c<=X f ->((fj 9 (fh (.own (X U+1) (X (c++aym d v Q))) (fj 50 fo))) λN=>K (.exit 2) ⟨N,U++[.map 3 3 (sq l),.row 70 3 32 (X (c++aym d v Q)) Z ((c++aym d v Q).map It.axV)]⟩) ->gF (X U) A F6 K (X d+1) ⟨(uu 7 (.mp (X U)::uu 1 (.own (X U+1) (X c)::uu 24 (.sl 3 (a.map It.axV)::.I (X a)::.I (X f)::uu 23 [])))),U++[.map 3 3 (sq l),.row 70 3 32 (X c) Z (c.map It.axV)]⟩:=by
 intro d;induction d with
 |nil =>
  intro f c r B j;have r:=dH r;subst r;have e:c++aym [] v Q=c:=by simp[aym]
  rw[e]at j;refine aD λR n=>?_;simp only[F6,W,seval];exact⟨λh=>by simp at h,λ_=>j ..⟩
 |cons x d ih =>
 intro f c r B j;subst r;have z:=eE f x (by simp at i;omega);have o:f++x::d=(f++[x])++d:=by simp
 have put:∀(y:It),TX v Q x=some y->∀{R:bU} {w:ar} ,(∀p,gF (X U) A F6 K (X d+1) p->R p)->qP w (uu 7 (.mp (X U)::uu 1 (.own (X U+1) (X (c++[y]))::uu 24 (.sl 3 ((f++x::d).map It.axV)::.I (X (f++x::d))::.I (X (f++[x]))::uu 23 [])))) ->R ⟨w,U++[.map 3 3 (sq l),.row 70 3 32 (X (c++[y])) Z ((c++[y]).map It.axV),.box 70 y.axV]⟩:=λy O R w n P=>by
  have e:c++aym (x::d) v Q=(c++[y])++aym d v Q:=by simp[aym,O]
  rw[e]at j;have D:bW (U++[.map 3 3 (sq l),.row 70 3 32 (X (c++[y])) Z ((c++[y]).map It.axV)]):=cx H (by simp);refine n _ (dn [_,_] [_] D P ?_ (ih (f++[x]) (c++[y]) o (by simp;omega) j));simp only[LW,ah,aj,aP];omega
 have q:∀(m:Nat),m<=X f->((m+1)*32<=2^47/\m+1<=maxLen):=λm T=>by simp at i;simp[maxLen];omega
 have E:∀(y:It),c.map It.axV++[[.I y.axW,.s y.ax1,.I y.id]]=(c++[y]).map It.axV:=λy=>by simp[It.axV]
 have L:∀(y:It),X c+1=X (c++[y]):=λy=>by simp
 refine aD λR n=>?_;simp only[F6,It.axV,W,seval];refine⟨λ_=>⟨by simp;omega,?_⟩,λh=>by simp at h;omega⟩;refine ak (xj x _) rfl ?_;simp only[W,seval];refine⟨λt=>?_,λt=>?_⟩
 .have F:∀s,kg (U++(.map 3 3 (sq l))::s) 0 (.mp (X U)) (.I x.id)=jA 0 (.I x.id) (sq l) 0:=λs=>by simp only[kg,iF,aG]
  rcases Dq l x.id with⟨u,C,M⟩|⟨k,b,u,C,M⟩
  .have g:TX v Q x=none:=by simp only[TX,t,aR,<- J x.id,u,Option.map_none]
   have e:c++aym (x::d) v Q=c++aym d v Q:=by simp[aym,g]
   rw[e]at j;simp only[F,C,W,seval];refine⟨by simp[V.sj],?_⟩;have D:bW (U++[.map 3 3 (sq l),.row 70 3 32 (X c) Z (c.map It.axV)]):=cx H (by simp);refine n _ (dn [_,_] [_] D ?_ ?_ (ih (f++[x]) c o (by simp;omega) j));.rw[z];repeat' constructor
   simp only[LW,ah,aj,aP];omega
  have g:TX v Q x=some ⟨x.axW,x.ax1,b⟩:=by simp only[TX,t,aR,<- J x.id,u,dA]
  simp only[F,C,W,seval];refine⟨by simp[V.sj],⟨q _ (by rw[ab];exact B),?_⟩⟩;rw[L ⟨x.axW,x.ax1,b⟩,E ⟨x.axW,x.ax1,b⟩];refine put _ g n ?_;rw[z];repeat' constructor
 have g:TX v Q x=some x:=by simp only[TX,t];rfl
 refine⟨q _ (by rw[ab];exact B),?_⟩;rw[L x,E x];refine put _ g n ?_;rw[z];repeat' constructor
def Jz(b:X a<2^40)(i:bA a<2^40)(J:ai):bh A 242 [.sl 3 (a.map It.axV),.sl 1 (v.map cG),.sl 1 (Q.map cG)] J (.sl 3 ((rename a v Q).map It.axV)):=by
 refine aT func242 amC.2 λd e=>an ?_;have f:=oI (e 1 _ rfl).1;have c:=oI (e 2 _ rfl).1;rw[ab]at f c;simp only[amC,SS,seval];simp only[ab,W,seval];have g:IntKind.i64.wrap ((if((X Q:Int)<(X v:Int))then(X Q:Int)else(X v:Int)) - 1)=((min (X v) (X Q):Nat):Int) - 1:=by rw[IntWalk.i64_in _ (by split<;>omega)];split<;>omega
 rw[g];refine cD.bL (fr':=(.sl 3 (a.map It.axV)::.sl 1 (v.map cG)::.sl 1 (Q.map cG)::uu 4 (.mp (X J)::.I (((min (X v) (X Q):Nat):Int) - 1)::uu 51 []))) ?_ _ (J4 _ v Q f (min (X v) (X Q)) [] (aB _) (λx=>by rw[TN (aB _)];rfl) ?_);.repeat' constructor
 intro l h;simp only[JE];intros;simp only[ab,W,seval];refine cD.wk ((Wk.ov (J:=J) [_] (k:=9) K4 rfl).trans (Wk.fG ?_)) (cD.mM (X a+1) (Xa a v Q l d b h a [] [] rfl (aB _) ?_));.simp only[W,seval];repeat' constructor
 simp only[JE];intros;simp only[aw,W,seval];refine qq (X J+1) (by simp only[jE];rfl) (MM (aym a v Q) (sL (CW _ _ _) b) (sL (AD _ _ _) i) _) (by simp[fz,jR,ev]) ?_;simp only[W,seval];exact aS d rfl (by simp[LW]) ⟨rfl,rfl⟩
def aeH(a B:V)(m:bH)(k:X m<2^40):∀(b c l:bH) (g:Nat) (f:Bool),m=c++b->X l+X b<2^40 ->(∀g f,((fh (a) (fh (B) (fj 4 (fh (.own (X U) g) (fj 32 fo))))) λt=>K (.exit 0) ⟨t,U++[.row 3 1 8 g f ((gP l b).map cG)]⟩)) ->gF (X U) A LY K (X b+1) ⟨(a::B::uu 4 (.own (X U) g::uu 5 (.sl 1 (m.map cG)::.I (X m)::.I (X c)::uu 24 []))),U++[.row 3 1 8 g f (l.map cG)]⟩:=by
 intro b;induction b with
 |nil =>intro c l g f o s d;have o:=dH o;subst o;refine aD λR q=>?_;simp only[LY,W,seval];exact⟨λh=>by simp at h,λ_=>d _ _ ..⟩
 |cons x b ih =>
 intro c l g f o s d;subst o;have r:=eE c x (by simp at k;omega);have j:c++x::b=(c++[x])++b:=by simp
 refine aD λR q=>?_;simp only[LY,cG,W,seval];refine⟨λ_=>⟨by simp;omega,?_⟩,λh=>by simp at h<;>omega⟩;refine qq (X U) (by simp only[iF];rfl) (HI l x _) (by simp[fz,jR,ev,cG]) ?_;simp only[W,seval];simp only[ah]at s;refine⟨λh=>⟨?_,?_⟩,λh=>?_⟩;.simp[maxLen];omega
 .have e:gP l (x::b)=gP (l++[x]) b:=by simp at h;simp[gP,h]
  rw[e]at d;have u:List.map (λn=>[V.i .i64 n]) l++[[.I x]]=(l++[x]).map cG:=by simp[cG]
  refine q _ ?_;have p:l.map cG++[[.I x]]=(l++[x]).map cG:=by simp[cG]
  rw[p];refine bL ?_ (ih (c++[x]) (l++[x]) (g+1) _ j (by simp;omega) d);rw[r];repeat' constructor
 have e:gP l (x::b)=gP l b:=by simp at h;simp[gP,h]
 rw[e]at d;refine q _ (bL ?_ (ih (c++[x]) l g _ j (by omega) d));rw[r];repeat' constructor
def NN(t:List It)(l:X a<2^39)(j:X t<2^39)(b:bA a<2^40)(c:bA t<2^40)(J:ai):bh A 196 [.sl 3 (a.map It.axV),.sl 3 (t.map It.axV)] J (.iS [.sl 3 ((iX a t).map It.axV),.sl 3 ((jL a t).map It.axV)]):=by
 refine aT func196 am3.2 λe f=>an ?_;have i:=qF a;have h:=qF t;have k:=vT (ax9 t) (ax9 a);simp only[am3,SS,seval];simp only[W,seval];refine ak (Dk a (by omega) _) rfl ?_;simp only[W,seval];refine ak (Sg t (by omega) _) rfl ?_;simp only[ab,W,seval];refine cD.bL ?_ (X (ax9 t)+1) (aeH (.sl 3 (a.map It.axV)) (.sl 3 (t.map It.axV)) (ax9 t) (by omega) (ax9 t) [] (ax9 a) 0 Z rfl (by omega) ?_);.repeat' constructor
 intro g m;simp only[JE];intros;simp only[W,seval];have d:X (gP (ax9 a) (ax9 t))<2^40:=by omega
 refine ak (DL (X (gP (ax9 a) (ax9 t))) d _) (by simp[ev]) ?_;simp only[W,seval];refine qq (X J) (by simp only[iF];rfl) (Jz a (cK a t) (dK (X (cK a t))) (by omega) b _) (by simp[fz,jR,ev,cK]) ?_;simp only[W,seval];refine ak (DL (X (gP (ax9 a) (ax9 t))) d _) (by simp[ev]) ?_;simp only[W,seval];refine qq (X J) (by simp only[iF];rfl) (Jz t (cK a t) (dK (X (cK a t))) (by omega) c _) (by simp[fz,jR,ev,cK]) ?_;simp only[W,seval];exact aS e rfl (by simp[LW]) ⟨rfl,rfl⟩
def abz:bh A 282 [.i .u8 c.toNat] J (.iS [.i .u8 (kU c).1.toNat,.b (kU c).2]):=by
 refine aT func282 amg.2 λd e=>an ?_;simp only[amg,SS,seval];simp only[W,seval];refine⟨λh=>?_,λh=>⟨λa=>?_,λa=>?_⟩⟩<;>refine bt rfl ?_;.simp at h;have:=afK c (by omega);simp[cM,this]
 .simp at a;have:=afJ c (by omega);simp[cM,this]
 simp at h a;have:=ajl c (by omega) (by omega);simp[cM,this]
def Pk:bh A 272 [.i .u8 c.toNat] J (.b (vh c)):=by refine aT func272 amk.2 λa d=>an ?_;simp only[amk,SS,seval];simp only[W,seval];refine cm (by simp only[W,seval];rfl) (λ_=>HP c _) rfl ?_;simp only[W,seval];refine bt rfl ⟨?_,rfl⟩;simp only[cM,vh,aQ,bj,V.b.injEq];simp only[<- ahO];rfl
def XX:bh A 269 [.s l] J (.iS [.i .u8 (fg l).1.toNat,.I (fg l).2.1,.b (fg l).2.2]):=by
 refine aT func269 amn.2 λt u=>an ?_;simp only[amn,SS,seval];by_cases p:X l<2
 .have o:decide ((X l:Int)<2)=G:=by simp;omega
  simp only[o,W,seval];refine bt rfl ⟨?_,rfl⟩;simp[cM,fg,p]
 have o:decide ((X l:Int)<2)=Z:=by simp;omega
 have m:(0:Int)<=1/\(1:Int)<X l:=by omega
 by_cases d:l.getD 1 0=92
 .simp only[o,V3 (k:=92) d rfl,W,seval,-Int.reduceLE];repeat refine ay m ?_
  refine bt rfl ⟨?_,rfl⟩;have e:fg l=(l.getD 1 0,2,G):=by simp[fg,p,<- List.getD_eq_getElem?_getD,d]
  rw[e];rfl
 by_cases g:l.getD 1 0=60
 .simp only[o,ug (k:=92) d rfl,V3 (k:=60) g rfl,W,seval,-Int.reduceLE];repeat refine ay m ?_
  refine bt rfl ⟨?_,rfl⟩;have e:fg l=(l.getD 1 0,2,G):=by simp[fg,p,<- List.getD_eq_getElem?_getD,d,g]
  rw[e];rfl
 by_cases a:l.getD 1 0=123
 .simp only[o,ug (k:=92) d rfl,ug (k:=60) g rfl,V3 (k:=123) a rfl,W,seval,-Int.reduceLE];repeat refine ay m ?_
  refine bt rfl ⟨?_,rfl⟩;have e:fg l=(l.getD 1 0,2,G):=by simp[fg,p,<- List.getD_eq_getElem?_getD,d,g,a]
  rw[e];rfl
 by_cases f:l.getD 1 0=110
 .simp only[o,ug (k:=92) d rfl,ug (k:=60) g rfl,ug (k:=123) a rfl,V3 (k:=110) f rfl,W,seval,-Int.reduceLE];repeat refine ay m ?_
  refine bt rfl ⟨?_,rfl⟩;have e:fg l=(10,2,G):=by simp[fg,p,<- List.getD_eq_getElem?_getD,d,g,a,f]
  rw[e];rfl
 by_cases j:l.getD 1 0=116
 .simp only[o,ug (k:=92) d rfl,ug (k:=60) g rfl,ug (k:=123) a rfl,ug (k:=110) f rfl,V3 (k:=116) j rfl,W,seval,-Int.reduceLE];repeat refine ay m ?_
  refine bt rfl ⟨?_,rfl⟩;have e:fg l=(9,2,G):=by simp[fg,p,<- List.getD_eq_getElem?_getD,d,g,a,f,j]
  rw[e];rfl
 have all:∀{c:UInt8},l.getD 1 0=c->c=120->fg l=if X l<4 then(0,0,Z)else(lQ (l.getD 2 0) (l.getD 3 0),4,(kU (l.getD 2 0)).2&&(kU (l.getD 3 0)).2&&(lQ (l.getD 2 0) (l.getD 3 0)==13||nL (lQ (l.getD 2 0) (l.getD 3 0))==1)):=by rintro c h rfl;simp only[fg,p,h,bo];rfl
 by_cases n:l.getD 1 0=120
 .have e:=all n rfl;by_cases r:X l<4
  .have q:decide ((X l:Int)<4)=G:=by simp;omega
   simp only[o,q,ug (k:=92) d rfl,ug (k:=60) g rfl,ug (k:=123) a rfl,ug (k:=110) f rfl,ug (k:=116) j rfl,V3 (k:=120) n rfl,W,seval,-Int.reduceLE];repeat refine ay m ?_
   refine bt rfl ⟨?_,rfl⟩;rw[e,aO r];rfl
  have q:decide ((X l:Int)<4)=Z:=by simp;omega
  rw[ao r]at e;simp only[o,q,ug (k:=92) d rfl,ug (k:=60) g rfl,ug (k:=123) a rfl,ug (k:=110) f rfl,ug (k:=116) j rfl,V3 (k:=120) n rfl,W,seval,-Int.reduceLE];repeat refine ay m ?_
  refine⟨by omega,?_⟩;refine ak (abz (l.getD 2 0) _) rfl ?_;simp only[Int.reduceToNat,W,seval];refine⟨by omega,?_⟩;refine ak (abz (l.getD 3 0) _) rfl ?_;simp only[SR,W,seval,-Int.reduceLE];refine⟨by omega,?_⟩;refine cm (by simp only[W,seval];rfl) (λ_=>HP (lQ (l.getD 2 0) (l.getD 3 0)) _) rfl ?_;simp only[W,seval];refine bt rfl ⟨?_,rfl⟩;rw[e];simp only[cM,aQ,bj];rw[<- BR];rfl
 simp only[o,ug (k:=92) d rfl,ug (k:=60) g rfl,ug (k:=123) a rfl,ug (k:=110) f rfl,ug (k:=116) j rfl,ug (k:=120) n rfl,W,seval,-Int.reduceLE];repeat refine ay m ?_
 refine bt rfl ⟨?_,rfl⟩;have e:fg l=(0,0,Z):=by simp[fg,p,<- List.getD_eq_getElem?_getD,d,g,a,f,j,n]
 rw[e];rfl
def aet(f:X l<4):∀(a d:aL) (n:Int),l=d++a->0<=n->n<10^X d ->(a.all fL=G->((fj 4 (fh (.I (fP n a)) (fj 41 fo))) λm=>K (.exit 0) ⟨m,U⟩)) ->(a.all fL=Z->((fj 2 (fh (.I 0) (fh (.b Z) (fj 42 fo)))) λm=>K .ret ⟨m,U⟩)) ->gF (X U) A LF K (X a+1) ⟨(.s l::uu 3 (.I n::.I (X d)::uu 40 [])),U⟩:=by
 intro a;induction a with
 |nil =>intro d n i v g k j;have i:=dH i;subst i;refine aD λR p=>?_;simp only[LF,W,seval];exact⟨λh=>by simp at h,λ_=>k rfl ..⟩
 |cons c a ih =>
 intro d n i v g k j;subst i;refine aD λR p=>?_;simp only[LF,W,seval];have e:fL c=!(decide ((c.toNat:Int)<48)||decide (57<(c.toNat:Int))):=by rw[ei];simp[fL];omega
 refine⟨λ_=>⟨by simp;omega,λ_=>by simp;omega,λh=>?_,λh=>⟨by simp;omega,?_⟩⟩,λh=>by simp at h<;>omega⟩;.rw[h]at e;exact j (by simp[e]) ..
 rw[h]at e;have e:fL c=G:=e;have x:X d<3:=by simp at f;omega
 have t:(10:Int)^X d<=10^2:=by
  have:X d=0\/X d=1\/X d=2:=by omega
  rcases this with h|h|h<;>rw[h]<;>decide
 have r:=e;simp only[fL,aV,bz]at r;have u:n<100:=Int.lt_of_lt_of_le g (by simpa using t);have q:IntKind.i64.wrap (IntKind.i64.wrap (10*n)+IntKind.i64.wrap (IntKind.u8.wrap ((c.toNat:Int) - 48)))=10*n+(c.toNat - 48:Int):=by rw[YV c e,IntWalk.i64_in (10*n) (by omega),IntWalk.i64_in ((c.toNat:Int) - 48) (by omega),IntWalk.i64_in _ (by omega)]
 have w:fP n (c::a)=fP (10*n+(c.toNat - 48:Int)) a:=rfl;have o:(c::a).all fL=a.all fL:=by simp[e]
 rw[w,o]at k;rw[o]at j;refine p _ (bL ?_ (ih (d++[c]) (10*n+(c.toNat - 48:Int)) (by simp) (by omega) ?_ k j));.rw[q,cT (by simp at f;omega)];simp only[ae,ah,aj];repeat' constructor
 simp only[ae,ah,aj,Int.pow_succ];omega
def Ca:bh A 287 [.s l] J (.iS [.I (ayh l).1,.b (ayh l).2]):=by
 refine aT func287 amc.2 λj m=>an ?_;simp only[amc,SS,seval];by_cases a:X l<1\/3<X l\/l.getD 0 0=48
 .have e:ayh l=(0,Z):=by simp only[ayh,a,aR]
  have d:((decide ((X l:Int)<1)||decide (3<(X l:Int)))||(((l.getD 0 0).toNat:Int)==48))=G:=by
   rcases a with h|h|h;.simp;omega
   .simp;omega
   rw[V3 (k:=48) h rfl];simp
  simp only[Int.reduceToNat,d,W,seval];refine⟨λh=>?_,bt rfl ⟨by rw[e];rfl,rfl⟩⟩;simp at h;omega
 have f:¬X l<1/\¬3<X l/\¬l.getD 0 0=48:=by refine⟨λh=>a (.inl h),λh=>a (.inr (.inl h)),λh=>a (.inr (.inr h))⟩
 have d:((decide ((X l:Int)<1)||decide (3<(X l:Int)))||(((l.getD 0 0).toNat:Int)==48))=Z:=by rw[ug (k:=48) f.2.2 rfl];simp;omega
 simp only[d,W,seval];refine⟨λ_=>by omega,?_⟩;refine cD.bL ?_ (X l+1) (aet l (by omega) l [] 0 rfl (kX _) (by decide) (λc=>?_) (λc=>?_));.repeat' constructor
 .simp only[JE];intros;simp only[W,seval];refine bt rfl ⟨?_,rfl⟩;have n:=HE l 0 (X l) rfl c (kX _);have i:(10:Int)^X l<=10^3:=by
   have:X l=1\/X l=2\/X l=3:=by omega
   rcases this with h|h|h<;>rw[h]<;>decide
  have g:fP 0 l<=999:=by omega
  have e:ayh l=(fP 0 l,G):=by simp only[ayh,ao a,c,aR]
  rw[e];simp[cM,g]
 simp only[JE];intros;refine bt rfl ⟨?_,rfl⟩;have e:ayh l=(0,Z):=by simp only[ayh,ao a,c];rfl
 rw[e];rfl
def ahT:bh A 271 [.s l] J (.iS [.agg (kp l).1.axV,.b (kp l).2]):=by
 refine aT func271 aml.2 λg x=>an ?_;have o:=Ig (x 0 _ rfl).1;simp only[aml,SS,seval];simp only[VV,seval];refine ak (Nn l [47] _) rfl ?_;simp only[VV,seval];refine⟨λj=>?_,λj=>?_⟩
 .have B:1<=X l:=by simp only[ayl,aV,bz]at j;simpa using j.1
  have p:(l.drop 1).take (X l - 1)=l.drop 1:=by rw[cc];simp
  refine⟨by omega,?_⟩;refine ak (HF (l.drop 1) 58 _) (by simp only[az,aq,VV,seval];rw[p]) ?_;simp only[VV,seval];generalize k:cutAt (l.drop 1) 58=q;obtain⟨a,b,f⟩:=q;refine cm (c:=Z) (v:=.b Z) (by simp only[VV,seval]<;>rfl) (nofun) rfl ?_;simp only[VV,seval];refine ak (Ca a _) rfl ?_;simp only[VV,seval];cases f with
  |false =>
   have e:kp l=(⟨0,[],0⟩,Z):=by unfold kp;simp only[j,aR,k];simp
   simp only[VV,seval];rw[e];exact aS g (by simp only[RS,seval];rfl) (by simp[LW]) ⟨rfl,rfl⟩
  |true =>
  simp only[VV,seval];refine⟨λh=>?_,λh=>?_⟩
  .have h:(ayh a).2=Z:=by simpa using h
   have e:kp l=(⟨0,[],0⟩,Z):=by unfold kp;simp only[j,aR,k];simp[h]
   rw[e];exact aS g (by simp only[RS,seval];rfl) (by simp[LW]) ⟨rfl,rfl⟩
  have h:(ayh a).2=G:=by simpa using h
  have e:kp l=(⟨3,b,(ayh a).1⟩,ayc b):=by unfold kp;simp only[j,aR,k];simp[h]
  rw[e];refine ak (qb b _) rfl ?_;simp only[VV,seval];exact aS g (by simp only[RS,seval];rfl) (by simp[LW]) ⟨rfl,rfl⟩
 refine ak (HF l 58 _) rfl ?_;simp only[VV,seval];generalize k:cutAt l 58=q;obtain⟨a,b,f⟩:=q;refine cm (c:=G) (by simp only[VV,seval]<;>rfl) (λh=>Nk b [47] _) rfl ?_;simp only[VV,seval];have i:∀(d:Int) (content:aL),d≠3->kp l=(if f&&(ayh a).2 then(⟨d,content,(ayh a).1⟩,if d=3 then ayc content else eQ content)else(⟨0,[],0⟩,Z)) ->
   (((f=Z)\/(ayh a).2=Z)->kp l=(⟨0,[],0⟩,Z))/\(f=G->(ayh a).2=G->kp l=(⟨d,content,(ayh a).1⟩,eQ content)):=by
  intro d content u e;rw[e];refine⟨?_,?_⟩;.rintro(h|h)<;>rw[h]<;>simp
  intro w n;simp[w,n,u]
 refine⟨λm=>?_,λm=>?_⟩
 .have z:1<=X b:=by simp only[ayo,aV,bz]at m;simpa using m.1
  have r:X b<2^63:=by
   have:b=(cutAt l 58).2.1:=by rw[k]
   have n:X b<=X l:=by rw[this];simp only[cutAt];split<;>simp
   omega
  have y:IntKind.i64.wrap ((X b:Int) - 1)=((X b - 1:Nat):Int):=by rw[IntWalk.i64_in _ (by omega)];omega
  have t:=i 4 (b.take (X b - 1)) (by decide) (by unfold kp;simp[j,k,m]);simp only[y,al,VV,seval];refine⟨by omega,?_⟩;refine ak (Ca a _) rfl ?_;simp only[VV,seval];cases f with
  |false =>simp only[VV,seval];rw[t.1 (.inl rfl)];exact aS g (by simp only[RS,seval];rfl) (by simp[LW]) ⟨rfl,rfl⟩
  |true =>
  simp only[VV,seval];refine⟨λh=>?_,λh=>?_⟩
  .have h:(ayh a).2=Z:=by simpa using h
   rw[t.1 (.inr h)];exact aS g (by simp only[RS,seval];rfl) (by simp[LW]) ⟨rfl,rfl⟩
  have h:(ayh a).2=G:=by simpa using h
  rw[t.2 rfl h];refine ak (rB _ _) rfl ?_;simp only[VV,seval];refine aS g (by simp only[RS,seval];rfl) (by simp[LW]) ⟨rfl,rfl⟩
 have t:=i 2 b (by decide) (by unfold kp;simp[j,k,m]);refine ak (Ca a _) rfl ?_;simp only[VV,seval];cases f with
 |false =>simp only[VV,seval];rw[t.1 (.inl rfl)];exact aS g (by simp only[RS,seval];rfl) (by simp[LW]) ⟨rfl,rfl⟩
 |true =>
 simp only[VV,seval];refine⟨λh=>?_,λh=>?_⟩
 .have h:(ayh a).2=Z:=by simpa using h
  rw[t.1 (.inr h)];exact aS g (by simp only[RS,seval];rfl) (by simp[LW]) ⟨rfl,rfl⟩
 have h:(ayh a).2=G:=by simpa using h
 rw[t.2 rfl h];refine ak (rB _ _) rfl ?_;simp only[VV,seval];refine aS g (by simp only[RS,seval];rfl) (by simp[LW]) ⟨rfl,rfl⟩
def Ta(q:l≠[])(J:ai):bh A 244 [.s l] J (.iS [.agg (bO l).1.axV,.I (bO l).2.1,.b (bO l).2.2]):=by
 refine aT func244 amA.2 λi o=>an ?_;have n:=Ig (o 0 _ rfl).1;have u:0<X l:=fb.2 q;have d:(0:Int)<=0/\(0:Int)<X l:=by omega
 simp only[amA,SS,seval];by_cases a:l.getD 0 0=92
 .have e:bO l=(⟨1,[(fg l).1],0⟩,(fg l).2.1,(fg l).2.2):=by simp only[bO,a,aR]
  rw[e];simp only[V3 (k:=92) a rfl,VV,seval,-Int.reduceLE];refine⟨d,?_⟩;refine ak (XX l _) rfl ?_;simp only[VV,seval];exact aS i (by simp only[RS,seval];rfl) (by simp[LW]) ⟨rfl,rfl⟩
 have r:=a;by_cases g:l.getD 0 0=60
 .simp only[ug (k:=92) a rfl,V3 (k:=60) g rfl,VV,seval,-Int.reduceLE];refine⟨d,d,?_⟩;refine ak (vo l 62 _) rfl ?_;have p:=nH l 62;simp only[VV,seval];refine⟨λh=>?_,λh=>?_⟩
  .have h:Lib.indexByte l 62<0:=by simpa using h
   have e:bO l=(pH,0,Z):=by simp only[bO];rw[ao a,aO g];simp only[h,aR,bo]
   rw[e];exact aS i (by simp only[RS,seval];rfl) (by simp[LW]) ⟨rfl,rfl⟩
  have h:¬Lib.indexByte l 62<0:=by simpa using h
  have t:=qm l 62 (by rw[g];decide) h;have e:bO l=((kp ((l.take (Lib.indexByte l 62).toNat).drop 1)).1,Lib.indexByte l 62+1,(kp ((l.take (Lib.indexByte l 62).toNat).drop 1)).2):=by simp only[bO];rw[ao a,aO g];simp only[h,aR,bo]
  rw[e];refine⟨by omega,?_⟩;have j:(l.drop 1).take ((Lib.indexByte l 62).toNat - 1)=(l.take (Lib.indexByte l 62).toNat).drop 1:=by rw[ako]
  refine ak (ahT _ _) (by simp only[az,aq,VV,seval];rw[j]) ?_;simp only[It.axV,VV,seval];refine aS i (by simp only[RS,seval];rfl) (by simp[LW]) ⟨?_,rfl⟩;simp only[cM,aQ,bj];rw[IntWalk.i64_in _ (by omega)]
 by_cases f:l.getD 0 0=123
 .simp only[ug (k:=92) a rfl,ug (k:=60) g rfl,V3 (k:=123) f rfl,VV,seval,-Int.reduceLE];refine⟨d,d,d,?_⟩;refine ak (vo l 125 _) rfl ?_;have p:=nH l 125;simp only[VV,seval];by_cases h:Lib.indexByte l 125<0
  .have e:bO l=(pH,0,Z):=by simp only[bO];rw[ao a,ao g,aO f];simp only[h,true_or,aR]
   have m:decide (Lib.indexByte l 125<0)=G:=by simpa using h
   rw[e];simp only[m,VV,seval];refine⟨nofun,?_⟩;refine cm (c:=Z) (v:=.b Z) (by simp only[VV,seval]<;>rfl) (nofun) rfl ?_;simp only[VV,seval];exact aS i (by simp only[RS,seval];rfl) (by simp[LW]) ⟨rfl,rfl⟩
  have m:decide (Lib.indexByte l 125<0)=Z:=by simpa using h
  have t:=qm l 125 (by rw[f];decide) h;have e:bO l=if ayc ((l.take (Lib.indexByte l 125).toNat).drop 1)=Z then(pH,0,Z)else(⟨5,(l.take (Lib.indexByte l 125).toNat).drop 1,0⟩,Lib.indexByte l 125+1,G):=by simp only[bO];rw[ao a,ao g,aO f];simp only[h,nQ]
  have j:(l.drop 1).take ((Lib.indexByte l 125).toNat - 1)=(l.take (Lib.indexByte l 125).toNat).drop 1:=by rw[ako]
  rw[e];simp only[m,j,VV,seval];refine⟨by omega,?_⟩;refine cm (c:=G) (by simp only[VV,seval]<;>rfl) (λ_=>qb ((l.take (Lib.indexByte l 125).toNat).drop 1) _) rfl ?_;simp only[VV,seval];refine⟨λh=>?_,λh=>?_⟩
  .have h:ayc ((l.take (Lib.indexByte l 125).toNat).drop 1)=Z:=by simpa using h
   rw[aO h];exact aS i (by simp only[RS,seval];rfl) (by simp[LW]) ⟨rfl,rfl⟩
  have h:¬ayc ((l.take (Lib.indexByte l 125).toNat).drop 1)=Z:=by simpa using h
  rw[ao h];simp only[j,VV,seval];refine⟨by omega,?_⟩;refine aS i (by simp only[RS,seval];rfl) (by simp[LW]) ⟨?_,rfl⟩;simp only[cM,aQ,bj];rw[IntWalk.i64_in _ (by omega)];rfl
 have e:bO l=(⟨1,l.take 1,0⟩,1,vh (l.getD 0 0)):=by simp only[bO,a,g,f,bo]
 rw[e];simp only[ug (k:=92) a rfl,ug (k:=60) g rfl,ug (k:=123) f rfl,VV,seval,-Int.reduceLE];refine⟨d,d,d,by omega,d,?_⟩;refine ak (Pk (l.getD 0 0) _) rfl ?_;simp only[VV,seval];exact aS i (by simp only[RS,seval];rfl) (by simp[LW]) ⟨rfl,rfl⟩
def p6(b a:Nat)(s:Rd):ai :=[.map 3 70 (vU s.tags),.box 243 [.own (n+2) b,.own (n+3) a,.I s.len,.mp n],.row 70 3 32 b Z (s.f.map It.axV),.row 5 1 1 a Z (aC s.ax1)]
def Wu(b a:Nat)(s:Rd)(o:Ob)(x:It):ai :=[.map 3 70 (vU s.tags),.box 243 [.own (n+2) b,.own (n+3) a,.I s.len,.mp n],.row 70 3 32 b Z (s.f.map It.axV),.row 5 1 1 a Z (aC s.ax1),o,.box 70 [.I x.axW,.s x.ax1,.I x.id]]
def Qo(s:Rd)(b d:Nat)(l:X s.f<2^40)(J ext:ai):PC A 246 [.ptr (X J+1) 0] (J++(p6 (X J) b d s++ext)) (λr i=>r=.iS []/\∃c a,i=J++(p6 (X J) c a (jl s)++ext)):=by
 refine aT func246 amy.2 λk m=>an ?_;simp only[amy,SS,seval];simp only[p6,W,seval];simp only[bC,jC,W,seval];refine⟨λh=>⟨?_,?_⟩,λh=>?_⟩;.simp[maxLen];omega
 .have h:0<X s.ax1:=by simpa using h
  have e:jl s=⟨s.f++[⟨1,s.ax1,0⟩],[],s.len,s.tags⟩:=by simp[jl,h]
  have g:s.f.map It.axV++[[.I 1,.s s.ax1,.I 0]]=(s.f++[(⟨1,s.ax1,0⟩:It)]).map It.axV:=by simp[It.axV]
  rw[g];refine gT (xs:=[]) (xs':=[]) (.inl rfl) rfl (Wk.alg (id:=X J+1) (j:=1) (idr:=X J+3) (by simp only[W,seval];rfl) rfl (by simp only[W,seval];rfl)) rfl ⟨rfl,b+1,d+1,?_⟩;simp only[p6,e,W,seval];rfl
 have h:¬0<X s.ax1:=by simpa using h
 have e:jl s=s:=by simp[jl,h]
 rw[e];exact gT (xs:=[]) (.inl rfl) rfl (Wk.refl _ _) rfl ⟨rfl,b,d,rfl⟩
def akl(s:Rd)(x:It)(g d:Nat)(hf:X s.f<2^40)(ht:X s.ax1+X x.ax1<2^40)(hl:s.len<2^40)(J:ai)(o:Ob):PC prog 245 [.ptr (X J+1) 0,.agg x.axV] (J++(p6 (X J) g d s++[o])) (λr L=>r=.I (mb s x).1/\∃i l,L=J++(p6 (X J) i l (mb s x).2++[o])):=by
 refine aT func245 amz.2 λH dG=>?_;simp only[amz,SS,seval];have hm:∀t,kg (J++(.map 3 70 (vU s.tags))::t) 0 (.mp (X J)) (.I x.id)=jA 0 (.I x.id) (vU s.tags) 0:=λt=>by simp only[kg,iF,aG]
 refine cD.cut λR a=>?_;simp only[p6,It.axV,aF,aw,W,seval];refine a _ ?_;clear a R;refine cD.cut λR a=>?_;simp only[W,seval];refine a _ (cD.fG (fr':=(.ptr (X J+1) 0::uu 2 (.ptr (X J+5) 0::.I 0::.b (tagged x)::uu 117 []))) ?_ ?_);rotate_left;.simp only[tagged];repeat' constructor
 clear a R;have F:match o with|.box _ O=>iY (X J+5) O|_=>True:=by
  cases o<;>first|trivial|skip
  rename_i T O;refine dO.2 λj y U=>?_;have:=H (X J+4) T O (by rw[bB (by omega),dD];rfl) j y U;simpa[p6]using this
 have P:∀(g d:Nat) (s:Rd),bW (J++(p6 (X J) g d s++[o])):=λg d s =>
  DN H (aB _) (by simp only[p6,bV,ah,aj,bM,dp,dF,dm,jd,aF,aw];refine⟨by simp only[LW];omega,?_⟩;cases o<;>first|trivial|exact F);have N:∀(g d:Nat) (s:Rd),bW (J++Wu (X J) g d s o x):=λg d s =>
  DN H (by simp[p6,Wu]) (by simp only[Wu,bV,ah,aj,bM,dp,dF,dm,jd];refine⟨by simp only[LW];omega,?_,by simp only[LW]⟩;cases o<;>first|trivial|exact dO.2 λj y U=>(dO.1 F j y U).mono (by omega));have q:∀{fr:ar} {n:Nat} (e:Int) (s':Rd) (i l:Nat) {loc:ai},n<=X J+5->mb s x=(e,s')->fr.getD 4 u=.I e->wF prog n [.t 4] (λr L=>r=.I (mb s x).1/\∃i l,L=J++(p6 (X J) i l (mb s x).2++[o])) .ret ⟨fr,J++((p6 (X J) i l s'++[o])++loc)⟩:=by intro fr n e s' i l loc hn he hf;rw[<- List.append_assoc];refine gT (xs:=[.I e]) (.inr rfl) (by simp only[lG,vf,hf]) (Wk.lA (by simpa[p6]using hn) (P _ _ _) (dO.1 (by simp[LW]))) rfl ⟨by rw[he];rfl,i,l,by rw[he]⟩
 refine cD.cut λR a=>?_;have Q:∀{fr:ar} {loc:ai},qP fr (.ptr (X J+1) 0::uu 2 (.ptr (X J+5) 0::.I 0::.b (tagged x)::uu 117 []))->¬(tagged x&&zC s x)=true->R ⟨fr,J++(Wu (X J) g d s o x++loc)⟩:=by
  intro fr loc w M;refine a _ (cD.drop _ _ (by simp[p6,Wu]) (N g d s) w (by simp[LW,Wu]) ?_);clear a R;refine cD.cut λR a=>?_;simp only[Wu,W,seval];refine a _ ?_;clear a R;refine cD.cut λR a=>?_;simp only[Wu,ab,bC,VV,seval];have E:∀{fr:ar},qP fr (.ptr (X J+1) 0::uu 2 (.ptr (X J+5) 0::.I 0::.b (tagged x)::uu 2 (.I ((X s.f+(if 0<X s.ax1 then 1 else 0):Nat):Int)::uu 114 [])))->R ⟨fr,J++Wu (X J) g d s o x⟩:=by
   intro fr w;refine a _ (cD.fG ?_ w);clear a R;refine cD.cut λR a=>?_;simp only[Wu,ab,bC,VV,seval];have IX:∀{fr:ar},qP fr (.ptr (X J+1) 0::uu 2 (.ptr (X J+5) 0::.I 0::.b (tagged x)::uu 2 (.I ((oc s x:Nat):Int)::uu 114 [])))->R ⟨fr,J++Wu (X J) g d s o x⟩:=by
    intro fr w;refine a _ (cD.fG ?_ w);clear a R;have D:IntKind.i64.wrap ((s.len:Int)+1)=((s.len+1:Nat):Int):=cT (by omega);refine cD.cut λR a=>?_;simp only[Wu,D,VV,seval];refine⟨λh=>?_,λh=>?_⟩
    .have p:512<oc s x\/1024<s.len+1:=by simp at h;omega
     have e:mb s x=(3,s):=by simp only[mb,M,p,aR];rfl
     exact q 3 s g d (loc:=[_]) (by simp[p6]) e (by rfl)
    have p:¬(512<oc s x\/1024<s.len+1):=by simp at h;omega
    refine a _ ?_;clear a R;refine cD.cut λR a=>?_;simp only[D,VV,seval];refine a _ ?_;clear a R;refine cD.cut λR a=>?_;simp only[VV,seval];refine⟨λz=>⟨⟨by simp only[bC];omega,by simp only[bC,maxLen];omega⟩,?_⟩,λz=>?_⟩
    .have z:x.axW=1:=by simpa using z
     have e:mb s x=(0,⟨s.f,s.ax1++x.ax1,s.len+1,s.tags⟩):=by simp only[mb,M,p,z,aR,bo];rfl
     rw[fD];exact q 0 ⟨s.f,s.ax1++x.ax1,s.len+1,s.tags⟩ g (d+1) (loc:=[_]) (by simp[p6]) e (by rfl)
    have z:¬x.axW=1:=by simpa using z
    have e:mb s x=(0,AK (jl (re s x)) x):=by simp only[mb,M,p,z,aR,bo];rfl
    refine a _ (cD.fG (fr':=(.ptr (X J+1) 0::uu 2 (.ptr (X J+5) 0::.I 0::.b (tagged x)::uu 117 []))) ?_ (by repeat' constructor));clear a R;refine cD.cut λR a=>?_;have vv:∀{fr:ar},qP fr (.ptr (X J+1) 0::uu 2 (.ptr (X J+5) 0::.I 0::uu 118 []))->R ⟨fr,J++Wu (X J) g d (re s x) o x⟩:=by
     intro fr w;refine a _ (cD.fG ?_ w);clear a R;refine cD.cut λR a=>?_;simp only[W,seval];refine dV (Qo (re s x) g d hf J [o,.box 70 [.I x.axW,.s x.ax1,.I x.id]]) rfl ?_;rintro r L ⟨rfl,g3,g4,rfl⟩;simp only[W,seval];refine a _ (cD.fG (fr':=(.ptr (X J+1) 0::uu 2 (.ptr (X J+5) 0::.I 0::uu 118 []))) ?_ (by repeat' constructor));clear a R;refine an ?_;have ad:X (jl (re s x)).f<=X s.f+1:=by simp only[jl];split<;>simp[re]
     simp only[p6,VV,seval];refine⟨?_,?_⟩;.simp[maxLen];omega
     have hr:(jl (re s x)).f.map It.axV++[[.I x.axW,.s x.ax1,.I x.id]]=(AK (jl (re s x)) x).f.map It.axV:=by simp[It.axV,AK]
     rw[hr];exact q 0 (AK (jl (re s x)) x) (g3+1) g4 (loc:=[_]) (by simp[p6]) e (by rfl)
    cases m:tagged x with
    |true =>
     rcases Dp s.tags x.id with⟨C,B,K⟩|⟨k,b,C,B,K⟩;all_goals
      have h5:vU (re s x).tags=vU (mN s.tags x.id x):=by simp only[re,m,aR]
      simp only[m,B,ph,VV,seval];have h6:=K x;simp only[itV,It.axV]at h6;rw[h6,<- h5];refine⟨by simp[V.sj,V.Ea,V.pure],?_⟩;refine vv (by repeat' constructor)
    |false =>simp only[m,VV,seval];have:=vv (fr:=(.ptr (X J+1) 0::uu 2 (.ptr (X J+5) 0::.I 0::.b Z::uu 97 (.b Z::uu 19 [])))) (by repeat' constructor);simp only[re,m]at this;exact this
   have Nd:IntKind.i64.wrap (((X s.f+(if 0<X s.ax1 then 1 else 0):Nat):Int)+1)=((X s.f+(if 0<X s.ax1 then 1 else 0)+1:Nat):Int):=cT (by split<;>omega);refine⟨λh=>?_,λh=>?_⟩
   .have p:x.axW≠1\/X s.ax1=0:=by simpa using h
    have e:oc s x=X s.f+(if 0<X s.ax1 then 1 else 0)+1:=by simp only[oc,p,aR]
    refine IX ?_;rw[Nd,e];repeat' constructor
   have p:¬(x.axW≠1\/X s.ax1=0):=by simpa using h
   have e:oc s x=X s.f+(if 0<X s.ax1 then 1 else 0):=by simp only[oc,p,bo];rfl
   refine IX ?_;rw[e];repeat' constructor
  refine⟨λh=>?_,λh=>?_⟩
  .have p:0<X s.ax1:=by simpa using h
   refine E ?_;rw[cT (by omega),aO p];repeat' constructor
  have p:¬0<X s.ax1:=by simpa using h
  refine E ?_;rw[ao p];repeat' constructor
 have ac:(tagged x&&zC s x)=true->mb s x=(7,s):=λh=>by simp[mb,h]
 cases m:tagged x with
 |false =>simp only[m,VV,seval];exact Q (loc:=[]) (by rw[m];repeat' constructor) (by simp[m])
 |true =>
 rcases Dp s.tags x.id with⟨C,B,K⟩|⟨k,b,C,B,K⟩;.simp only[m,hm,B,itV,VV,seval];refine⟨by simp[V.sj],by simp[V.sj],cm (c:=Z) (v:=.s []) (by simp only[VV,seval]<;>rfl) (nofun) rfl ?_⟩;simp only[VV,seval];refine Q (loc:=[_]) (by rw[m];repeat' constructor) (by simp[zC,C])
 simp only[m,hm,B,itV,It.axV,VV,seval];refine⟨by simp[V.sj],by simp[V.sj],cm (by simp only[VV,seval]<;>rfl) (λ_=>D7 b.ax1 _) rfl ?_⟩;simp only[VV,seval];have H:zC s x=(x.axW != 3||b.axW != 2||ff b.ax1 != x.ax1):=by simp only[zC,C]
 have hb:(!ff b.ax1==x.ax1)=(ff b.ax1 != x.ax1):=rfl;rw[hb,<- H];refine⟨λh=>?_,λh=>?_⟩;.exact q 7 s g d (loc:=[_,_]) (by simp[p6]) (ac (by simp[m,h])) (by rfl)
 exact Q (loc:=[_]) (by rw[m];repeat' constructor) (by simp[m,h])
def Yc(a:bW U)(c b:Nat)(r:Rd):bW (U++p6 (X U) c b r):=cx a (by simp only[p6,bV,ah,aj,bM,dp,dF,dm,jd];simp only[LW];omega)
def Vh{J:ai}{K:bG}(s:aL)(x:bW J)(g:X s<2^39): ∀(n:Nat) (a b:aL) (r:Rd) (i d:Nat),s=b++a->X a<n->r.ok ->(∀p,kZ n r a (X b)=((jl p).f,0,0)->p.ok->∀i d,((fj 5 (fh (.ptr (X J+1) 0) (fj 33 fo))) λt=>K (.exit 0) ⟨t,J++p6 (X J) i d p⟩)) ->(∀o e,kZ n r a (X b)=([],o,e)->∀u,((fj 2 (fh (.nil) (fh (.I o) (fh (.I e) (fj 34 fo))))) λt=>K .ret ⟨t,J++u⟩)) ->gF (X J) A LX K n ⟨(.s s::uu 2 (.I (X b)::uu 1 (.ptr (X J+1) 0::uu 33 []))),J++p6 (X J) i d r⟩
 |0,a,b,r,i,d,m,hn,hr,h1,h2=>by omega
 |n+1,[],b,r,i,d,m,hn,hr,h1,h2=>by have m:=dH m;subst m;refine aD λR y=>?_;simp only[LX,W,seval];exact⟨λh=>by simp at h,λ_=>h1 r rfl hr i d ..⟩
 |n+1,c::a,b,r,i,d,m,hn,hr,h1,h2=>by
  subst m;have z:(b++c::a).drop (X b)=c::a:=by simp
  have q:((b++c::a).drop (X b)).take (X (b++c::a) - X b)=c::a:=by rw[z,cc];simp
  have l:=vB (s:=c::a) (by simp);have N:X b+X (c::a)<2^39:=by rw[<- List.length_append];exact g
  refine aD λR y=>?_;simp only[LX,W,seval];refine⟨λ_=>⟨by simp;omega,?_⟩,λh=>by simp at h<;>omega⟩;refine ak (Ta (c::a) (by simp) _) (by simp only[az,aq,al,VV,seval];rw[q]) ?_;simp only[It.axV,VV,seval];refine⟨λh=>?_,λh=>?_⟩
  .have h:(bO (c::a)).2.2=Z:=by simpa using h
   exact h2 (X b) 2 (by simp only[kZ,h,aR]) ..
  have h:(bO (c::a)).2.2=G:=by simpa using h
  have B:=l.2.2 h;have P:=l.1;have ok:=hr;obtain⟨E,M,Q⟩:=hr;have F:X r.f<=r.len:=by split at E<;>omega
  refine dV (akl r (bO (c::a)).1 i d (by omega) (by omega) (by omega) J _) rfl ?_;rintro v O ⟨rfl,L,D,rfl⟩;simp only[VV,seval];refine⟨λj=>?_,λj=>?_⟩
  .have j:(mb r (bO (c::a)).1).1≠0:=by simpa using j
   exact h2 (X b) _ (by simp only[kZ,h];rw[ao (by simp),aO j]) ..
  have j:(mb r (bO (c::a)).1).1=0:=by simpa using j
  have C:=Zy ok l.2.1 j;obtain⟨k,w⟩:∃k:Nat,(bO (c::a)).2.1=k:=⟨(bO (c::a)).2.1.toNat,by omega⟩;have e:kZ (n+1) r (c::a) (X b)=kZ n (mb r (bO (c::a)).1).2 ((c::a).drop k) (X (b++(c::a).take k):Nat):=by simp only[kZ,h];rw[ao (by simp),ao (by simp[j]),w];simp only[al,ae,aX];congr 1;omega
  rw[e]at h1 h2;refine y _ (dn _ _ (Yc x _ _ _) ?_ ?_ (Vh _ x g n ((c::a).drop k) (b++(c::a).take k) (mb r (bO (c::a)).1).2 L D (by rw[aJ,eU]) (by simp only[bN];simp at hn |-;omega) C h1 h2))
  .have H:((X (b++(c::a).take k):Nat):Int)=(X b:Int)+k:=by rw[ae,aX,show min k (X (c::a))=k by omega];omega
   rw[w,IntWalk.i64_in _ (by omega),H];repeat' constructor
  simp only[LW];simp[p6]
def Zx{n:Nat}{xs:ar}{J:ai}:Wk A n xs (J++[.map 3 70 [],.box 243 [.nil,.nil,.I 0,.mp (X J)]]) xs (J++p6 (X J) 0 0 Fx):=by have a:=Wk.qN (P:=A) (n:=n) (xs:=xs) (id:=X J+1) (j:=0) (J:=J++[.map 3 70 [],.box 243 [.nil,.nil,.I 0,.mp (X J)]]) K4 (by simp only[W,seval];rfl) rfl;simp only[W,seval]at a;have b:=Wk.qN (P:=A) (n:=n) (xs:=xs) (id:=X J+1) (j:=1) (J:=J++[.map 3 70 [],.box 243 [.own (X J+2) 0,.nil,.I 0,.mp (X J)],.row 70 3 32 0 Z []]) YX (by simp only[W,seval];rfl) rfl;simp only[W,seval]at b;exact a.trans b
def qa(a:X l<2^39)(J:ai):bh A 197 [.s l] J (.iS [.sl 3 ((parse l).1.map It.axV),.I (parse l).2.1,.I (parse l).2.2]):=by
 refine aT func197 am2.2 λd o=>an ?_;simp only[am2,SS,seval];simp only[VV,seval];have g:parse l=kZ (X l+1) Fx l (X ([]:aL):Nat):=rfl;refine cD.wk (Zx.trans (Wk.fG (ys:=(.s l::uu 2 (.I (X ([]:aL):Nat)::uu 1 (.ptr (X J+1) 0::uu 33 [])))) (by repeat' constructor))) (cD.mM (X l+1) (Vh l d a (X l+1) l [] Fx 0 0 rfl (by omega) ⟨by simp[Fx],by simp[Fx],by simp[Fx]⟩ ?_ ?_))
 .intro k b h j i;simp only[JE];intros;simp only[W,seval];refine dV (Qo k j i (by have:=h.f;have:=h.len;split at*<;> omega) J []) (by simp[ev]) ?_;rintro r n ⟨rfl,q,p,rfl⟩;simp only[p6,bE,W,seval];refine fB 2 d rfl rfl ?_ ?_;.simp[fz,jR,iY,xa,air]
  rw[g,b];simp[fz,jR,cM]
 intro c e b m;simp only[JE];intros;simp only[W,seval];refine iH d rfl (ys:=[.sl 3 [],.I c,.I e]) (.cons (.nil _) (.cons (.refl _) (.cons (.refl _) .nil))) (by simp[LW]) ⟨?_,rfl⟩;rw[g,b];rfl

/- A part of a proof; the claim's last text says of what. -/
import Derived.Test.YtfeddmfijllgmaaGreatDoorB9
import Derived.Test.YtfeddmfijllgmaaGreatDoorB12
import Derived.Test.YtfeddmfijllgmaaGreatDoorB26
set_option linter.all false
set_option maxHeartbeats 2000000
open Bool renaming true->θ,false->G
open Go.Proofs.Tryz renaming prog->κ
open List renaming length->Y

namespace Go.Proofs.Tryz
open Go Go.Pm Go.Bt
open Go.Pm.V(u)
variable(l:aR)(a:List It)(v:bU)(c:UInt8)(n:Nat)(x:Int)(p:aR)(Q:cL)(U:It)(R:bU)(J:aj)(N:fx){X:aj}{K:bL}
def aa2:bh κ 264 [.agg U.azR] J (.I (width U)):=by
 refine aW func264 aor.2 λa b=>aq ?_;simp only[aor,It.azR,SS,seval];simp only[W,seval];refine⟨λh=>?_,λh=>?_⟩;.exact bA a (.inr rfl) rfl (by simp[LW]) (by simp at h;simp[Pm.one,width,h])
 exact bA a (.inr rfl) rfl (by simp[LW]) (by simp at h;simp[Pm.one,width,h])
def agu(k:bT X)(f:Y a<2^63):∀(c d:List It) (e:Int),a=d++c ->(K (.exit 0) ⟨[.sl 3 (a.map It.azR),u,.I 0,.I (iJ e c),u,u,.sl 3 (a.map It.azR),.I (Y a),.I (Y a),.b G,u,u,u,u,u,u,u,u],X⟩) ->gw (Y X) κ OI K (Y c+1) ⟨[.sl 3 (a.map It.azR),u,.I 0,.I e,u,u,.sl 3 (a.map It.azR),.I (Y a),.I (Y d),u,u,u,u,u,u,u,u,u],X⟩:=by
 intro c;induction c with
 |nil =>intro d e g i;subst g;refine az λR j=>?_;simp only[OI,W,seval];refine⟨λh=>by simp at h,λ_=>?_⟩;simpa[iJ]using i
 |cons x c ih =>
 intro d e g i;subst g;refine az λR j=>?_;simp only[OI,dR,It.azR,W,seval];refine⟨λ_=>⟨?_,?_⟩,λh=>?_⟩;.simp;omega
 .refine al (aa2 x _) rfl ?_;simp only[W,seval];refine j _ ?_;have l:=dD d x (by simp at f;omega);rw[l];refine vj (aM _) k ?_ ?_ (ih (d++[x]) (IntKind.i64.wrap (e+width x)) (by simp) ?_);.repeat first|exact .nil|refine .cons (.refl _) ?_|refine .cons (.forget _) ?_
  .simp only[LW]
  simpa[iJ]using i
 simp at h;omega
def ZB:bh κ 236 [.sl 3 (a.map It.azR)] J (.I (iJ 0 a)):=by
 refine aW func236 aoH.2 λd c=>aq ?_;have b:Y a<2^63:=by have:=qP (c 0 _ rfl).1;simpa using this
 simp only[aoH,SS,seval];simp only[aa,W,seval];refine cB.kT (Y a+1) (agu a d b a [] 0 (by simp) ?_);simp only[W,seval];exact bK (.inr rfl) rfl ⟨rfl,rfl⟩
def EY:bh κ 219 [.agg Q.azR] J (.I (if k8 Q then 0 else 1)):=by
 refine aW func219 aoS.2 λa b=>aq ?_;simp only[aoS,cL.azR,SS,seval];simp only[W,seval];refine⟨λh=>?_,λh=>?_⟩;.exact bA a (.inr rfl) rfl (by simp[LW]) (by simp at h;simp[Pm.one,k8];omega)
 exact bA a (.inr rfl) rfl (by simp[LW]) (by simp at h;simp[Pm.one,k8,h])
def agB(au:Y l<2^63):∀(a d:aR),l=d++a ->(a.all me=θ->∀j0 j1 j2 j3 j4 j5 j6 j7 j8 j9 r B ac y V P am T F J N n z H k A w e g t i p j Q C U M E v L x D m af ad an o O q f ap,K (.exit 0) ⟨[j0,j1,j2,j3,j4,j5,j6,j7,j8,j9,r,B,ac,y,V,P,am,T,F,J,N,n,z,H,k,A,w,e,g,t,i,p,j,Q,C,U,M,E,v,L,x,D,m,af,ad,an,o,O,q,f,ap],X⟩) ->(a.all me=G->∀j0 j1 j3 j4 j5 j6 j7 j8 j9 r B ac y V P am T F J N n z H k A w e g t i p j Q C U M E v L x D m af ad an o O q f ap,K .ret ⟨[j0,j1,.b G,j3,j4,j5,j6,j7,j8,j9,r,B,ac,y,V,P,am,T,F,J,N,n,z,H,k,A,w,e,g,t,i,p,j,Q,C,U,M,E,v,L,x,D,m,af,ad,an,o,O,q,f,ap],X⟩) ->gw (Y X) κ OO K (Y a+1) ⟨[.s l,u,u,.I (Y d),u,u,u,u,u,u,u,u,u,u,u,u,u,u,u,u,u,u,u,u,u,u,u,u,u,u,u,u,u,u,u,u,u,u,u,u,u,u,u,u,u,u,u,u,u,u,u],X⟩:=by
 intro a;induction a with
 |nil =>intro d he h1 h2;subst he;refine az λR hR=>?_;simp only[OO,W,seval];exact⟨λh=>by simp at h,λ_=>h1 rfl ..⟩
 |cons c a ih =>
 intro d he h1 h2;subst he;refine az λR hR=>?_;simp only[OO,W,seval];refine⟨λ_=>⟨by simp;omega,λh=>?_,λh=>?_⟩,λh=>by simp at h;omega⟩;.refine h2 ?_ ..;simp only[gF,Bool.and_eq_false_iff];left;simp at h;simp[me];omega
 refine hR _ (bX (fr':=[.s (d++c::a),u,u,.I (Y (d++[c])),u,u,u,u,u,u,u,u,u,u,u,u,u,u,u,u,u,u,u,u,u,u,u,u,u,u,u,u,u,u,u,u,u,u,u,u,u,u,u,u,u,u,u,u,u,u,u]) ?_ (ih (d++[c]) (by simp) (λh2=>h1 ?_) (λh3=>h2 ?_)));.rw[da (by simp at au;omega)];simp only[ah,ae,ai];repeat first|exact .nil|refine .cons (.refl _) ?_|refine .cons (.forget _) ?_
 .simp[h2];simp at h;simp[me];omega
 simp[h3]
def sL:bh κ 192 [.sl 1 (v.map cN),.I x] J (.I (ox v x)):=by
 refine aW func192 ao5.2 λc b=>aq ?_;simp only[ao5,SS,seval];simp only[W,seval];refine⟨λh=>?_,λh=>?_⟩;.refine bK (.inr rfl) rfl ?_;simp at h;simp only[Pm.one,aX,bB,V.i.injEq,km,cK,ox];rw[aQ (by omega)]
 simp at h;have a:x.toNat<Y v:=by omega
 rw[v8 a];simp only[W,seval];refine⟨by simp;omega,bK (.inr rfl) rfl ?_⟩;simp only[Pm.one,ox,aX,bB,V.i.injEq,km,cK];rw[aw (show ¬(x<0\/(Y v:Int)<=x\/8<=x)by omega)]
def SL:bh κ 146 [.I x] J (.b G):=by refine aW func146 apH.2 λc a=>aq ?_;simp only[apH,SS,seval];simp only[W,seval];exact bK (.inr rfl) rfl (by simp[Pm.one])
def sd(b:Int)(J:aj):bh κ 92 [.I x,.I b] J (.I (gJ x b)):=by refine aW func92 p92.2 λc d=>aq ?_;simp only[p92,SS,seval];simp only[W,seval];refine al (SL x _) rfl ?_;simp only[W,seval];refine al (SL b _) rfl ?_;simp only[W,seval];refine⟨λh=>?_,λh=>⟨λa=>?_,λa=>?_⟩⟩<;>refine bK (.inr rfl) rfl ?_<;>simp at h<;>(try simp at a)<;>simp only[Pm.one,gJ,aX,bB,V.i.injEq,km,cK]<;>(repeat' split)<;>omega
def akl(f:Y v<2^63):∀(a b:bU),v=b++a ->(wj a=0->((fj 3 (fh (.I 0) (fj 14 fo))) λj=>K (.exit 0) ⟨j,X⟩))->(wj a≠0->((fj 2 (fh (.I (wj a)) (fj 15 fo))) λj=>K .ret ⟨j,X⟩)) ->gw (Y X) κ WZ K (Y a+1) ⟨(uu 3 (.I 0::uu 2 (.sl 1 (v.map cN)::.I (Y v)::.I (Y b)::uu 9 []))),X⟩:=by
 intro a;induction a with
 |nil =>intro b i g d;subst i;refine az λR k=>?_;simp only[WZ,W,seval];exact⟨λh=>by simp at h,λ_=>g rfl ..⟩
 |cons c a ih =>
 intro b i g d;subst i;refine az λR k=>?_;simp only[WZ,W,seval];simp only[cN,W,seval];refine⟨λ_=>⟨by simp;omega,λh=>?_,λh=>?_⟩,λh=>by simp at h;omega⟩
 .simp at h;have e:wj (c::a)=c:=by simp[wj,h]
  rw[e]at d;exact d h ..
 simp at h;have e:wj (c::a)=wj a:=by simp[wj,h]
 rw[e]at g d;refine k _ (bX ?_ (ih (b++[c]) (by simp) g d));rw[da (by simp at f;omega)];simp only[ah,ae,ai];repeat' constructor
def Py:bh κ 91 [.sl 1 (v.map cN)] J (.I (wj v)):=by
 refine aW func91 p91.2 λc b=>aq ?_;have a:Y v<2^63:=by simpa using qP (b 0 _ rfl).1
 simp only[p91,SS,seval];simp only[aa,W,seval];refine cB.bX ?_ (Y v+1) (akl v a v [] (by simp) ?_ ?_);.repeat' constructor
 .intro h;simp only[W,seval];simp only[JE];intros;exact bK (.inr rfl) rfl (by simp[Pm.one,h])
 intro h;simp only[W,seval];simp only[JE];intros;exact bK (.inr rfl) rfl ⟨rfl,rfl⟩
def G9(b:cL)(J:aj):bh κ 278 [.agg Q.azR,.agg b.azR] J (.I (jH Q b)):=by refine aW func278 aoh.2 λa c=>aq ?_;simp only[aoh,cL.azR,SS,seval];simp only[W,seval];refine al (sd _ _ _) rfl ?_;simp only[W,seval];refine al (sd _ _ _) rfl ?_;simp only[W,seval];refine al (sd _ _ _) rfl ?_;simp only[W,seval];refine iN (zs:=[.sl 1 ([gJ Q.time b.time,gJ Q.bS b.bS,gJ Q.azW b.azW].map cN)]) (.cons (.lit _ _) .nil) (Py _ _) ?_;simp only[W,seval];exact bA a (.inr rfl) rfl (by simp[LW]) ⟨rfl,rfl⟩
def aaj:bh κ 144 [.sl 1 (v.map cN),.agg Q.azR] J (.b (VN v Q)):=by refine aW func144 apJ.2 λa c=>aq ?_;simp only[apJ,cL.azR,SS,seval];simp only[W,seval];refine bV rfl (λ_=>sL v Q.bS _) rfl ?_;simp only[W,seval];exact bA a (.inr rfl) rfl (by simp[LW]) ⟨rfl,rfl⟩
def PN{J:aj}{K:bL}(d:bT J)(a b:bU):∀(k n:Nat),n+k=8 ->((fj 4 (fh (.own J.length 8) (fh (.I (jf a b 8)) (fj 24 fo)))) λf=>K (.exit 0) ⟨f,J++[.row 3 1 8 8 G ((mf a b 8).map cN)]⟩) ->gw (Y J) κ OS K (k+1) ⟨(.sl 1 (a.map cN)::.sl 1 (b.map cN)::uu 2 (.own J.length n::.I (jf a b n)::uu 2 (.I n::uu 21 []))),J++[.row 3 1 8 n G ((mf a b n).map cN)]⟩
 |0,n,he,h1=>by
  have:n=8:=by omega
  subst this;refine az λR c=>?_;simp only[OS,W,seval];refine⟨λh=>by simp at h,λ_=>h1 ..⟩
 |k+1,n,he,h1=>by
  refine az λR c=>?_;simp only[OS,W,seval];refine⟨λ_=>?_,λh=>by simp at h;omega⟩;refine al (sL a n _) rfl ?_;simp only[W,seval];refine al (sL b n _) rfl ?_;simp only[W,seval];have j:=da (n:=n) (by omega);have g:(mf a b n).map cN++[[V.i .i64 (if ox a n<ox b n then ox b n else ox a n)]]=(mf a b (n+1)).map cN:=by simp[Cq,cN]
  simp only[g,j];refine⟨?_,λh=>?_,λh=>?_⟩;.simp only[aa,oO,maxLen];omega
  .have e:jf a b (n+1)=n+1:=by simp at h;simp[jf,h]
   refine c _ (bX ?_ (PN d a b k (n+1) (by omega) h1));rw[e];repeat' constructor
  have e:jf a b (n+1)=jf a b n:=by simp at h;simp[jf,h]
  refine c _ (bX ?_ (PN d a b k (n+1) (by omega) h1));rw[e];repeat' constructor
def NV:Ti κ 3 1 8:=o8 (by kernel_rfl)
def aa3:bh κ 193 [.sl 1 (v.map cN),.sl 1 (R.map cN)] J (.sl 1 ((u9 v R).map cN)):=by
 refine aW func193 ao4.2 λa b=>aq ?_;simp only[ao4,SS,seval];simp only[W,seval];refine cB.wk ((Wk.k9 (k:=4) NV rfl).trans (Wk.fw ?_)) (cB.kT 9 (PN a v R 8 0 (by omega) ?_));.simp only[W,seval];repeat' constructor
 simp only[JE];intros;simp only[W,seval];refine⟨?_,?_⟩;.have:jf v R 8<=8:=pq v R 8;simp only[aa,oO];omega
 refine iw 0 a (.inr rfl) rfl rfl ?_ ?_;.simp[fz,kE,jt,Az]
 simp[fz,kE,Pm.one,u9]
def QV:bh κ 145 [.sl 1 (v.map cN)] J (.sl 1 ((u9 v []).map cN)):=by refine aW func145 apI.2 λb a=>aq ?_;simp only[apI,SS,seval];simp only[W,seval];refine iN (zs:=[.sl 1 (v.map cN),.sl 1 (([]:bU).map cN)]) (.cons (.refl _) (.cons (.nil _) .nil)) (aa3 v [] _) ?_;simp only[W,seval];exact bK (.inr rfl) rfl ⟨rfl,rfl⟩
def Dq:bh κ 284 [.s l,.i .u8 c.toNat] J (.I (Lib.indexByte l c)):=by
 refine PC.PB λw g j a=>?_;obtain⟨x,d,f,_⟩:=(a.2 0 _ rfl).sG;have b:=(a.2 1 _ rfl).kK;refine⟨.int .i64 (Lib.indexByte l c),?_,.i _ _⟩;rw[vs2 a.1,d,b];refine(Tryz.sC x c.toNat w).mono ?_;rintro e h ⟨rfl,rfl⟩;refine⟨?_,rfl⟩;rw[f];have:((c.toNat:Int).toNat).toUInt8=c:=by simp
 rw[this]
def yH:bh κ 270 [.s l,.i .u8 c.toNat] J (.I (Lib.indexByte l c)):=by refine aW func270 aol.2 λb a=>aq ?_;simp only[aol,SS,seval];simp only[W,seval];refine al (Dq l c _) rfl ?_;simp only[W,seval];exact bK (.inr rfl) rfl ⟨rfl,rfl⟩
def Ll:bh κ 311 [.s l,.s [c]] J (.I (Lib.indexByte l c)):=by
 refine PC.PB λw j m a=>?_;obtain⟨x,d,f,_⟩:=(a.2 0 _ rfl).sG;obtain⟨y,g,b,_⟩:=(a.2 1 _ rfl).sG;refine⟨.int .i64 (Lib.indexByte l c),?_,.i _ _⟩;have e:y=⟨#[c]⟩:=by
  have h:y.data=#[c]:=by apply Array.toList_inj.1;rw[b]
  cases y;simp_all
 rw[vs2 a.1,d,g,e];refine(Tryz.sB x c w).mono ?_;rintro e k ⟨rfl,rfl⟩;exact⟨by rw[f],rfl⟩
def Rh:bh κ 299 [.s l,.s [c]] J (.jg [.s (az2 l c).1,.s (az2 l c).2.1,.b (az2 l c).2.2]):=by
 refine aW func299 aoa.2 λj a=>aq ?_;simp only[aoa,SS,seval];simp only[W,seval];refine al (Ll l c _) rfl ?_;simp only[W,Nat.reduceAdd,Nat.reduceSub,Nat.reduceLeDiff,Nat.reduceEqDiff,Int.reduceToNat,reduceIte,reduceCtorEq];have i:=pL l c;have g:=Ld (a 0 _ rfl).1;refine⟨λh=>?_,λh=>?_⟩
 .simp only[bE]at h;have e:IntKind.i64.wrap (Lib.indexByte l c+((1:Nat):Int))=Lib.indexByte l c+1:=IntWalk.i64_in _ (by omega);rw[e];refine⟨by omega,by omega,bK (.inr rfl) rfl ⟨?_,rfl⟩⟩;have d:(Lib.indexByte l c+1).toNat=(Lib.indexByte l c).toNat+1:=by omega
  have f:(l.drop ((Lib.indexByte l c).toNat+1)).take (Y l - ((Lib.indexByte l c).toNat+1))=l.drop ((Lib.indexByte l c).toNat+1):=cx (by simp);simp only[Pm.one,az2,h,aU,d,f,B3,aX,bB]
 simp only[iX]at h;exact bK (.inr rfl) rfl ⟨by simp only[Pm.one,az2,h,bw,aX,bB],rfl⟩
def KC:bh κ 281 [.s l,.s [c]] J (.jg [.s (az2 l c).1,.s (az2 l c).2.1,.b (az2 l c).2.2]):=by refine aW func281 aog.2 λd a=>aq ?_;simp only[aog,SS,seval];simp only[W,seval];refine al (Rh l c _) rfl ?_;simp only[W,seval];exact bK (.inr rfl) rfl ⟨rfl,rfl⟩
def Ds:bh κ 301 [.s l,.s p] J (.b (aAj l p)):=by refine aW func301 an9.2 λc a=>aq ?_;simp only[an9,SS,seval];simp only[W,seval];refine⟨λh=>by simp at h;omega,bK (.inr rfl) rfl ⟨?_,rfl⟩⟩;simp[Pm.one,aAj]
def Qb:bh κ 285 [.s l,.s p] J (.b (aAj l p)):=by refine aW func285 aod.2 λc a=>aq ?_;simp only[aod,SS,seval];simp only[W,seval];refine al (Ds l p _) rfl ?_;simp only[W,seval];exact bK (.inr rfl) rfl ⟨rfl,rfl⟩
def Dr:bh κ 302 [.s l,.s p] J (.b (aAm l p)):=by
 refine aW func302 an8.2 λj c=>aq ?_;simp only[an8,SS,seval];simp only[W,seval];have g:=Ld (c 0 _ rfl).1;have i:=Ld (c 1 _ rfl).1;have d:IntKind.i64.wrap ((Y l:Int) - (Y p:Int))=Y l - Y p:=IntWalk.i64_in _ (by omega);rw[d];refine⟨λh=>by simp at h;omega,bK (.inr rfl) rfl ⟨?_,rfl⟩⟩;simp only[Pm.one,aAm,aX,bB];by_cases a:Y p<=Y l
 .have e:((Y l:Int) - (Y p:Int)).toNat=Y l - Y p:=by omega
  have f:(l.drop (Y l - Y p)).take (Y l - (Y l - Y p))=l.drop (Y l - Y p):=cx (by simp);simp[e,f,a]
 simp[a]
def P9:bh κ 286 [.s l,.s p] J (.b (aAm l p)):=by refine aW func286 aoc.2 λc a=>aq ?_;simp only[aoc,SS,seval];simp only[W,seval];refine al (Dr l p _) rfl ?_;simp only[W,seval];exact bK (.inr rfl) rfl ⟨rfl,rfl⟩
def SJ:bh κ 266 [.s l] J (.s (fM l)):=by refine aW func266 aop.2 λb a=>aq ?_;simp only[aop,SS,seval];simp only[W,seval];refine al (KC l 32 _) rfl ?_;simp only[W,seval];exact bK (.inr rfl) rfl ⟨rfl,rfl⟩
def Hh:bh κ 273 [.s l] J (.s (fM l)):=by refine aW func273 aoi.2 λb a=>aq ?_;simp only[aoi,SS,seval];simp only[W,seval];refine al (KC l 32 _) rfl ?_;simp only[W,seval];exact bK (.inr rfl) rfl ⟨rfl,rfl⟩
set_option maxRecDepth 8000 in
def KN:bh κ 283 [.i .u8 c.toNat] J (.I (pP c)):=by refine aW func283 aoe.2 λa e=>aq ?_;simp only[aoe,SS,seval];simp only[W,seval];clear e a;refine⟨λg=>?_,λg=>⟨λd=>?_,λd=>⟨λb=>?_,λb=>⟨λf=>?_,λf=>?_⟩⟩⟩⟩<;>refine bK (.inr rfl) rfl ⟨?_,rfl⟩<;>simp at*<;> simp only[Pm.one,pP,aX,bB,V.i.injEq,km]<;>(repeat' split)<;>omega
def sX:bh κ 198 [.s l] J (.b (aAa l)):=by
 refine aW func198 ao0.2 λg f=>aq ?_;have a:=Ld (f 0 _ rfl).1;simp only[ao0,SS,seval];simp only[W,seval];refine⟨?_,?_,λh=>?_,λh=>?_⟩;.intro h;simp at h;omega
 .intro h;simp at h;omega
 .refine bK (.inr rfl) rfl ⟨?_,rfl⟩;simp only[Pm.one,aX,bB,V.b.injEq];cases l with|nil=>rfl|cons c r =>simp only[aAa];simp at h;simp;omega
 cases l with
 |nil=>simp at h
 |cons c r =>
 have e:aAa (c::r)=r.all me:=by simp only[aAa];simp at h;simp;omega
 refine cB.bX ?_ (Y r+1) (agB (c::r) a r [c] rfl (λd=>?_) (λd=>?_));.simp only[W,seval];repeat' constructor
 .simp only[W,seval];intros;exact bK (.inr rfl) rfl ⟨by simp only[Pm.one,e,d,aX,bB],rfl⟩
 simp only[W,seval];intros;exact bK (.inr rfl) rfl ⟨by simp only[Pm.one,e,d,aX,bB],rfl⟩
def AI:bh κ 238 [.agg U.azR] J (.b (fp U)):=by refine aW func238 aoF.2 λa c=>aq ?_;simp only[aoF,It.azR,SS,seval];simp only[W,seval];exact bA a (.inr rfl) rfl (by simp[LW]) ⟨rfl,rfl⟩
def aaz{b a:bU}{x:Int}:gv (List.map cN (b++x::a)) b.length 0=some (.I x):=by simp[gv,cN]
def XK{J:aj}{K:bL}(a b:bU)(d:Y a<2^63)(k:Y a=Y b):∀(g c f i:bU),a=f++g->b=i++c->Y f=Y i ->(g=c->((fj 26 fo) λj=>K (.exit 0) ⟨j,J⟩))->(g≠c->((fj 4 (fh (.b G) (fj 21 fo))) λj=>K .ret ⟨j,J⟩)) ->gw (Y J) κ OK K (Y g+1) ⟨(.sl 1 (a.map cN)::.sl 1 (b.map cN)::uu 10 (.I (Y a)::.I (Y f)::uu 12 [])),J⟩
 |[],c,f,i,ha,hb,hp,h1,h2=>by
  have:c=[]:=by
   subst ha;subst hb;simp at k;have:Y c=0:=by omega
   exact nE.1 this
  subst this;subst ha;refine az λR l=>?_;simp only[OK,W,seval];exact⟨λh=>by simp at h,λ_=>h1 rfl ..⟩
 |x::g,[],f,i,ha,hb,hp,h1,h2=>by subst ha;subst hb;simp at k;omega
 |x::g,y::c,f,i,ha,hb,hp,h1,h2=>by
  subst ha;subst hb;refine az λR l=>?_;have m:gv (List.map cN (i++y::c)) f.length 0=some (.I y):=by rw[hp];exact aaz
  simp only[OK,m,cN,W,seval];refine⟨λ_=>⟨by simp;omega,by simp;omega,λh=>?_,λh=>?_⟩,λh=>by simp at h;omega⟩;.simp at h;exact h2 (by simp[h]) ..
  simp at h;subst h;refine l _ (bX ?_ (XK _ _ d k g c (f++[x]) (i++[x]) (by simp) (by simp) (by simp[hp]) (λe=>h1 (by rw[e])) (λe=>h2 (by simp[e]))));rw[da (by simp at d;omega)];simp only[ah,ae,ai];repeat' constructor
def Qj:bh κ 220 [.sl 1 (v.map cN),.sl 1 (R.map cN)] J (.b (v==R)):=by
 refine aW func220 aoR.2 λf d=>aq ?_;have a:=qP (d 0 _ rfl).1;rw[aa]at a;simp only[aoR,SS,seval];simp only[aa,W,seval];refine⟨λh=>?_,λh=>?_⟩;.refine bK (.inr rfl) rfl ⟨?_,rfl⟩;simp at h;simp only[Pm.one,aX,bB,V.b.injEq];exact(beq_eq_false_iff_ne.2 λe=>h (by rw[e])).symm
 simp at h;refine cB.bX ?_ (Y v+1) (XK v R a (by omega) v R [] [] rfl rfl rfl (λc=>?_) (λc=>?_));.simp only[W,seval];repeat' constructor
 .simp only[W,seval];simp only[JE];intros;exact bK (.inr rfl) rfl ⟨by simp[Pm.one,c],rfl⟩
 simp only[W,seval];simp only[JE];intros;exact bK (.inr rfl) rfl ⟨by simp[Pm.one,c],rfl⟩
def agq(g:Y l<2^63):∀(a d:aR),l=d++a ->(a.all (λb=>!kM b)=θ->((fh (.s l) (fj 62 fo)) λi=>K (.exit 0) ⟨i,X⟩))->(a.all (λb=>!kM b)=G->((fj 2 (fh (.b G) (fj 60 fo))) λi=>K .ret ⟨i,X⟩)) ->gw (Y X) κ OC K (Y a+1) ⟨(.s l::uu 2 (.I (Y d)::uu 59 [])),X⟩:=by
 intro a;induction a with
 |nil =>intro d f j k;have f:=dL f;subst f;refine az λR m=>?_;simp only[OC,W,seval];exact⟨λh=>by simp at h,λ_=>j rfl ..⟩
 |cons c a ih =>
 intro d f j k;subst f;refine az λR m=>?_;simp only[OC,W,seval];refine⟨λ_=>⟨by simp;omega,λ_=>by simp;omega,λ_=>by simp;omega,?_⟩,λh=>by simp at h;omega⟩;refine bV rfl (λ_=>yH [60,62,123,125] c _) rfl ?_;simp only[W,seval];have e:(decide ((c.toNat:Int)<32)||decide (126<(c.toNat:Int))||decide (0<=Lib.indexByte [60,62,123,125] c))=kM c:=by simp only[kM];congr 2<;>exact decide_eq_decide.2 (by omega)
 rw[e];refine⟨λh=>?_,λh=>?_⟩;.exact k (by simp[h]) ..
 refine m _ (bX ?_ (ih (d++[c]) (by simp) (λe=>j (by simp[h,e])) (λe=>k (by simp only[gF,e,eV]))));rw[da (by simp at g;omega)];simp only[ah,ae,ai];repeat' constructor
def uL:bh κ 265 [.s l] J (.b (fB l)):=by
 refine aW func265 aoq.2 λk f=>aq ?_;have a:=Ld (f 0 _ rfl).1;simp only[aoq,SS,seval];simp only[W,seval];have g:∀n:Nat,n<2^63->0<n->IntKind.i64.wrap ((n:Int) - 1)=((n - 1:Nat):Int):=λn d j=>by rw[IntWalk.i64_in _ (by omega)];omega
 have i:∀h:Y l≠0,IntKind.i64.wrap ((Y l:Int) - 1)=((Y l - 1:Nat):Int):=λh=>g _ a (by omega);by_cases c:Y l=0;.refine⟨λh=>by simp[c]at h,λ_=>?_,λh=>by simp[c]at h⟩;exact bK (.inr rfl) rfl ⟨by simp[Pm.one,fB,mz,c],rfl⟩
 rw[i c];refine⟨λ_=>by omega,λh=>?_,λh=>?_⟩
 .refine bK (.inr rfl) rfl ⟨?_,rfl⟩;have e:mz l=G:=by simp only[mz];simp[c]at h |-;omega
  simp only[Pm.one,fB,e,dI,aX,bB]
 have e:mz l=θ:=by simp only[mz];simp[c]at h |-;omega
 refine cB.bX ?_ (Y l+1) (agq l a l [] rfl (λd=>?_) (λd=>?_));.simp only[W,seval];repeat' constructor
 .simp only[JE];intros;simp only[W,seval];refine al (KC l 32 _) rfl ?_;simp only[W,seval];refine al (sX _ _) rfl ?_;simp only[W,seval];refine bK (.inr rfl) rfl ⟨?_,rfl⟩;simp only[Pm.one,fB,e,d,oA,dp,aX,bB];congr 3;exact decide_eq_decide.2 (by omega)
 simp only[JE];intros;simp only[W,seval];exact bK (.inr rfl) rfl ⟨by simp only[Pm.one,fB,e,d,dp,dI,aX,bB],rfl⟩
def agt(d:List It)(s:bT X)(f:Y d<2^63):∀(a c:List It),d=c++a ->(fits a U=θ->((fj 40 fo) λl=>K (.exit 0) ⟨l,X++[.box 70 U.azR]⟩))->(fits a U=G->∀m,((fj 4 (fh (.b G) (fj 35 fo))) λl=>K .ret ⟨l,X++m⟩)) ->gw (Y X) κ OH K (Y a+1) ⟨(uu 3 (.ptr X.length 0::uu 3 (.sl 3 (d.map It.azR)::.I (Y d)::.I (Y c)::uu 30 []))),X++[.box 70 U.azR]⟩:=by
 intro a;induction a with
 |nil =>intro c i j k;have i:=dL i;subst i;refine az λR p=>?_;simp only[OH,W,seval];exact⟨λh=>by simp at h,λ_=>j rfl ..⟩
 |cons y a ih =>
 intro c i j k;subst i;refine az λR p=>?_;simp only[OH,It.azR,W,seval];refine⟨λ_=>⟨by simp;omega,?_⟩,λh=>by simp at h;omega⟩;refine al (AI y _) rfl ?_;simp only[W,seval];have q:bT (X++[.box 70 U.azR]):=cj s (by simp[It.azR,jt,akj,aqu]);have back:fits (y::a) U=fits a U->∀g,rk g ((uu 3 (.ptr X.length 0::uu 3 (.sl 3 ((c++y::a).map It.azR)::.I (Y (c++y::a))::.I (Y (c++[y]))::uu 30 []))))->∀o,R ⟨g,X++[.box 70 U.azR,o]⟩:=by intro e g r o;rw[e]at j k;refine p _ (cn [.box 70 U.azR] [o] q r ?_ (ih (c++[y]) (by simp) j k));simp only[LW,ae,ai,aG];omega
 refine⟨λh=>?_,λh=>?_⟩
 .refine back ?_ _ ?_ _
  .have:iK U y=G:=by simp only[iK,h,k7,dI]
   simp[fits,this]
  rw[da (by simp at f;omega)];simp only[ah,ae,ai];repeat' constructor
 refine bV rfl (λ_=>SJ y.azX _) rfl ?_;simp only[W,seval];refine⟨λn=>?_,λn=>?_⟩
 .refine k ?_ _ ..;have:iK U y=θ:=by simp only[iK,h,nc,dp];exact n
  simp[fits,this]
 refine back ?_ _ ?_ _
 .have:iK U y=G:=by simp only[iK,h,nc,dp];exact n
  simp[fits,this]
 rw[da (by simp at f;omega)];simp only[ah,ae,ai];repeat' constructor
def aie(a:List It)(J:aj):bh κ 239 [.sl 3 (a.map It.azR),.agg U.azR] J (.b (fits a U)):=by
 refine aW func239 aoE.2 λd f=>aq ?_;have c:=qP (f 0 _ rfl).1;rw[aa]at c;simp only[aoE,SS,seval];simp only[aa,W,seval];refine⟨by simp[It.azR,lf,kZ],?_⟩;refine cB.bX ?_ (Y a+1) (agt U a d c a [] rfl (λe=>?_) (λe=>?_));.simp only[W,seval];repeat' constructor
 .simp only[JE];intros;simp only[W,seval];exact bA d (.inr rfl) rfl (by simp[LW]) ⟨by simp[Pm.one,e],rfl⟩
 simp only[JE];intros;simp only[W,seval];exact bA d (.inr rfl) rfl (by simp[LW]) ⟨by simp[Pm.one,e],rfl⟩
set_option maxRecDepth 8000 in
def Lf(f:List It)(x:It)(J:aj):bh κ 237 [.sl 3 ((a++x::f).map It.azR),.I (Y a)] J (.b (cP a.getLast? x)):=by
 refine aW func237 aoG.2 λi o=>aq ?_;have g:=qP (o 0 _ rfl).1;rw[aa]at g;simp only[aoG,SS,seval];simp only[It.azR,W,seval];refine⟨by simp;omega,λc=>?_,λc=>⟨λk=>?_,λk=>?_⟩⟩
 .simp only[ez]at c;have r:∀y d,a=d++[y]->IntKind.i64.wrap ((Y a:Int) - 1)=Y d:=λy d e=>by
   subst e;have:Y (d++[y])<2^63:=by simp at g |-;omega
   rw[IntWalk.i64_in _ (by omega)];simp
  rcases gE a with q|⟨d,y,n⟩;.subst q;refine⟨λh=>by simp at h,.I 0,λh=>by simp at h,?_⟩;simp only[W,seval];refine bA i (.inr rfl) rfl (by simp[LW]) ⟨?_,rfl⟩;simp[Pm.one,cP,c]
  rw[fU]at n;rw[r y d n];subst n;have p:gv (List.map It.azR (d++[y]++x::f)) d.length 0=some (.I y.azT):=by rw[aO,yk,qK];rfl
  simp only[ak,p];refine⟨λ_=>by simp;omega,.I y.azT,λ_=>⟨True,rfl,trivial⟩,?_⟩;simp only[W,seval];refine bA i (.inr rfl) rfl (by simp[LW]) ⟨?_,rfl⟩;have s:((Y (d++[y]):Int)==0)=G:=by simp;omega
  simp only[Pm.one,cP,c,s,aU,aX,bB,lJ,kg,pX,ow]
 .refine al (sX _ _) rfl ?_;simp only[W,seval];simp only[ez,gN]at c k;refine bA i (.inr rfl) rfl (by simp[LW]) ⟨?_,rfl⟩;simp only[Pm.one,cP,c,k,aU,bw,aX,bB];simp
 simp only[ez,gN,gA]at c k;have tagged:(x.azT=2\/x.azT=4)->cP a.getLast? x=(fB x.azX&&decide (1<=x.id)&&decide (x.id<=999)):=λh=>by simp only[cP,c,k,h,aU,bw]
 refine⟨λj=>⟨λ_=>?_,λh=>?_⟩,λj=>⟨λm=>?_,λm=>⟨λl=>?_,λl=>?_⟩⟩⟩;.refine al (uL _ _) rfl ?_;simp only[W,seval];refine bA i (.inr rfl) rfl (by simp[LW]) ⟨?_,rfl⟩;simp at j;simp only[Pm.one,tagged (.inl j),aX,bB]
 .rw[j]at h;simp at h
 .refine al (uL _ _) rfl ?_;simp only[W,seval];refine bA i (.inr rfl) rfl (by simp[LW]) ⟨?_,rfl⟩;simp at m;simp only[Pm.one,tagged (.inr m),aX,bB]
 .refine al (sX _ _) rfl ?_;simp only[W,seval];refine bA i (.inr rfl) rfl (by simp[LW]) ⟨?_,rfl⟩;simp at l;simp[Pm.one,cP,l]
 refine bA i (.inr rfl) rfl (by simp[LW]) ⟨?_,rfl⟩;simp at j l m;simp[Pm.one,cP,c,k,j,l,m]
def agD(p:bT X)(g:Y a<2^63):∀(b c:List It),a=c++b ->(cz c b=0->((fj 35 fo) λj=>K (.exit 0) ⟨j,X⟩))->(cz c b≠0->∀k,((fj 2 (fh (.I (cz c b)) (fj 32 fo))) λj=>K .ret ⟨j,X++k⟩)) ->gw (Y X) κ OR K (Y b+1) ⟨(.sl 3 (a.map It.azR)::uu 12 (.sl 3 (a.map It.azR)::.I (Y a)::.I (Y c)::uu 19 [])),X⟩:=by
 intro b;induction b with
 |nil =>intro c f i d;have f:=dL f;subst f;refine az λR n=>?_;simp only[OR,W,seval];exact⟨λh=>by simp at h,λ_=>i rfl ..⟩
 |cons y b ih =>
 intro c f i d;subst f;refine az λR n=>?_;simp only[OR,It.azR,W,seval];refine⟨λ_=>⟨by simp;omega,?_⟩,λh=>by simp at h;omega⟩;refine al (Lf c b y _) rfl ?_;simp only[W,seval];refine⟨λh=>?_,λh=>?_⟩
 .have e:cz c (y::b)=1:=by simp at h;simp[cz,h]
  rw[e]at d;exact d (by decide) _ ..
 refine al (AI y _) rfl ?_;simp only[W,seval];have o:List.take (Y c - 0) (List.map It.azR (c++y::b))=c.map It.azR:=by simp
 simp only[o];refine⟨λ_=>by simp;omega,bV rfl (λ_=>aie y c _) rfl ?_⟩;simp only[W,seval];have m:cP c.getLast? y=θ:=by simpa using h
 refine⟨λl=>?_,λl=>?_⟩
 .have e:cz c (y::b)=7:=by simp only[cz,m,l,aU,bw,wi]
  rw[e]at d;exact d (by decide) _ ..
 have e:cz c (y::b)=cz (c++[y]) b:=by simp only[cz,m,l,bw,wi,aP]
 rw[e]at i d;refine n _ (vj (aM _) p ?_ ?_ (ih (c++[y]) (by simp) i d));.rw[da (by simp at g;omega)];simp only[ah,ae,ai];repeat' constructor
 simp only[LW]
def ui:bh κ 195 [.sl 3 (a.map It.azR)] J (.I (dq a)):=by
 refine aW func195 ao3.2 λc f=>aq ?_;have b:=qP (f 0 _ rfl).1;rw[aa]at b;simp only[ao3,SS,seval];simp only[aa,W,seval];refine bV rfl (λ_=>ZB a _) rfl ?_;simp only[aa,W,seval];refine⟨λh=>?_,λh=>?_⟩
 .refine bK (.inr rfl) rfl ⟨?_,rfl⟩;simp at h;have:512<Y a\/1024<iJ 0 a:=by omega
  simp only[Pm.one,dq,this,aU,aX,bB]
 simp at h;have d:¬(512<Y a\/1024<iJ 0 a):=by omega
 refine cB.bX ?_ (Y a+1) (agD a c b a [] rfl (λe=>?_) (λe=>?_));.simp only[W,seval];repeat' constructor
 .simp only[JE];intros;simp only[W,seval];exact bK (.inr rfl) rfl ⟨by simp only[Pm.one,dq,d,e,bw,aX,bB],rfl⟩
 simp only[JE];intros;simp only[W,seval];exact bA c (.inr rfl) rfl (by simp[LW]) ⟨by simp only[Pm.one,dq,d,bw,aX,bB],rfl⟩
def ags(q:bT X)(g:Y a<2^40):∀(d f:List It) (c:bU),a=f++d->Y c<=Y f ->(∀v,((fj 3 (fh (.own (Y X+1) (Y (eX c d))) (fj 29 fo))) λs=>K (.exit 0) ⟨s,X++[v,.row 3 1 8 (eX c d).length G ((eX c d).map cN)]⟩)) ->gw (Y X) κ Ja K (Y d+1) ⟨(uu 3 (.own (Y X+1) (Y c)::.mp (Y X)::uu 3 (.sl 3 (a.map It.azR)::.I (Y a)::.I (Y f)::uu 22 []))),X++[.map 3 4 (pe c),.row 3 1 8 c.length G (c.map cN)]⟩:=by
 intro d;induction d with
 |nil =>intro f c n r j;have n:=dL n;subst n;refine az λR o=>?_;simp only[Ja,W,seval];exact⟨λh=>by simp at h,λ_=>j _ ..⟩
 |cons y d ih =>
 intro f c n r j;subst n;refine az λR o=>?_;by_cases k:y.id∈c
 .have l:lH (X++[.map 3 4 (pe c),.row 3 1 8 c.length G (c.map cN),.box 70 y.azR]) 0 (.mp (Y X)) (.I y.id)=some (some (0+c.idxOf y.id,.b θ)):=by simp only[lH,jD,aC,BG,k,aU]
  simp only[It.azR]at l;simp only[Ja,It.azR,W,seval];refine⟨λ_=>⟨by simp;omega,?_⟩,λh=>by simp at h;omega⟩;refine al (AI y _) rfl ?_;simp only[l,W,seval];have e:eX c (y::d)=eX c d:=by simp[eX,k]
  rw[e]at j;have m:bT (X++[.map 3 4 (pe c),.row 3 1 8 c.length G (c.map cN)]):=cj q (by simp);refine⟨λ_=>by simp[V.vC],λh=>by simp at h,λ_=>?_⟩;refine o _ (cn [_,_] [_] m ?_ ?_ (ih (f++[y]) c (by simp) (by simp;omega) j));.rw[da (by simp at g;omega)];simp only[ah,ae,ai];repeat' constructor
  simp only[LW,ae,ai,aG];omega
 have l:lH (X++[.map 3 4 (pe c),.row 3 1 8 c.length G (c.map cN),.box 70 y.azR]) 0 (.mp (Y X)) (.I y.id)=some none:=by simp only[lH,jD,aC,BG,k,bw]
 have p:kL 0 (.I y.id) (pe c) 0=some none:=by simp only[BG,k,bw]
 simp only[It.azR]at l;simp only[Ja,It.azR,W,seval];refine⟨λ_=>⟨by simp;omega,?_⟩,λh=>by simp at h;omega⟩;refine al (AI y _) rfl ?_;simp only[l,p,W,seval];have x:c.contains y.id=G:=by simpa using k
 refine⟨λ_=>by simp[V.vC],λh=>?_,λh=>?_⟩
 .have e:eX c (y::d)=eX (c++[y.id]) d:=by simp[eX,k,h]
  rw[e]at j;have u:c.map cN++[[V.i .i64 y.id]]=(c++[y.id]).map cN:=by simp[cN]
  have t:pe c++[(V.i .i64 y.id,rI [none] (V.b θ))]=pe (c++[y.id]):=by simp[pe,rI]
  have w:Y c+1=Y (c++[y.id]):=by simp
  rw[u,t,w];have m:bT (X++[.map 3 4 (pe (c++[y.id])),.row 3 1 8 (c++[y.id]).length G ((c++[y.id]).map cN)]):=cj q (by simp);refine⟨by simp[V.vC,rI,V.Hm,V.pure],?_,?_⟩;.simp at g;simp[maxLen];omega
  refine o _ (cn [_,_] [_] m ?_ ?_ (ih (f++[y]) (c++[y.id]) (by simp) (by simp;omega) j));.rw[da (by simp at g;omega)];simp only[ah,ae,ai];repeat' constructor
  simp only[LW,ae,ai,aG];omega
 have e:eX c (y::d)=eX c d:=by simp[eX,h]
 rw[e]at j;have m:bT (X++[.map 3 4 (pe c),.row 3 1 8 c.length G (c.map cN)]):=cj q (by simp);refine o _ (cn [_,_] [_] m ?_ ?_ (ih (f++[y]) c (by simp) (by simp;omega) j));.rw[da (by simp at g;omega)];simp only[ah,ae,ai];repeat' constructor
 simp only[LW,ae,ai,aG];omega
def Gt(b:Y a<2^40)(J:aj):PC κ 240 [.sl 3 (a.map It.azR)] J (λr d=>r=.own J.length 0/\d=J++[.row 3 1 8 0 G ((az8 a).map cN)]):=by
 refine aW func240 aoD.2 λc e=>aq ?_;simp only[aoD,SS,seval];simp only[aa,W,seval];refine cB.wk ((Wk.ph (J:=J) [_] (k:=3) NV rfl).trans (Wk.fw ?_)) (cB.kT (Y a+1) (ags a c b a [] [] rfl (aM _) ?_));.simp only[W,seval];repeat' constructor
 simp only[JE];intros;simp only[W,seval];exact DB 1 c (.inr rfl) rfl rfl rfl (by simp[LC,Ob.gen]) (by simp[Pm.one,az8,mv1,Ob.fresh])
def UR(b:Y a<2^40)(J:aj):bh κ 240 [.sl 3 (a.map It.azR)] J (.sl 1 ((az8 a).map cN)) :=PC.closed λc=>PC.fz c (Gt a b J)
def XI{J:aj}{K:bL}(f:bT J)(N:Nat)(e:N<2^40):∀(k i:Nat),i+k=N ->((fj 3 (fh (.own J.length 0) (fj 15 fo))) λd=>K (.exit 0) ⟨d,J++[.row 3 1 8 0 G (lX N N)]⟩) ->gw (Y J) κ OF K (k+1) ⟨(uu 3 (.own J.length 0::uu 4 (.I N::.I i::uu 9 []))),J++[.row 3 1 8 0 G (lX N i)]⟩
 |0,i,b,h1=>by
  have b:i=N:=by omega
  subst b;refine az λR c=>?_;simp only[OF,W,seval];exact⟨λh=>by simp at h,λ_=>h1 ..⟩
 |k+1,i,b,h1=>by
  have a:i<N:=by omega
  refine az λR c=>?_;simp only[OF,CB (Nat.le_of_lt a),L5 a,W,seval];refine⟨λ_=>?_,λh=>by simp at h;omega⟩;have j:=da (n:=i) (by omega);rw[j];have g:(lX N i).set i [V.i .i64 (((i+1:Nat)):Int)]=lX N (i+1):=by rw[<- L4 a];rfl
  rw[g];refine⟨by omega,a,c _ (bX ?_ (XI f N e k (i+1) (by omega) h1))⟩;repeat' constructor
def GX(b:n<2^40)(J:aj):bh κ 243 [.I n] J (.sl 1 ((eH n).map cN)):=by
 refine aW func243 aoA.2 λa c=>aq ?_;simp only[aoA,SS,seval];simp only[W,seval];refine⟨⟨by omega,.inl trivial,by omega,by omega,by simp[maxLen];omega⟩,?_⟩;have e:List.replicate n [V.i .i64 0]=lX n 0:=by simp[lX,eH]
 rw[e];refine cB.bX (fr':=(uu 3 (.own J.length 0::uu 4 (.I n::.I (0:Nat)::uu 9 [])))) ?_ (n+1) (XI a n b n 0 (by omega) ?_);.rw[CB (jK _)];repeat' constructor
 simp only[JE];intros;simp only[W,seval];refine iw 0 a (.inr rfl) rfl rfl ?_ ?_;.simp[fz,kE,jt,Az]
 simp[fz,kE,Pm.one,lX]
def Vh:Int:=if x∈v then v.idxOf x else -1
def agp(l:bU)(f:Y l<2^63):∀(a b:bU),l=b++a->x ∉ b ->(x ∉ l->((fj 19 fo) λj=>K (.exit 0) ⟨j,X⟩))->(x∈l->((fj 4 (fh (.I (Vh l x)) (fj 14 fo))) λj=>K .ret ⟨j,X⟩)) ->gw (Y X) κ OB K (Y a+1) ⟨(.sl 1 (l.map cN)::.I x::uu 5 (.I (Y l)::.I (Y b)::uu 10 [])),X⟩:=by
 intro a;induction a with
 |nil =>intro b d i k g;have d:=dL d;subst d;refine az λR m=>?_;simp only[OB,W,seval];exact⟨λh=>by simp at h,λ_=>k i ..⟩
 |cons c a ih =>
 intro b d i k g;subst d;refine az λR m=>?_;simp only[OB,cN,W,seval];refine⟨λ_=>⟨by simp;omega,λh=>?_,λh=>?_⟩,λh=>by simp at h;omega⟩
 .simp at h;subst h;have e:Vh (b++x::a) x=Y b:=by simp[Vh,List.idxOf_append,i]
  rw[e]at g;exact g (by simp) ..
 simp at h;refine m _ (bX ?_ (ih (b++[c]) (by simp) (by simp[i,h]) k g));rw[da (by simp at f;omega)];simp only[ah,ae,ai];repeat' constructor
def SX:bh κ 267 [.sl 1 (v.map cN),.I x] J (.I (Vh v x)):=by
 refine aW func267 aoo.2 λc b=>aq ?_;have a:=qP (b 0 _ rfl).1;rw[aa]at a;simp only[aoo,SS,seval];simp only[aa,W,seval];refine cB.bX ?_ (Y v+1) (agp x v a v [] rfl (by simp) (λh=>?_) (λh=>?_));.repeat' constructor
 .simp only[JE];intros;simp only[W,seval];exact bK (.inr rfl) rfl ⟨by simp[Pm.one,Vh,h],rfl⟩
 simp only[JE];intros;simp only[W,seval];exact bK (.inr rfl) rfl ⟨rfl,rfl⟩
def KF:bh κ 241 [.sl 1 (v.map cN),.I x] J (.b (v.contains x)):=by
 refine aW func241 aoC.2 λc a=>aq ?_;simp only[aoC,SS,seval];simp only[W,seval];refine al (SX v x _) rfl ?_;simp only[W,seval];refine bK (.inr rfl) rfl ⟨?_,rfl⟩;by_cases h:x∈v;.simp[Pm.one,Vh,h]
 simp[Pm.one,Vh,h]
def XJ{J:aj}{K:bL}(a b:List It)(f:Y a<2^63)(k:Y a=Y b):∀(d c g i:List It),a=g++d->b=i++c->Y g=Y i ->(jG d c=θ->((fj 26 fo) λj=>K (.exit 0) ⟨j,J⟩))->(jG d c=G->((fj 4 (fh (.b G) (fj 21 fo))) λj=>K .ret ⟨j,J⟩)) ->gw (Y J) κ OJ K (Y d+1) ⟨(.sl 3 (a.map It.azR)::.sl 3 (b.map It.azR)::uu 10 (.I (Y a)::.I (Y g)::uu 12 [])),J⟩
 |[],c,g,i,ha,hb,hp,h1,h2=>by
  have:c=[]:=by
   subst ha;subst hb;simp at k;have:Y c=0:=by omega
   exact nE.1 this
  subst this;subst ha;refine az λR l=>?_;simp only[OJ,W,seval];exact⟨λh=>by simp at h,λ_=>h1 rfl ..⟩
 |x::d,[],g,i,ha,hb,hp,h1,h2=>by subst ha;subst hb;simp at k;omega
 |x::d,y::c,g,i,ha,hb,hp,h1,h2=>by
  subst ha;subst hb;refine az λR l=>?_;have n:(List.map It.azR (i++y::c)).getD g.length []=y.azR:=by rw[hp];exact dR
  simp only[OJ,n,It.azR,iF,eQ,W,seval];refine⟨λ_=>⟨by simp;omega,by simp;omega,λh=>?_,λh=>?_⟩,λh=>by simp at h;omega⟩
  .refine h2 ?_ ..;have:LI x y=G:=by simpa only[LI,dG]using h
   simp[jG,this]
  have m:LI x y=θ:=by simpa only[LI,eP]using h
  have e:jG (x::d) (y::c)=jG d c:=by simp[jG,m]
  rw[e]at h1 h2;refine l _ (bX ?_ (XJ _ _ f k d c (g++[x]) (i++[y]) (by simp) (by simp) (by simp[hp]) h1 h2));rw[da (by simp at f;omega)];simp only[ah,ae,ai];repeat' constructor
def LZ(b:List It)(J:aj):bh κ 228 [.sl 3 (a.map It.azR),.sl 3 (b.map It.azR)] J (.b (jG a b)):=by
 refine aW func228 aoL.2 λg f=>aq ?_;have c:=qP (f 0 _ rfl).1;rw[aa]at c;simp only[aoL,SS,seval];simp only[aa,W,seval];refine⟨λh=>?_,λh=>?_⟩
 .refine bK (.inr rfl) rfl ⟨?_,rfl⟩;simp at h;simp only[Pm.one,aX,bB,V.b.injEq];cases e:jG a b;.rfl
  exact absurd (M4 e) (by omega)
 simp at h;refine cB.bX ?_ (Y a+1) (XJ a b c (by omega) a b [] [] rfl rfl rfl (λd=>?_) (λd=>?_));.simp only[W,seval];repeat' constructor
 .simp only[W,seval];simp only[JE];intros;exact bK (.inr rfl) rfl ⟨by simp[Pm.one,d],rfl⟩
 simp only[W,seval];simp only[JE];intros;exact bK (.inr rfl) rfl ⟨by simp[Pm.one,d],rfl⟩
def wL(b:List It)(J:aj):bh κ 179 [.sl 3 (a.map It.azR),.sl 3 (b.map It.azR)] J (.b (jG a b)):=by refine aW func179 apg.2 λd c=>aq ?_;simp only[apg,SS,seval];simp only[W,seval];refine al (LZ a b _) rfl ?_;simp only[W,seval];exact bK (.inr rfl) rfl ⟨rfl,rfl⟩
def acG(t:bT X)(j:Y a<2^40): ∀(c d:List It) (b:aR) (g:Nat),a=d++c->Y b+Y (az7 c).1<2^40 ->(∀q,((fh (.sl 3 (a.map It.azR)) (fj 2 (fh (.own X.length n) (fh (.I (Y a - Y (az7 c).2:Nat)) (fh (.own (Y X+1) q) (fj 50 fo)))))) λr=>K (.exit 2) ⟨r,X++[.row 70 3 32 n G N,.row 5 1 1 q G (aN (b++(az7 c).1))]⟩)) ->gw (Y X) κ I7 K (Y c+1) ⟨(.sl 3 (a.map It.azR)::uu 2 (.own X.length n::.I (Y d)::.own (Y X+1) g::uu 50 [])),X++[.row 70 3 32 n G N,.row 5 1 1 g G (aN b)]⟩:=by
 intro c;induction c with
 |nil =>
  intro d b g i k f;have i:=dL i;subst i;refine az λR p=>?_;simp only[I7,W,seval];refine⟨λh=>by simp at h,.I 0,λh=>by simp at h,?_⟩;simp only[W,seval];refine⟨λh=>by simp at h,λ_=>?_⟩;have e:b++(az7 []).1=b:=by simp[az7]
  rw[e]at f;exact f _ ..
 |cons x c ih =>
 intro d b g i k f;subst i;refine az λR p=>?_;simp only[I7,It.azR,W,seval];refine⟨λ_=>by simp;omega,.I x.azT,λ_=>rfl,?_⟩;simp only[W,seval];have s:decide ((Y d:Int)<(Y (List.map It.azR (d++x::c)):Int))=θ:=by simp;omega
 simp only[s,It.azR,W,seval];refine⟨λh=>?_,λh=>?_⟩
 .simp at h;have m:(az7 (x::c)).1=x.azX++(az7 c).1:=by simp[az7,h]
  have l:(az7 (x::c)).2=(az7 c).2:=by simp[az7,h]
  rw[m]at f k;rw[l]at f;simp only[<- List.append_assoc b]at f;rw[ah]at k;refine⟨by simp;omega,⟨?_,?_⟩,?_⟩;.simp only[bM];omega
  .simp only[bM,maxLen];omega
  rw[gp];refine p _ (bX ?_ (ih (d++[x]) (b++x.azX) (g+1) (by simp) (by rw[ah];omega) f));rw[da (by simp at j;omega)];simp only[ah,ae,ai];repeat' constructor
 simp at h;have m:(az7 (x::c))=([],x::c):=by simp[az7,h]
 rw[m]at f;have l:Y (d++x::c) - Y (x::c)=Y d:=by simp
 have o:=f g;simp only[l,bI]at o;exact o ..
def NU:Ti κ 70 3 32:=o8 (by kernel_rfl)
def aa6:Ti κ 5 1 1:=o8 (by kernel_rfl)
def By{J:aj}{K:bL}(i:List It)(l:bT J)(d:Y i<2^40): ∀(n:Nat) (a c b:List It),i=c++a->Y a<=n->bo a<2^40->Y b<=Y c ->((fj 3 (fh (.own J.length (Y (b++np n a))) (fj 52 fo))) λv=>K (.exit 0) ⟨v,J++[.row 70 3 32 (b++np n a).length G ((b++np n a).map It.azR)]⟩) ->gw (Y J) κ OA K (n+1) ⟨(.sl 3 (i.map It.azR)::uu 2 (.own J.length (Y b)::.I (Y c)::uu 51 [])),J++[.row 70 3 32 b.length G (b.map It.azR)]⟩
 |n,[],c,b,j,hn,ht,ho,h1=>by
  have j:=dL j;subst j;have e:b++np n []=b:=by cases n<;>simp[np]
  rw[e]at h1;refine az λR o=>?_;simp only[OA,W,seval];exact⟨λh=>by simp at h,λ_=>h1 ..⟩
 |0,x::a,c,b,j,hn,ht,ho,h1=>by simp at hn
 |n+1,x::a,c,b,j,hn,ht,ho,h1=>by
  subst j;refine az λR o=>?_;simp only[OA,It.azR,W,seval];refine⟨λ_=>⟨by simp;omega,λg=>?_,λg=>?_⟩,λh=>by simp at h;omega⟩
  .simp at g;have e:b++np (n+1) (x::a)=(b++[x])++np n a:=by simp[np,g]
   rw[e]at h1;have p:b.map It.azR++[[.I x.azT,.s x.azX,.I x.id]]=(b++[x]).map It.azR:=by simp[It.azR]
   have u:Y b+1=Y (b++[x]):=by simp
   rw[p,u];simp only[bo]at ht;refine⟨by simp;omega,?_,?_⟩;.simp at d;simp[maxLen];omega
   refine o _ (bX ?_ (By _ l d n a (c++[x]) (b++[x]) (by simp) (by simp at hn;omega) (by omega) (by simp;omega) h1));rw[da (by simp at d;omega)];simp only[ah,ae,ai];repeat' constructor
  simp at g;obtain⟨f,t⟩:=B8 (x::a);have z:=w7 (r:=a) g;have w:=Dw (x::a);have y:Y (c++x::a) - Y (az7 (x::a)).2=Y (c++f):=by have:=congrArg List.length t;simp only[ah]at this |-;omega
  refine cB.wk ((Wk.ph (J:=J) [_] (k:=5) aa6 rfl).trans (Wk.fw ?_)) (cB.kT (Y (x::a)+1) (acG _ b.length (b.map It.azR) l d (x::a) c [] 0 rfl (by simp;omega) ?_));.simp only[W,seval];repeat' constructor
  simp only[JE];intros;rw[y,ay];simp only[bM,iB,W,seval];have m:c++x::a=(c++f)++(az7 (x::a)).2:=by rw[aO,<- t]
  have A:1<=Y f:=by have:=congrArg List.length t;simp only[ah,ae]at this;omega
  refine⟨λh=>⟨?_,?_⟩,λh=>?_⟩;.simp at d;simp[maxLen];omega
  .simp at h;have e:b++np (n+1) (x::a)=(b++[⟨1,(az7 (x::a)).1,0⟩])++np n (az7 (x::a)).2:=by
    have:¬Y (az7 (x::a)).1=0:=by omega
    simp[np,g,this]
   rw[e]at h1;have p:b.map It.azR++[[.I 1,.s (az7 (x::a)).1,.I 0]]=(b++[(⟨1,(az7 (x::a)).1,0⟩:It)]).map It.azR:=by simp[It.azR]
   have u:Y b+1=Y (b++[(⟨1,(az7 (x::a)).1,0⟩:It)]):=by simp
   rw[p,u];have q:bT (J++[.row 70 3 32 (b++[(⟨1,(az7 (x::a)).1,0⟩:It)]).length G ((b++[(⟨1,(az7 (x::a)).1,0⟩:It)]).map It.azR)]):=cj l (by simp);refine o _ (cn [_] [_] q ?_ ?_ (By _ l d n (az7 (x::a)).2 (c++f) (b++[⟨1,(az7 (x::a)).1,0⟩]) m (by simp at hn;omega) (by omega) (by simp;omega) h1));.repeat' constructor
   simp only[LW,ae,ai,aG];omega
  simp at h;have e:b++np (n+1) (x::a)=b++np n (az7 (x::a)).2:=by simp[np,g,h]
  rw[e]at h1;have q:bT (J++[.row 70 3 32 b.length G (b.map It.azR)]):=cj l (by simp);refine o _ (cn [_] [_] q ?_ ?_ (By _ l d n (az7 (x::a)).2 (c++f) b m (by simp at hn;omega) (by omega) (by simp;omega) h1));.repeat' constructor
  simp only[LW,ae,ai,aG];omega
def PF(b:Y a<2^40)(d:bo a<2^40)(J:aj):bh κ 268 [.sl 3 (a.map It.azR)] J (.sl 3 ((az9 a).map It.azR)):=by
 refine aW func268 aon.2 λc e=>aq ?_;simp only[aon,SS,seval];simp only[W,seval];refine cB.wk ((Wk.k9 (k:=3) NU rfl).trans (Wk.fw ?_)) (cB.kT (Y a+1) (By a c b a.length a [] [] rfl (aM _) d (aM _) ?_));.simp only[W,seval];repeat' constructor
 simp only[JE];intros;simp only[W,seval];refine iw 0 c (.inr rfl) rfl rfl ?_ ?_;.simp[fz,kE,jt,Az]
 simp[fz,kE,Pm.one,az9]
def MY{J:aj}{K:bL}(F:V)(a c:bU)(p:Y a<2^63): ∀(i:Nat) (l:gh),i<=min a.length (Y c)->(∀x,jM x l=Lh (a.drop i) (c.drop i) x) ->(∀l,(∀x,jM x l=Lh a c x)->((fh (F) (fj 6 (fh (.mp (Y J)) (fj 52 fo)))) λn=>K (.exit 0) ⟨n,J++[.map 3 3 (vE l)]⟩)) ->gw (Y J) κ OG K (i+1) ⟨(F::.sl 1 (a.map cN)::.sl 1 (c.map cN)::uu 4 (.mp (Y J)::.I ((i:Int) - 1)::uu 51 [])),J++[.map 3 3 (vE l)]⟩
 |0,l,hi,hl,h1=>by refine az λR m=>?_;simp only[OG,W,seval];exact⟨λh=>by simp at h,λ_=>h1 l (by simpa using hl) ..⟩
 |i+1,l,hi,hl,h1=>by
  have d:i<Y a:=by omega
  have g:i<Y c:=by omega
  have q:((i+1:Nat):Int) - 1=(i:Nat):=by omega
  have o:IntKind.i64.wrap ((i:Int) - 1)=(i:Int) - 1:=IntWalk.i64_in _ (by omega);have e:∀x,jM x (oN l (a.getD i 0) (c.getD i 0))=Lh (a.drop i) (c.drop i) x:=λx=>by rw[xZ,Q8 d g,hl x]
  rw[q];refine az λR m=>?_;simp only[OG,ak,v8 d,v8 g,W,seval];rcases Gy l (a.getD i 0)with⟨_,f,j⟩|⟨k,b,_,f,j⟩;all_goals
   simp only[f,o,rI,j,W,seval];refine⟨λ_=>⟨by simp;omega,by simp;omega,by simp[V.vC,V.Hm,V.pure],?_⟩,λh=>by simp at h<;>omega⟩;refine m _ (bX ?_ (MY F a c p i _ (by omega) e h1));repeat' constructor
def Zl(l:gh)(J:bT X)(j:Y a<2^40)(L:∀x,jM x l=Lh v R x):∀(f g:List It) (d:List It),a=g++f->Y d<=Y g ->((fj 9 (fh (.own (Y X+1) (Y (d++aAk f v R))) (fj 50 fo))) λM=>K (.exit 2) ⟨M,X++[.map 3 3 (vE l),.row 70 3 32 (d++aAk f v R).length G ((d++aAk f v R).map It.azR)]⟩) ->gw (Y X) κ I9 K (Y f+1) ⟨(uu 7 (.mp (Y X)::uu 1 (.own (Y X+1) (Y d)::uu 24 (.sl 3 (a.map It.azR)::.I (Y a)::.I (Y g)::uu 23 [])))),X++[.map 3 3 (vE l),.row 70 3 32 d.length G (d.map It.azR)]⟩:=by
 intro f;induction f with
 |nil =>
  intro g d r D n;have r:=dL r;subst r;have e:d++aAk [] v R=d:=by simp[aAk]
  rw[e]at n;refine az λc o=>?_;simp only[I9,W,seval];exact⟨λh=>by simp at h,λ_=>n ..⟩
 |cons x f ih =>
 intro g d r D n;subst r;have C:=dD g x (by simp at j;omega);have p:g++x::f=(g++[x])++f:=by simp
 have put:∀(y:It),Wu v R x=some y->∀{c:ck} {z:aB} ,(∀t,gw (Y X) κ I9 K (Y f+1) t->c t)->rk z (uu 7 (.mp (Y X)::uu 1 (.own (Y X+1) (Y (d++[y]))::uu 24 (.sl 3 ((g++x::f).map It.azR)::.I (Y (g++x::f))::.I (Y (g++[x]))::uu 23 [])))) ->c ⟨z,X++[.map 3 3 (vE l),.row 70 3 32 (d++[y]).length G ((d++[y]).map It.azR),.box 70 y.azR]⟩:=λy O c z o N=>by
  have e:d++aAk (x::f) v R=(d++[y])++aAk f v R:=by simp[aAk,O]
  rw[e]at n;have B:bT (X++[.map 3 3 (vE l),.row 70 3 32 (d++[y]).length G ((d++[y]).map It.azR)]):=cj J (by simp);refine o _ (cn [_,_] [_] B N ?_ (ih (g++[x]) (d++[y]) p (by simp;omega) n));simp only[LW,ae,ai,aG];omega
 have q:∀(m:Nat),m<=Y g->((m+1)*32<=2^47/\m+1<=maxLen):=λm Q=>by simp at j;simp[maxLen];omega
 have H:∀(y:It),d.map It.azR++[[.I y.azT,.s y.azX,.I y.id]]=(d++[y]).map It.azR:=λy=>by simp[It.azR]
 have F:∀(y:It),Y d+1=Y (d++[y]):=λy=>by simp
 refine az λc o=>?_;simp only[I9,It.azR,W,seval];refine⟨λ_=>⟨by simp;omega,?_⟩,λh=>by simp at h;omega⟩;refine al (AI x _) rfl ?_;simp only[W,seval];refine⟨λu=>?_,λu=>?_⟩
 .have E:∀s,lH (X++(.map 3 3 (vE l))::s) 0 (.mp (Y X)) (.I x.id)=kL 0 (.I x.id) (vE l) 0:=λs=>by simp only[lH,jD,aC]
  rcases Gy l x.id with⟨A,w,P⟩|⟨k,b,A,w,P⟩
  .have i:Wu v R x=none:=by simp only[Wu,u,aU,<- L x.id,A,Option.map_none]
   have e:d++aAk (x::f) v R=d++aAk f v R:=by simp[aAk,i]
   rw[e]at n;simp only[E,w,W,seval];refine⟨by simp[V.vC],?_⟩;have B:bT (X++[.map 3 3 (vE l),.row 70 3 32 d.length G (d.map It.azR)]):=cj J (by simp);refine o _ (cn [_,_] [_] B ?_ ?_ (ih (g++[x]) d p (by simp;omega) n));.rw[C];repeat' constructor
   simp only[LW,ae,ai,aG];omega
  have i:Wu v R x=some ⟨x.azT,x.azX,b⟩:=by simp only[Wu,u,aU,<- L x.id,A,dV]
  simp only[E,w,W,seval];refine⟨by simp[V.vC],⟨q _ (by rw[aa];exact D),?_⟩⟩;rw[F ⟨x.azT,x.azX,b⟩,H ⟨x.azT,x.azX,b⟩];refine put _ i o ?_;rw[C];repeat' constructor
 have i:Wu v R x=some x:=by simp only[Wu,u];rfl
 refine⟨q _ (by rw[aa];exact D),?_⟩;rw[F x,H x];refine put _ i o ?_;rw[C];repeat' constructor
def Ms(b:Y a<2^40)(h:bo a<2^40)(J:aj):bh κ 242 [.sl 3 (a.map It.azR),.sl 1 (v.map cN),.sl 1 (R.map cN)] J (.sl 3 ((rename a v R).map It.azR)):=by
 refine aW func242 aoB.2 λf d=>aq ?_;have e:=qP (d 1 _ rfl).1;have c:=qP (d 2 _ rfl).1;rw[aa]at e c;simp only[aoB,SS,seval];simp only[aa,W,seval];have g:IntKind.i64.wrap ((if((Y R:Int)<(Y v:Int))then(Y R:Int)else(Y v:Int)) - 1)=((min v.length (Y R):Nat):Int) - 1:=by rw[IntWalk.i64_in _ (by split<;>omega)];split<;>omega
 rw[g];refine cB.bX (fr':=(.sl 3 (a.map It.azR)::.sl 1 (v.map cN)::.sl 1 (R.map cN)::uu 4 (.mp (Y J)::.I (((min v.length (Y R):Nat):Int) - 1)::uu 51 []))) ?_ _ (MY _ v R e (min v.length (Y R)) [] (aM _) (λx=>by rw[Wl (aM _)];rfl) ?_);.repeat' constructor
 intro l i;simp only[JE];intros;simp only[aa,W,seval];refine cB.wk ((Wk.ph (J:=J) [_] (k:=9) NU rfl).trans (Wk.fw ?_)) (cB.kT (Y a+1) (Zl a v R l f b i a [] [] rfl (aM _) ?_));.simp only[W,seval];repeat' constructor
 simp only[JE];intros;simp only[ay,W,seval];refine tv (Y J+1) (by simp only[kO];rfl) (PF (aAk a v R) (wh (F4 _ _ _) b) (wh (DC _ _ _) h) _) (by simp[fz,kE,ev]) ?_;simp only[W,seval];exact bA f (.inr rfl) rfl (by simp[LW]) ⟨rfl,rfl⟩
def agC(A B:V)(m:bU)(k:Y m<2^40):∀(a b l:bU) (g:Nat) (f:Bool),m=b++a->Y l+Y a<2^40 ->(∀g f,((fh (A) (fh (B) (fj 4 (fh (.own X.length g) (fj 32 fo))))) λs=>K (.exit 0) ⟨s,X++[.row 3 1 8 g f ((iQ l a).map cN)]⟩)) ->gw (Y X) κ OQ K (Y a+1) ⟨(A::B::uu 4 (.own X.length g::uu 5 (.sl 1 (m.map cN)::.I (Y m)::.I (Y b)::uu 24 []))),X++[.row 3 1 8 g f (l.map cN)]⟩:=by
 intro a;induction a with
 |nil =>intro b l g f j r c;have j:=dL j;subst j;refine az λR o=>?_;simp only[OQ,W,seval];exact⟨λh=>by simp at h,λ_=>c _ _ ..⟩
 |cons x a ih =>
 intro b l g f j r c;subst j;have q:=dD b x (by simp at k;omega);have d:b++x::a=(b++[x])++a:=by simp
 refine az λR o=>?_;simp only[OQ,cN,W,seval];refine⟨λ_=>⟨by simp;omega,?_⟩,λh=>by simp at h<;>omega⟩;refine tv X.length (by simp only[jD];rfl) (KF l x _) (by simp[fz,kE,ev,cN]) ?_;simp only[W,seval];simp only[ae]at r;refine⟨λh=>⟨?_,?_⟩,λh=>?_⟩;.simp[maxLen];omega
 .have e:iQ l (x::a)=iQ (l++[x]) a:=by simp at h;simp[iQ,h]
  rw[e]at c;have t:List.map (λn=>[V.i .i64 n]) l++[[.I x]]=(l++[x]).map cN:=by simp[cN]
  refine o _ ?_;have p:l.map cN++[[.I x]]=(l++[x]).map cN:=by simp[cN]
  rw[p];refine bX ?_ (ih (b++[x]) (l++[x]) (g+1) _ d (by simp;omega) c);rw[q];repeat' constructor
 have e:iQ l (x::a)=iQ l a:=by simp at h;simp[iQ,h]
 rw[e]at c;refine o _ (bX ?_ (ih (b++[x]) l g _ d (by omega) c));rw[q];repeat' constructor
def Qz(t:List It)(f:Y a<2^39)(j:Y t<2^39)(d:bo a<2^40)(b:bo t<2^40)(J:aj):bh κ 196 [.sl 3 (a.map It.azR),.sl 3 (t.map It.azR)] J (.jg [.sl 3 ((kc a t).map It.azR),.sl 3 ((k6 a t).map It.azR)]):=by
 refine aW func196 ao2.2 λe i=>aq ?_;have l:=tP a;have m:=tP t;have h:=zq (az8 t) (az8 a);simp only[ao2,SS,seval];simp only[W,seval];refine al (Gt a (by omega) _) rfl ?_;simp only[W,seval];refine al (UR t (by omega) _) rfl ?_;simp only[aa,W,seval];refine cB.bX ?_ (Y (az8 t)+1) (agC (.sl 3 (a.map It.azR)) (.sl 3 (t.map It.azR)) (az8 t) (by omega) (az8 t) [] (az8 a) 0 G rfl (by omega) ?_);.repeat' constructor
 intro g k;simp only[JE];intros;simp only[W,seval];have c:Y (iQ (az8 a) (az8 t))<2^40:=by omega
 refine al (GX (iQ (az8 a) (az8 t)).length c _) (by simp[ev]) ?_;simp only[W,seval];refine tv J.length (by simp only[jD];rfl) (Ms a (dh a t) (eH (Y (dh a t))) (by omega) d _) (by simp[fz,kE,ev,dh]) ?_;simp only[W,seval];refine al (GX (iQ (az8 a) (az8 t)).length c _) (by simp[ev]) ?_;simp only[W,seval];refine tv J.length (by simp only[jD];rfl) (Ms t (dh a t) (eH (Y (dh a t))) (by omega) b _) (by simp[fz,kE,ev,dh]) ?_;simp only[W,seval];exact bA e (.inr rfl) rfl (by simp[LW]) ⟨rfl,rfl⟩
def adC:bh κ 282 [.i .u8 c.toNat] J (.jg [.i .u8 (mg c).1.toNat,.b (mg c).2]):=by
 refine aW func282 aof.2 λd e=>aq ?_;simp only[aof,SS,seval];simp only[W,seval];refine⟨λh=>?_,λh=>⟨λa=>?_,λa=>?_⟩⟩<;>refine bK (.inr rfl) rfl ?_;.simp at h;have:=ahE c (by omega);simp[Pm.one,this]
 .simp at a;have:=ahD c (by omega);simp[Pm.one,this]
 simp at h a;have:=alh c (by omega) (by omega);simp[Pm.one,this]
def Sa:bh κ 272 [.i .u8 c.toNat] J (.b (yB c)):=by refine aW func272 aoj.2 λd a=>aq ?_;simp only[aoj,SS,seval];simp only[W,seval];refine bV (by simp only[W,seval];rfl) (λ_=>KN c _) rfl ?_;simp only[W,seval];refine bK (.inr rfl) rfl ⟨?_,rfl⟩;simp only[Pm.one,yB,aX,bB,V.b.injEq];simp only[<- ajH];rfl
def aab:bh κ 269 [.s l] J (.jg [.i .u8 (fN l).1.toNat,.I (fN l).2.1,.b (fN l).2.2]):=by
 refine aW func269 aom.2 λu t=>aq ?_;simp only[aom,SS,seval];by_cases p:Y l<2
 .have o:decide ((Y l:Int)<2)=θ:=by simp;omega
  simp only[o,W,seval];refine bK (.inr rfl) rfl ⟨?_,rfl⟩;simp[Pm.one,fN,p]
 have o:decide ((Y l:Int)<2)=G:=by simp;omega
 have m:(0:Int)<=1/\(1:Int)<Y l:=by omega
 by_cases d:l.getD 1 0=92
 .simp only[o,Yn (k:=92) d rfl,W,Nat.reduceAdd,Nat.reduceSub,Nat.reduceLeDiff,Nat.reduceEqDiff,Int.reduceToNat,reduceIte,reduceCtorEq];repeat refine aH m ?_
  refine bK (.inr rfl) rfl ⟨?_,rfl⟩;have e:fN l=(l.getD 1 0,2,θ):=by simp[fN,p,<- List.getD_eq_getElem?_getD,d]
  rw[e];rfl
 by_cases g:l.getD 1 0=60
 .simp only[o,xx (k:=92) d rfl,Yn (k:=60) g rfl,W,Nat.reduceAdd,Nat.reduceSub,Nat.reduceLeDiff,Nat.reduceEqDiff,Int.reduceToNat,reduceIte,reduceCtorEq];repeat refine aH m ?_
  refine bK (.inr rfl) rfl ⟨?_,rfl⟩;have e:fN l=(l.getD 1 0,2,θ):=by simp[fN,p,<- List.getD_eq_getElem?_getD,d,g]
  rw[e];rfl
 by_cases a:l.getD 1 0=123
 .simp only[o,xx (k:=92) d rfl,xx (k:=60) g rfl,Yn (k:=123) a rfl,W,Nat.reduceAdd,Nat.reduceSub,Nat.reduceLeDiff,Nat.reduceEqDiff,Int.reduceToNat,reduceIte,reduceCtorEq];repeat refine aH m ?_
  refine bK (.inr rfl) rfl ⟨?_,rfl⟩;have e:fN l=(l.getD 1 0,2,θ):=by simp[fN,p,<- List.getD_eq_getElem?_getD,d,g,a]
  rw[e];rfl
 by_cases f:l.getD 1 0=110
 .simp only[o,xx (k:=92) d rfl,xx (k:=60) g rfl,xx (k:=123) a rfl,Yn (k:=110) f rfl,W,Nat.reduceAdd,Nat.reduceSub,Nat.reduceLeDiff,Nat.reduceEqDiff,Int.reduceToNat,reduceIte,reduceCtorEq];repeat refine aH m ?_
  refine bK (.inr rfl) rfl ⟨?_,rfl⟩;have e:fN l=(10,2,θ):=by simp[fN,p,<- List.getD_eq_getElem?_getD,d,g,a,f]
  rw[e];rfl
 by_cases j:l.getD 1 0=116
 .simp only[o,xx (k:=92) d rfl,xx (k:=60) g rfl,xx (k:=123) a rfl,xx (k:=110) f rfl,Yn (k:=116) j rfl,W,Nat.reduceAdd,Nat.reduceSub,Nat.reduceLeDiff,Nat.reduceEqDiff,Int.reduceToNat,reduceIte,reduceCtorEq];repeat refine aH m ?_
  refine bK (.inr rfl) rfl ⟨?_,rfl⟩;have e:fN l=(9,2,θ):=by simp[fN,p,<- List.getD_eq_getElem?_getD,d,g,a,f,j]
  rw[e];rfl
 have all:∀{c:UInt8},l.getD 1 0=c->c=120->fN l=if Y l<4 then(0,0,G)else(nw (l.getD 2 0) (l.getD 3 0),4,(mg (l.getD 2 0)).2&&(mg (l.getD 3 0)).2&&(nw (l.getD 2 0) (l.getD 3 0)==13||pP (nw (l.getD 2 0) (l.getD 3 0))==1)):=by rintro c h rfl;simp only[fN,p,h,bw];rfl
 by_cases n:l.getD 1 0=120
 .have e:=all n rfl;by_cases r:Y l<4
  .have q:decide ((Y l:Int)<4)=θ:=by simp;omega
   simp only[o,q,xx (k:=92) d rfl,xx (k:=60) g rfl,xx (k:=123) a rfl,xx (k:=110) f rfl,xx (k:=116) j rfl,Yn (k:=120) n rfl,W,Nat.reduceAdd,Nat.reduceSub,Nat.reduceLeDiff,Nat.reduceEqDiff,Int.reduceToNat,reduceIte,reduceCtorEq];repeat refine aH m ?_
   refine bK (.inr rfl) rfl ⟨?_,rfl⟩;rw[e,aQ r];rfl
  have q:decide ((Y l:Int)<4)=G:=by simp;omega
  rw[aw r]at e;simp only[o,q,xx (k:=92) d rfl,xx (k:=60) g rfl,xx (k:=123) a rfl,xx (k:=110) f rfl,xx (k:=116) j rfl,Yn (k:=120) n rfl,W,Nat.reduceAdd,Nat.reduceSub,Nat.reduceLeDiff,Nat.reduceEqDiff,Int.reduceToNat,reduceIte,reduceCtorEq];repeat refine aH m ?_
  refine⟨by omega,?_⟩;refine al (adC (l.getD 2 0) _) rfl ?_;simp only[Int.reduceToNat,W,seval];refine⟨by omega,?_⟩;refine al (adC (l.getD 3 0) _) rfl ?_;simp only[Vt,W,Nat.reduceAdd,Nat.reduceSub,Nat.reduceLeDiff,Nat.reduceEqDiff,Int.reduceToNat,reduceIte,reduceCtorEq];refine⟨by omega,?_⟩;refine bV (by simp only[W,seval];rfl) (λ_=>KN (nw (l.getD 2 0) (l.getD 3 0)) _) rfl ?_;simp only[W,seval];refine bK (.inr rfl) rfl ⟨?_,rfl⟩;rw[e];simp only[Pm.one,aX,bB];rw[<- EU];rfl
 simp only[o,xx (k:=92) d rfl,xx (k:=60) g rfl,xx (k:=123) a rfl,xx (k:=110) f rfl,xx (k:=116) j rfl,xx (k:=120) n rfl,W,Nat.reduceAdd,Nat.reduceSub,Nat.reduceLeDiff,Nat.reduceEqDiff,Int.reduceToNat,reduceIte,reduceCtorEq];repeat refine aH m ?_
 refine bK (.inr rfl) rfl ⟨?_,rfl⟩;have e:fN l=(0,0,G):=by simp[fN,p,<- List.getD_eq_getElem?_getD,d,g,a,f,j,n]
 rw[e];rfl
def ago(f:Y l<4):∀(a d:aR) (n:Int),l=d++a->0<=n->n<10^Y d ->(a.all gC=θ->((fj 4 (fh (.I (gH n a)) (fj 41 fo))) λk=>K (.exit 0) ⟨k,X⟩)) ->(a.all gC=G->((fj 2 (fh (.I 0) (fh (.b G) (fj 42 fo)))) λk=>K .ret ⟨k,X⟩)) ->gw (Y X) κ Oz K (Y a+1) ⟨(.s l::uu 3 (.I n::.I (Y d)::uu 40 [])),X⟩:=by
 intro a;induction a with
 |nil =>intro d n g t o j i;have g:=dL g;subst g;refine az λR p=>?_;simp only[Oz,W,seval];exact⟨λh=>by simp at h,λ_=>j rfl ..⟩
 |cons c a ih =>
 intro d n g t o j i;subst g;refine az λR p=>?_;simp only[Oz,W,seval];have e:gC c=!(decide ((c.toNat:Int)<48)||decide (57<(c.toNat:Int))):=by rw[eD];simp[gC];omega
 refine⟨λ_=>⟨by simp;omega,λ_=>by simp;omega,λh=>?_,λh=>⟨by simp;omega,?_⟩⟩,λh=>by simp at h<;>omega⟩;.rw[h]at e;exact i (by simp[e]) ..
 rw[h]at e;have e:gC c=θ:=e;have x:Y d<3:=by simp at f;omega
 have u:(10:Int)^Y d<=10^2:=by
  have:Y d=0\/Y d=1\/Y d=2:=by omega
  rcases this with h|h|h<;>rw[h]<;>decide
 have q:=e;simp only[gC,aZ,bE]at q;have r:n<100:=Int.lt_of_lt_of_le o (by simpa using u);have w:IntKind.i64.wrap (IntKind.i64.wrap (10*n)+IntKind.i64.wrap (IntKind.u8.wrap ((c.toNat:Int) - 48)))=10*n+(c.toNat - 48:Int):=by rw[aa4 c e,IntWalk.i64_in (10*n) (by omega),IntWalk.i64_in ((c.toNat:Int) - 48) (by omega),IntWalk.i64_in _ (by omega)]
 have v:gH n (c::a)=gH (10*n+(c.toNat - 48:Int)) a:=rfl;have m:(c::a).all gC=a.all gC:=by simp[e]
 rw[v,m]at j;rw[m]at i;refine p _ (bX ?_ (ih (d++[c]) (10*n+(c.toNat - 48:Int)) (by simp) (by omega) ?_ j i));.rw[w,da (by simp at f;omega)];simp only[ah,ae,ai];repeat' constructor
 simp only[ah,ae,ai,Int.pow_succ];omega
def Ff:bh κ 287 [.s l] J (.jg [.I (aAg l).1,.b (aAg l).2]):=by
 refine aW func287 aob.2 λm i=>aq ?_;simp only[aob,SS,seval];by_cases a:Y l<1\/3<Y l\/l.getD 0 0=48
 .have e:aAg l=(0,G):=by simp only[aAg,a,aU]
  have d:((decide ((Y l:Int)<1)||decide (3<(Y l:Int)))||(((l.getD 0 0).toNat:Int)==48))=θ:=by
   rcases a with h|h|h;.simp;omega
   .simp;omega
   rw[Yn (k:=48) h rfl];simp
  simp only[Int.reduceToNat,d,W,seval];refine⟨λh=>?_,bK (.inr rfl) rfl ⟨by rw[e];rfl,rfl⟩⟩;simp at h;omega
 have g:¬Y l<1/\¬3<Y l/\¬l.getD 0 0=48:=by refine⟨λh=>a (.inl h),λh=>a (.inr (.inl h)),λh=>a (.inr (.inr h))⟩
 have d:((decide ((Y l:Int)<1)||decide (3<(Y l:Int)))||(((l.getD 0 0).toNat:Int)==48))=G:=by rw[xx (k:=48) g.2.2 rfl];simp;omega
 simp only[d,W,seval];refine⟨λ_=>by omega,?_⟩;refine cB.bX ?_ (Y l+1) (ago l (by omega) l [] 0 rfl (mi _) (by decide) (λc=>?_) (λc=>?_));.repeat' constructor
 .simp only[JE];intros;simp only[W,seval];refine bK (.inr rfl) rfl ⟨?_,rfl⟩;have j:=KB l 0 l.length rfl c (mi _);have n:(10:Int)^Y l<=10^3:=by
   have:Y l=1\/Y l=2\/Y l=3:=by omega
   rcases this with h|h|h<;>rw[h]<;>decide
  have f:gH 0 l<=999:=by omega
  have e:aAg l=(gH 0 l,θ):=by simp only[aAg,aw a,c,aU]
  rw[e];simp[Pm.one,f]
 simp only[JE];intros;refine bK (.inr rfl) rfl ⟨?_,rfl⟩;have e:aAg l=(0,G):=by simp only[aAg,aw a,c];rfl
 rw[e];rfl
def ajM:bh κ 271 [.s l] J (.jg [.agg (lL l).1.azR,.b (lL l).2]):=by
 refine aW func271 aok.2 λg p=>aq ?_;have o:=Ld (p 0 _ rfl).1;simp only[aok,SS,seval];simp only[VV,seval];refine al (Qb l [47] _) rfl ?_;simp only[VV,seval];refine⟨λi=>?_,λi=>?_⟩
 .have A:1<=Y l:=by simp only[aAj,aZ,bE]at i;simpa using i.1
  have x:(l.drop 1).take (Y l - 1)=l.drop 1:=by rw[cx];simp
  refine⟨by omega,?_⟩;refine al (KC (l.drop 1) 58 _) (by simp only[aI,ar,VV,seval];rw[x]) ?_;simp only[VV,seval];generalize k:az2 (l.drop 1) 58=q;obtain⟨a,b,f⟩:=q;refine bV (c:=G) (v:=.b G) (by simp only[VV,seval]<;>rfl) (λh=>by simp at h) rfl ?_;simp only[VV,seval];refine al (Ff a _) rfl ?_;simp only[VV,seval];cases f with
  |false =>
   have e:lL l=(⟨0,[],0⟩,G):=by unfold lL;simp only[i,aU,k];simp
   simp only[VV,seval];rw[e];exact bA g (.inr rfl) (by simp only[RS,seval];rfl) (by simp[LW]) ⟨rfl,rfl⟩
  |true =>
  simp only[VV,seval];refine⟨λh=>?_,λh=>?_⟩
  .have h:(aAg a).2=G:=by simpa using h
   have e:lL l=(⟨0,[],0⟩,G):=by unfold lL;simp only[i,aU,k];simp[h]
   rw[e];exact bA g (.inr rfl) (by simp only[RS,seval];rfl) (by simp[LW]) ⟨rfl,rfl⟩
  have h:(aAg a).2=θ:=by simpa using h
  have e:lL l=(⟨3,b,(aAg a).1⟩,aAa b):=by unfold lL;simp only[i,aU,k];simp[h]
  rw[e];refine al (sX b _) rfl ?_;simp only[VV,seval];exact bA g (.inr rfl) (by simp only[RS,seval];rfl) (by simp[LW]) ⟨rfl,rfl⟩
 refine al (KC l 58 _) rfl ?_;simp only[VV,seval];generalize k:az2 l 58=q;obtain⟨a,b,f⟩:=q;refine bV (c:=θ) (by simp only[VV,seval]<;>rfl) (λh=>P9 b [47] _) rfl ?_;simp only[VV,seval];have j:∀(d:Int) (content:aR),d≠3->lL l=(if f&&(aAg a).2 then(⟨d,content,(aAg a).1⟩,if d=3 then aAa content else fB content)else(⟨0,[],0⟩,G)) ->
   (((f=G)\/(aAg a).2=G)->lL l=(⟨0,[],0⟩,G))/\(f=θ->(aAg a).2=θ->lL l=(⟨d,content,(aAg a).1⟩,fB content)):=by
  intro d content r e;rw[e];refine⟨?_,?_⟩;.rintro(h|h)<;>rw[h]<;>simp
  intro u n;simp[u,n,r]
 refine⟨λm=>?_,λm=>?_⟩
 .have z:1<=Y b:=by simp only[aAm,aZ,bE]at m;simpa using m.1
  have y:Y b<2^63:=by
   have:b=(az2 l 58).2.1:=by rw[k]
   have n:Y b<=Y l:=by rw[this];simp only[az2];split<;>simp
   omega
  have w:IntKind.i64.wrap ((Y b:Int) - 1)=((Y b - 1:Nat):Int):=by rw[IntWalk.i64_in _ (by omega)];omega
  have t:=j 4 (b.take (Y b - 1)) (by decide) (by unfold lL;simp[i,k,m]);simp only[w,ak,VV,seval];refine⟨by omega,?_⟩;refine al (Ff a _) rfl ?_;simp only[VV,seval];cases f with
  |false =>simp only[VV,seval];rw[t.1 (.inl rfl)];exact bA g (.inr rfl) (by simp only[RS,seval];rfl) (by simp[LW]) ⟨rfl,rfl⟩
  |true =>
  simp only[VV,seval];refine⟨λh=>?_,λh=>?_⟩
  .have h:(aAg a).2=G:=by simpa using h
   rw[t.1 (.inr h)];exact bA g (.inr rfl) (by simp only[RS,seval];rfl) (by simp[LW]) ⟨rfl,rfl⟩
  have h:(aAg a).2=θ:=by simpa using h
  rw[t.2 rfl h];refine al (uL _ _) rfl ?_;simp only[VV,seval];refine bA g (.inr rfl) (by simp only[RS,seval];rfl) (by simp[LW]) ⟨rfl,rfl⟩
 have t:=j 2 b (by decide) (by unfold lL;simp[i,k,m]);refine al (Ff a _) rfl ?_;simp only[VV,seval];cases f with
 |false =>simp only[VV,seval];rw[t.1 (.inl rfl)];exact bA g (.inr rfl) (by simp only[RS,seval];rfl) (by simp[LW]) ⟨rfl,rfl⟩
 |true =>
 simp only[VV,seval];refine⟨λh=>?_,λh=>?_⟩
 .have h:(aAg a).2=G:=by simpa using h
  rw[t.1 (.inr h)];exact bA g (.inr rfl) (by simp only[RS,seval];rfl) (by simp[LW]) ⟨rfl,rfl⟩
 have h:(aAg a).2=θ:=by simpa using h
 rw[t.2 rfl h];refine al (uL _ _) rfl ?_;simp only[VV,seval];refine bA g (.inr rfl) (by simp only[RS,seval];rfl) (by simp[LW]) ⟨rfl,rfl⟩
def VH(t:l≠[])(J:aj):bh κ 244 [.s l] J (.jg [.agg (cc l).1.azR,.I (cc l).2.1,.b (cc l).2.2]):=by
 refine aW func244 aoz.2 λi p=>aq ?_;have n:=Ld (p 0 _ rfl).1;have u:0<Y l:=fJ.2 t;have d:(0:Int)<=0/\(0:Int)<Y l:=by omega
 simp only[aoz,SS,seval];by_cases a:l.getD 0 0=92
 .have e:cc l=(⟨1,[(fN l).1],0⟩,(fN l).2.1,(fN l).2.2):=by simp only[cc,a,aU]
  rw[e];simp only[Yn (k:=92) a rfl,VV,Int.reduceBEq,Int.reduceBNe,Nat.reduceAdd,Nat.reduceSub,Nat.reduceLeDiff,Nat.reduceEqDiff,Int.reduceToNat,reduceIte,reduceCtorEq];refine⟨d,?_⟩;refine al (aab l _) rfl ?_;simp only[VV,seval];exact bA i (.inr rfl) (by simp only[RS,seval];rfl) (by simp[LW]) ⟨rfl,rfl⟩
 have r:=a;by_cases g:l.getD 0 0=60
 .simp only[xx (k:=92) a rfl,Yn (k:=60) g rfl,VV,Int.reduceBEq,Int.reduceBNe,Nat.reduceAdd,Nat.reduceSub,Nat.reduceLeDiff,Nat.reduceEqDiff,Int.reduceToNat,reduceIte,reduceCtorEq];refine⟨d,d,?_⟩;refine al (yH l 62 _) rfl ?_;have o:=pL l 62;simp only[VV,seval];refine⟨λh=>?_,λh=>?_⟩
  .have h:Lib.indexByte l 62<0:=by simpa using h
   have e:cc l=(sv,0,G):=by simp only[cc];rw[aw a,aQ g];simp only[h,aU,bw]
   rw[e];exact bA i (.inr rfl) (by simp only[RS,seval];rfl) (by simp[LW]) ⟨rfl,rfl⟩
  have h:¬Lib.indexByte l 62<0:=by simpa using h
  have q:=tr l 62 (by rw[g];decide) h;have e:cc l=((lL ((l.take (Lib.indexByte l 62).toNat).drop 1)).1,Lib.indexByte l 62+1,(lL ((l.take (Lib.indexByte l 62).toNat).drop 1)).2):=by simp only[cc];rw[aw a,aQ g];simp only[h,aU,bw]
  rw[e];refine⟨by omega,?_⟩;have j:(l.drop 1).take ((Lib.indexByte l 62).toNat - 1)=(l.take (Lib.indexByte l 62).toNat).drop 1:=by rw[amt]
  refine al (ajM _ _) (by simp only[aI,ar,VV,seval];rw[j]) ?_;simp only[It.azR,VV,seval];refine bA i (.inr rfl) (by simp only[RS,seval];rfl) (by simp[LW]) ⟨?_,rfl⟩;simp only[Pm.one,aX,bB];rw[IntWalk.i64_in _ (by omega)]
 by_cases f:l.getD 0 0=123
 .simp only[xx (k:=92) a rfl,xx (k:=60) g rfl,Yn (k:=123) f rfl,VV,Int.reduceBEq,Int.reduceBNe,Nat.reduceAdd,Nat.reduceSub,Nat.reduceLeDiff,Nat.reduceEqDiff,Int.reduceToNat,reduceIte,reduceCtorEq];refine⟨d,d,d,?_⟩;refine al (yH l 125 _) rfl ?_;have o:=pL l 125;simp only[VV,seval];by_cases h:Lib.indexByte l 125<0
  .have e:cc l=(sv,0,G):=by simp only[cc];rw[aw a,aw g,aQ f];simp only[h,true_or,aU]
   have m:decide (Lib.indexByte l 125<0)=θ:=by simpa using h
   rw[e];simp only[m,VV,seval];refine⟨λh=>by simp at h,?_⟩;refine bV (c:=G) (v:=.b G) (by simp only[VV,seval]<;>rfl) (λh=>by simp at h) rfl ?_;simp only[VV,seval];exact bA i (.inr rfl) (by simp only[RS,seval];rfl) (by simp[LW]) ⟨rfl,rfl⟩
  have m:decide (Lib.indexByte l 125<0)=G:=by simpa using h
  have q:=tr l 125 (by rw[f];decide) h;have e:cc l=if aAa ((l.take (Lib.indexByte l 125).toNat).drop 1)=G then(sv,0,G)else(⟨5,(l.take (Lib.indexByte l 125).toNat).drop 1,0⟩,Lib.indexByte l 125+1,θ):=by simp only[cc];rw[aw a,aw g,aQ f];simp only[h,pW]
  have j:(l.drop 1).take ((Lib.indexByte l 125).toNat - 1)=(l.take (Lib.indexByte l 125).toNat).drop 1:=by rw[amt]
  rw[e];simp only[m,j,VV,seval];refine⟨by omega,?_⟩;refine bV (c:=θ) (by simp only[VV,seval]<;>rfl) (λ_=>sX ((l.take (Lib.indexByte l 125).toNat).drop 1) _) rfl ?_;simp only[VV,seval];refine⟨λh=>?_,λh=>?_⟩
  .have h:aAa ((l.take (Lib.indexByte l 125).toNat).drop 1)=G:=by simpa using h
   rw[aQ h];exact bA i (.inr rfl) (by simp only[RS,seval];rfl) (by simp[LW]) ⟨rfl,rfl⟩
  have h:¬aAa ((l.take (Lib.indexByte l 125).toNat).drop 1)=G:=by simpa using h
  rw[aw h];simp only[j,VV,seval];refine⟨by omega,?_⟩;refine bA i (.inr rfl) (by simp only[RS,seval];rfl) (by simp[LW]) ⟨?_,rfl⟩;simp only[Pm.one,aX,bB];rw[IntWalk.i64_in _ (by omega)];rfl
 have e:cc l=(⟨1,l.take 1,0⟩,1,yB (l.getD 0 0)):=by simp only[cc,a,g,f,bw]
 rw[e];simp only[xx (k:=92) a rfl,xx (k:=60) g rfl,xx (k:=123) f rfl,VV,Int.reduceBEq,Int.reduceBNe,Nat.reduceAdd,Nat.reduceSub,Nat.reduceLeDiff,Nat.reduceEqDiff,Int.reduceToNat,reduceIte,reduceCtorEq];refine⟨d,d,d,by omega,d,?_⟩;refine al (Sa (l.getD 0 0) _) rfl ?_;simp only[VV,seval];exact bA i (.inr rfl) (by simp only[RS,seval];rfl) (by simp[LW]) ⟨rfl,rfl⟩
def sQ(b a:Nat)(s:Rd):aj :=[.map 3 70 (zr s.tags),.box 243 [.own (n+2) b,.own (n+3) a,.I s.len,.mp n],.row 70 3 32 b G (s.f.map It.azR),.row 5 1 1 a G (aN s.azX)]
def YL(b a:Nat)(s:Rd)(o:Ob)(x:It):aj :=[.map 3 70 (zr s.tags),.box 243 [.own (n+2) b,.own (n+3) a,.I s.len,.mp n],.row 70 3 32 b G (s.f.map It.azR),.row 5 1 1 a G (aN s.azX),o,.box 70 [.I x.azT,.s x.azX,.I x.id]]
def Tg(s:Rd)(b c:Nat)(l:Y s.f<2^40)(J ext:aj):PC κ 246 [.ptr (Y J+1) 0] (J++(sQ J.length b c s++ext)) (λr g=>r=.jg []/\∃d a,g=J++(sQ J.length d a (kr s)++ext)):=by
 refine aW func246 aox.2 λm k=>aq ?_;simp only[aox,SS,seval];simp only[sQ,W,seval];simp only[bM,iB,W,seval];refine⟨λh=>⟨?_,?_⟩,λh=>?_⟩;.simp[maxLen];omega
 .have h:0<Y s.azX:=by simpa using h
  have e:kr s=⟨s.f++[⟨1,s.azX,0⟩],[],s.len,s.tags⟩:=by simp[kr,h]
  have i:s.f.map It.azR++[[.I 1,.s s.azX,.I 0]]=(s.f++[(⟨1,s.azX,0⟩:It)]).map It.azR:=by simp[It.azR]
  rw[i];refine dS (xs:=[]) (xs':=[]) (.inl rfl) rfl (Wk.anf (id:=Y J+1) (j:=1) (idr:=Y J+3) (by simp only[W,seval];rfl) rfl (by simp only[W,seval];rfl)) rfl ⟨rfl,b+1,c+1,?_⟩;simp only[sQ,e,W,seval];rfl
 have h:¬0<Y s.azX:=by simpa using h
 have e:kr s=s:=by simp[kr,h]
 rw[e];exact dS (xs:=[]) (.inl rfl) rfl (Wk.refl _ _) rfl ⟨rfl,b,c,rfl⟩
def amq(s:Rd)(x:It)(d g:Nat)(M:Y s.f<2^40)(ht:Y s.azX+Y x.azX<2^40)(hl:s.len<2^40)(J:aj)(o:Ob):PC κ 245 [.ptr (Y J+1) 0,.agg x.azR] (J++(sQ J.length d g s++[o])) (λr H=>r=.I (nT s x).1/\∃i l,H=J++(sQ J.length i l (nT s x).2++[o])):=by
 refine aW func245 aoy.2 λE dQ=>?_;simp only[aoy,SS,seval];have hm:∀t,lH (J++(.map 3 70 (zr s.tags))::t) 0 (.mp (Y J)) (.I x.id)=kL 0 (.I x.id) (zr s.tags) 0:=λt=>by simp only[lH,jD,aC]
 refine cB.cut λR a=>?_;simp only[sQ,It.azR,aF,ay,W,seval];refine a _ ?_;clear a R;refine cB.cut λR a=>?_;simp only[W,seval];refine a _ (cB.fw (fr':=(.ptr (Y J+1) 0::uu 2 (.ptr (Y J+5) 0::.I 0::.b (tagged x)::uu 117 []))) ?_ ?_);rotate_left;.simp only[tagged];repeat' constructor
 clear a R;have C:match o with|.box _ P=>jt (Y J+5) P|_=>True:=by
  cases o<;>first|trivial|skip
  rename_i T P;refine ed.2 λj y O=>?_;have:=E (Y J+4) T P (by rw[bn (by omega),ee];rfl) j y O;simpa[sQ]using this
 have ac:∀(d g:Nat) (s:Rd),bT (J++(sQ J.length d g s++[o])):=λd g s =>
  GZ E (aM _) (by simp only[sQ,bF,ae,ai,bD,cA,cW,cK,km,aF,ay];refine⟨by simp only[LW];omega,?_⟩;cases o<;>first|trivial|exact C);have X:∀(d g:Nat) (s:Rd),bT (J++YL J.length d g s o x):=λd g s =>
  GZ E (by simp[sQ,YL]) (by simp only[YL,bF,ae,ai,bD,cA,cW,cK,km];refine⟨by simp only[LW];omega,?_,by simp only[LW]⟩;cases o<;>first|trivial|exact ed.2 λj y O=>(ed.1 C j y O).mono (by omega));have q:∀{fr:aB} {n:Nat} (e:Int) (N:Rd) (i l:Nat) {loc:aj},n<=Y J+5->nT s x=(e,N)->fr.getD 4 u=.I e->zy κ n [.t 4] (λr H=>r=.I (nT s x).1/\∃i l,H=J++(sQ J.length i l (nT s x).2++[o])) .ret ⟨fr,J++((sQ J.length i l N++[o])++loc)⟩:=by intro fr n e N i l loc hn he M;rw[<- List.append_assoc];refine dS (xs:=[.I e]) (.inr rfl) (by simp only[mS,yy,M]) (Wk.lS (by simpa[sQ]using hn) (ac _ _ _) (ed.1 (by simp[LW]))) rfl ⟨by rw[he];rfl,i,l,by rw[he]⟩
 refine cB.cut λR a=>?_;have U:∀{fr:aB} {loc:aj},rk fr (.ptr (Y J+1) 0::uu 2 (.ptr (Y J+5) 0::.I 0::.b (tagged x)::uu 117 []))->¬(tagged x&&CD s x)=θ->R ⟨fr,J++(YL J.length d g s o x++loc)⟩:=by
  intro fr loc z Q;refine a _ (cB.drop _ _ (by simp[sQ,YL]) (X d g s) z (by simp[LW,YL]) ?_);clear a R;refine cB.cut λR a=>?_;simp only[YL,W,seval];refine a _ ?_;clear a R;refine cB.cut λR a=>?_;simp only[YL,aa,bM,VV,seval];have F:∀{fr:aB},rk fr (.ptr (Y J+1) 0::uu 2 (.ptr (Y J+5) 0::.I 0::.b (tagged x)::uu 2 (.I ((Y s.f+(if 0<Y s.azX then 1 else 0):Nat):Int)::uu 114 [])))->R ⟨fr,J++YL J.length d g s o x⟩:=by
   intro fr z;refine a _ (cB.fw ?_ z);clear a R;refine cB.cut λR a=>?_;simp only[YL,aa,bM,VV,seval];have GG:∀{fr:aB},rk fr (.ptr (Y J+1) 0::uu 2 (.ptr (Y J+5) 0::.I 0::.b (tagged x)::uu 2 (.I ((qp s x:Nat):Int)::uu 114 [])))->R ⟨fr,J++YL J.length d g s o x⟩:=by
    intro fr z;refine a _ (cB.fw ?_ z);clear a R;have B:IntKind.i64.wrap ((s.len:Int)+1)=((s.len+1:Nat):Int):=da (by omega);refine cB.cut λR a=>?_;simp only[YL,B,VV,seval];refine⟨λh=>?_,λh=>?_⟩
    .have p:512<qp s x\/1024<s.len+1:=by simp at h;omega
     have e:nT s x=(3,s):=by simp only[nT,Q,p,aU];rfl
     exact q 3 s d g (loc:=[_]) (by simp[sQ]) e (by rfl)
    have p:¬(512<qp s x\/1024<s.len+1):=by simp at h;omega
    refine a _ ?_;clear a R;refine cB.cut λR a=>?_;simp only[B,VV,seval];refine a _ ?_;clear a R;refine cB.cut λR a=>?_;simp only[VV,seval];refine⟨λw=>⟨⟨by simp only[bM];omega,by simp only[bM,maxLen];omega⟩,?_⟩,λw=>?_⟩
    .have w:x.azT=1:=by simpa using w
     have e:nT s x=(0,⟨s.f,s.azX++x.azX,s.len+1,s.tags⟩):=by simp only[nT,Q,p,w,aU,bw];rfl
     rw[gp];exact q 0 ⟨s.f,s.azX++x.azX,s.len+1,s.tags⟩ d (g+1) (loc:=[_]) (by simp[sQ]) e (by rfl)
    have w:¬x.azT=1:=by simpa using w
    have e:nT s x=(0,DG (kr (uv s x)) x):=by simp only[nT,Q,p,w,aU,bw];rfl
    refine a _ (cB.fw (fr':=(.ptr (Y J+1) 0::uu 2 (.ptr (Y J+5) 0::.I 0::.b (tagged x)::uu 117 []))) ?_ (by repeat' constructor));clear a R;refine cB.cut λR a=>?_;have yi:∀{fr:aB},rk fr (.ptr (Y J+1) 0::uu 2 (.ptr (Y J+5) 0::.I 0::uu 118 []))->R ⟨fr,J++YL J.length d g (uv s x) o x⟩:=by
     intro fr z;refine a _ (cB.fw ?_ z);clear a R;refine cB.cut λR a=>?_;simp only[W,seval];refine dZ (Tg (uv s x) d g M J [o,.box 70 [.I x.azT,.s x.azX,.I x.id]]) rfl ?_;rintro r H ⟨rfl,g3,g4,rfl⟩;simp only[W,seval];refine a _ (cB.fw (fr':=(.ptr (Y J+1) 0::uu 2 (.ptr (Y J+5) 0::.I 0::uu 118 []))) ?_ (by repeat' constructor));clear a R;refine aq ?_;have ad:Y (kr (uv s x)).f<=Y s.f+1:=by simp only[kr];split<;>simp[uv]
     simp only[sQ,VV,seval];refine⟨?_,?_⟩;.simp[maxLen];omega
     have hr:(kr (uv s x)).f.map It.azR++[[.I x.azT,.s x.azX,.I x.id]]=(DG (kr (uv s x)) x).f.map It.azR:=by simp[It.azR,DG]
     rw[hr];exact q 0 (DG (kr (uv s x)) x) (g3+1) g4 (loc:=[_]) (by simp[sQ]) e (by rfl)
    cases m:tagged x with
    |true =>
     rcases Gx s.tags x.id with⟨D,A,K⟩|⟨k,b,D,A,K⟩;all_goals
      have h5:zr (uv s x).tags=zr (oN s.tags x.id x):=by simp only[uv,m,aU]
      simp only[m,A,rI,VV,seval];have h6:=K x;simp only[itV,It.azR]at h6;rw[h6,<- h5];refine⟨by simp[V.vC,V.Hm,V.pure],?_⟩;refine yi (by repeat' constructor)
    |false =>simp only[m,VV,seval];have:=yi (fr:=(.ptr (Y J+1) 0::uu 2 (.ptr (Y J+5) 0::.I 0::.b G::uu 97 (.b G::uu 19 [])))) (by repeat' constructor);simp only[uv,m]at this;exact this
   have M9:IntKind.i64.wrap (((Y s.f+(if 0<Y s.azX then 1 else 0):Nat):Int)+1)=((Y s.f+(if 0<Y s.azX then 1 else 0)+1:Nat):Int):=da (by split<;>omega);refine⟨λh=>?_,λh=>?_⟩
   .have p:x.azT≠1\/Y s.azX=0:=by simpa using h
    have e:qp s x=Y s.f+(if 0<Y s.azX then 1 else 0)+1:=by simp only[qp,p,aU]
    refine GG ?_;rw[M9,e];repeat' constructor
   have p:¬(x.azT≠1\/Y s.azX=0):=by simpa using h
   have e:qp s x=Y s.f+(if 0<Y s.azX then 1 else 0):=by simp only[qp,p,bw];rfl
   refine GG ?_;rw[e];repeat' constructor
  refine⟨λh=>?_,λh=>?_⟩
  .have p:0<Y s.azX:=by simpa using h
   refine F ?_;rw[da (by omega),aQ p];repeat' constructor
  have p:¬0<Y s.azX:=by simpa using h
  refine F ?_;rw[aw p];repeat' constructor
 have L:(tagged x&&CD s x)=θ->nT s x=(7,s):=λh=>by simp[nT,h]
 cases m:tagged x with
 |false =>simp only[m,VV,seval];exact U (loc:=[]) (by rw[m];repeat' constructor) (by simp[m])
 |true =>
 rcases Gx s.tags x.id with⟨D,A,K⟩|⟨k,b,D,A,K⟩;.simp only[m,hm,A,itV,VV,seval];refine⟨by simp[V.vC],by simp[V.vC],bV (c:=G) (v:=.s []) (by simp only[VV,seval]<;>rfl) (λh=>by simp at h) rfl ?_⟩;simp only[VV,seval];refine U (loc:=[_]) (by rw[m];repeat' constructor) (by simp[CD,D])
 simp only[m,hm,A,itV,It.azR,VV,seval];refine⟨by simp[V.vC],by simp[V.vC],bV (by simp only[VV,seval]<;>rfl) (λ_=>Hh b.azX _) rfl ?_⟩;simp only[VV,seval];have E:CD s x=(x.azT != 3||b.azT != 2||fM b.azX != x.azX):=by simp only[CD,D]
 have hb:(!fM b.azX==x.azX)=(fM b.azX != x.azX):=rfl;rw[hb,<- E];refine⟨λh=>?_,λh=>?_⟩;.exact q 7 s d g (loc:=[_,_]) (by simp[sQ]) (L (by simp[m,h])) (by rfl)
 exact U (loc:=[_]) (by rw[m];repeat' constructor) (by simp[m,h])
def aaq(a:bT X)(c b:Nat)(r:Rd):bT (X++sQ X.length c b r):=cj a (by simp only[sQ,bF,ae,ai,bD,cA,cW,cK,km];simp only[LW];omega)
def XL{J:aj}{K:bL}(s:aR)(x:bT J)(j:Y s<2^39): ∀(n:Nat) (a b:aR) (r:Rd) (d i:Nat),s=b++a->Y a<n->r.ok ->(∀u,ml n r a (Y b)=((kr u).f,0,0)->u.ok->∀d i,((fj 5 (fh (.ptr (Y J+1) 0) (fj 33 fo))) λp=>K (.exit 0) ⟨p,J++sQ J.length d i u⟩)) ->(∀o e,ml n r a (Y b)=([],o,e)->∀t,((fj 2 (fh (.nil) (fh (.I o) (fh (.I e) (fj 34 fo))))) λp=>K .ret ⟨p,J++t⟩)) ->gw (Y J) κ OP K n ⟨(.s s::uu 2 (.I (Y b)::uu 1 (.ptr (Y J+1) 0::uu 33 []))),J++sQ J.length d i r⟩
 |0,a,b,r,d,i,m,hn,hr,h1,h2=>by omega
 |n+1,[],b,r,d,i,m,hn,hr,h1,h2=>by have m:=dL m;subst m;refine az λR y=>?_;simp only[OP,W,seval];exact⟨λh=>by simp at h,λ_=>h1 r rfl hr d i ..⟩
 |n+1,c::a,b,r,d,i,m,hn,hr,h1,h2=>by
  subst m;have E:(b++c::a).drop (Y b)=c::a:=by simp
  have q:((b++c::a).drop (Y b)).take (Y (b++c::a) - Y b)=c::a:=by rw[E,cx];simp
  have l:=yR (s:=c::a) (by simp);have L:Y b+Y (c::a)<2^39:=by rw[<- List.length_append];exact j
  refine az λR y=>?_;simp only[OP,W,seval];refine⟨λ_=>⟨by simp;omega,?_⟩,λh=>by simp at h<;>omega⟩;refine al (VH (c::a) (by simp) _) (by simp only[aI,ar,ak,VV,seval];rw[q]) ?_;simp only[It.azR,VV,seval];refine⟨λh=>?_,λh=>?_⟩
  .have h:(cc (c::a)).2.2=G:=by simpa using h
   exact h2 b.length 2 (by simp only[ml,h,aU]) ..
  have h:(cc (c::a)).2.2=θ:=by simpa using h
  have B:=l.2.2 h;have O:=l.1;have ok:=hr;obtain⟨z,M,P⟩:=hr;have A:Y r.f<=r.len:=by split at z<;>omega
  refine dZ (amq r (cc (c::a)).1 d i (by omega) (by omega) (by omega) J _) rfl ?_;rintro v N ⟨rfl,F,C,rfl⟩;simp only[VV,seval];refine⟨λg=>?_,λg=>?_⟩
  .have g:(nT r (cc (c::a)).1).1≠0:=by simpa using g
   exact h2 b.length _ (by simp only[ml,h];rw[aw (by simp),aQ g]) ..
  have g:(nT r (cc (c::a)).1).1=0:=by simpa using g
  have H:=abG ok l.2.1 g;obtain⟨k,w⟩:∃k:Nat,(cc (c::a)).2.1=k:=⟨(cc (c::a)).2.1.toNat,by omega⟩;have e:ml (n+1) r (c::a) (Y b)=ml n (nT r (cc (c::a)).1).2 ((c::a).drop k) (Y (b++(c::a).take k):Nat):=by simp only[ml,h];rw[aw (by simp),aw (by simp[g]),w];simp only[ak,ah,bj];congr 1;omega
  rw[e]at h1 h2;refine y _ (cn _ _ (aaq x _ _ _) ?_ ?_ (XL _ x j n ((c::a).drop k) (b++(c::a).take k) (nT r (cc (c::a)).1).2 F C (by rw[aO,fC]) (by simp only[ca];simp at hn |-;omega) H h1 h2))
  .have D:((Y (b++(c::a).take k):Nat):Int)=(Y b:Int)+k:=by rw[ah,bj,show min k (Y (c::a))=k by omega];omega
   rw[w,IntWalk.i64_in _ (by omega),D];repeat' constructor
  simp only[LW];simp[sQ]
def abF{n:Nat}{xs:aB}{J:aj}:Wk κ n xs (J++[.map 3 70 [],.box 243 [.nil,.nil,.I 0,.mp (Y J)]]) xs (J++sQ J.length 0 0 IG):=by have b:=Wk.tV (P:=κ) (n:=n) (xs:=xs) (id:=Y J+1) (j:=0) (J:=J++[.map 3 70 [],.box 243 [.nil,.nil,.I 0,.mp (Y J)]]) NU (by simp only[W,seval];rfl) rfl;simp only[W,seval]at b;have a:=Wk.tV (P:=κ) (n:=n) (xs:=xs) (id:=Y J+1) (j:=1) (J:=J++[.map 3 70 [],.box 243 [.own (Y J+2) 0,.nil,.I 0,.mp (Y J)],.row 70 3 32 0 G []]) aa6 (by simp only[W,seval];rfl) rfl;simp only[W,seval]at a;exact b.trans a
def sV(a:Y l<2^39)(J:aj):bh κ 197 [.s l] J (.jg [.sl 3 ((parse l).1.map It.azR),.I (parse l).2.1,.I (parse l).2.2]):=by
 refine aW func197 ao1.2 λc n=>aq ?_;simp only[ao1,SS,seval];simp only[VV,seval];have g:parse l=ml (Y l+1) IG l (Y ([]:aR):Nat):=rfl;refine cB.wk (abF.trans (Wk.fw (ys:=(.s l::uu 2 (.I (Y ([]:aR):Nat)::uu 1 (.ptr (Y J+1) 0::uu 33 [])))) (by repeat' constructor))) (cB.kT (Y l+1) (XL l c a (Y l+1) l [] IG 0 0 rfl (by omega) ⟨by simp[IG],by simp[IG],by simp[IG]⟩ ?_ ?_))
 .intro i d h m j;simp only[JE];intros;simp only[W,seval];refine dZ (Tg i m j (by have:=h.f;have:=h.len;split at*<;> omega) J []) (by simp[ev]) ?_;rintro r p ⟨rfl,q,o,rfl⟩;simp only[sQ,bI,W,seval];refine iw 2 c (.inr rfl) rfl rfl ?_ ?_;.simp[fz,kE,jt,Az,akj]
  rw[g,d];simp[fz,kE,Pm.one]
 intro b e d k;simp only[JE];intros;simp only[W,seval];refine gx c (.inr rfl) rfl (ys:=[.sl 3 [],.I b,.I e]) (.cons (.nil _) (.cons (.refl _) (.cons (.refl _) .nil))) (by simp[LW]) ⟨?_,rfl⟩;rw[g,d];rfl
end Go.Proofs.Tryz

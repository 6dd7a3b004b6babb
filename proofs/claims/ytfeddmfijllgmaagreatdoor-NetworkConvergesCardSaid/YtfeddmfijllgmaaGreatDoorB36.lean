/- A part of a proof; the claim's last text says of what. -/
import Derived.Test.YtfeddmfijllgmaaGreatDoorB35
set_option linter.all false
set_option maxHeartbeats 4000000
open Bool renaming true->θ,false->G
open Go.Proofs.Tryz renaming prog->κ
open List renaming length->Y

namespace Go.Proofs.Tryz
open Go Go.Pm Go.Bt
variable(o:bO)(J:aj)(k:Int)(Q:Net){m n:Int}{T:List aV}{R a b P:Nat}{c:Nat->Nat}{x:aV}{U:aj}{X:bO}
def AD(t:aR)(J:aj):bh κ 36 [.s t] J (.agg (BZ [97] t).azR):=by refine aW func36 p36.2 λa b=>aq ?_;simp only[p36,SS,seval];simp only[VV,seval];refine gx (xs:=[.agg [.lit 3 [[.I 1,.s [97],.I 0]],.lit 3 [[.I 1,.s t,.I 0]],.s [],.s [],.s [],.s [],.I 0,.I 1]]) (ys:=[.agg (BZ [97] t).azR]) a (.inr rfl) (by simp only[RS,seval]) (.cons (.iV ?_) .nil) (by simp only[En.azR,LW]) ⟨rfl,rfl⟩;exact .cons (.lit _ _) (.cons (.lit _ _) (.cons (.refl _) (.cons (.refl _) (.cons (.refl _) (.cons (.refl _) (.cons (.refl _) (.cons (.refl _) .nil)))))))
def n1:Net:=⟨[xb 0,xb 1],[],[]⟩
def VK:gf Q 0=.jg [.agg [.sl 6 (Q.an.map bO.azR),.sl 15 (Q.ax.map Let.azR),.sl 2 (Q.cw.map cF)],.I 0]:=rfl
def agf:bh κ 15 [.I 2] J (.jg [.agg n1.azR,.I 0]):=sW 2 (by decide) (by decide) J
def Bq(a:List bO)(b:gh)(h:∀o∈a,o.azU)(d:Y a<2^30)(e:Y b<2^30):Net.azU ⟨a,[],b⟩:=⟨h,d,(λx c=>by cases c),(by show(0:Nat)<2^30;decide),e⟩
def n2:Net:=⟨[xb 0,xb 1],[],[gj 1 0]⟩
def n3:Net:=⟨[P0,xb 1],[],[gj 1 0]⟩
def n4:Net:=⟨[P0,P1],[],[gj 1 0]⟩
def acy:n1.azU:=Bq _ _ (by simp[qB]) (by decide) (by decide)
def acx:n2.azU:=Bq _ _ (by simp[qB]) (by decide) (by decide)
def acw:n3.azU:=Bq _ _ (by simp[qB,KW]) (by decide) (by decide)
def JH:n4.azU:=Bq _ _ (by simp[KW,TQ]) (by decide) (by decide)
def as8:bh κ 18 [.agg n1.azR,.agg (Ev.azR ⟨7,1,0,0,zEn⟩)] J (gf n2 0):=arP n1 acy 1 0 (by decide) (by decide) (by decide) rfl zEn J
def akP:bh κ 18 [.agg n2.azR,.agg (Ev.azR ⟨1,0,0,0,BZ [97] [120]⟩)] J (gf n3 0):=Nw n2 acx 0 (xb 0) P0 nX rfl _ arV J
def akO:bh κ 18 [.agg n3.azR,.agg (Ev.azR ⟨1,1,0,0,BZ [97] [121]⟩)] J (gf n4 0):=Nw n3 acw 1 (xb 1) P1 nY rfl _ arU J
def aqG:bh κ 18 [.agg n4.azR,.agg (Ev.azR ⟨3,0,1,0,zEn⟩)] J (gf Net.zero 8):=aim n4 JH 0 1 (by decide) P0 P1 rfl rfl rfl rfl (by decide) zEn J
def ahh:bh κ 21 [.agg n4.azR] J (.agg JC.azR):=by have:=xy asX n4 JH (by intro o a;simp only[n4,bd,bD,mZ]at a;rcases a with rfl|rfl;exact aeU;exact aeT) (by decide) (λx b=>by cases b) J;rwa [show NS.settle n4=JC.an from afs]at this
def akN:bh κ 23 [.agg n4.azR] J (.b G):=by have:=EF n4 (by decide) JH.aK (by simp[n4]) J;rwa [show FZ n4.an=G from ajQ]at this
def akM:bh κ 23 [.agg JC.azR] J (.b θ):=by have:=EF JC (by decide) (λo a=>(Sv o a).azU) (by simp[JC]) J;rwa [ajP]at this
def amR{b a:Int}:rk [.I m,.I n,.I b,.I a,.nil,.nil,.s [],.s [],.s [],.s [],.I 0,.I 0] (Ev.azR ⟨m,n,b,a,zEn⟩):=by simp only[Ev.azR,En.azR,zEn,ar];repeat first|exact .nil|refine .cons (.refl _) ?_|refine .cons (.nil _) ?_
def Ax:bO:={ Q0 with aAe:=Q0.log.length }
def ki:bh κ 10 [] J (.b θ):=by refine aW func10 p10.2 λi j=>aq ?_;simp only[p10,SS,seval];simp only[VV,seval];refine al (agf _) rfl ?_;simp only[Net.azR,VV,seval];refine iN (zs:=[.agg n1.azR,.agg (Ev.azR ⟨7,1,0,0,zEn⟩)]) (.cons (.refl _) (.cons (Cv.iV amR) .nil)) (as8 _) ?_;simp only[VK,VV,seval];refine vY rfl (by kernel_rfl) (AD [120] _) rfl ?_;simp only[En.azR,VV,seval];refine al (akP _) rfl ?_;simp only[VK,VV,seval];refine vY rfl (by kernel_rfl) (AD [121] _) rfl ?_;simp only[En.azR,VV,seval];refine al (akO _) rfl ?_;simp only[VK,VV,seval];refine iN (zs:=[.agg n4.azR,.agg (Ev.azR ⟨3,0,1,0,zEn⟩)]) (.cons (.refl _) (.cons (Cv.iV amR) .nil)) (aqG _) ?_;simp only[gf,Net.zero,Net.azR,VV,seval];refine al (ahh _) rfl ?_;simp only[Net.azR,VV,seval];refine bV (c:=θ) (by simp only[VV,seval]<;>rfl) (λ_=>akN _) rfl ?_;have e:(G==θ)=G:=rfl;have g:(θ==θ)=θ:=rfl;have a:JC.an.length=2:=rfl;have h:(JC.an.map bO.azR).getD 0 []=[.I Ax.azW,.I Ax.az5,.sl 13 (Ax.azS.map aV.azR),.sl 1 (aN Ax.log),.I Ax.aAe,.b Ax.down]:=rfl;simp only[g,e,a,h,aa,VV,seval];refine bV (c:=θ) (by simp only[VV,seval]<;>rfl) (λ_=>akM _) rfl ?_;simp only[g,e,a,h,aa,VV,seval];refine⟨_,rfl,?_⟩;have f:Ax.azU:=(Sv Ax (by simp[JC,Ax])).azU;have d:Ax.azS=[nX,nY]:=rfl;refine bV (c:=θ) (by simp only[VV,seval]<;>rfl) (λ_=>vl Ax f _) rfl ?_;simp only[g,e,d,VV,seval];refine BL (c:=θ) (v:=.agg (BZ [97] [121]).azR) (by simp only[VV,seval]<;>rfl) (λ_=>⟨_,_,rfl,by kernel_rfl,AD [121] _⟩) ?_;simp only[En.azR,V.pure,VV,seval];refine bV (c:=θ) (by simp only[VV,seval]<;>rfl) (λ_=>PC.wk (args':=[.sl 8 ((dw [nX,nY]).map En.azR),.sl 8 ([BZ [97] [121]].map En.azR)]) (Wk.fw (.cons (.refl _) (.cons (.lit _ _) .nil))) (rH (dw [nX,nY]) [BZ [97] [121]] _)) rfl ?_;simp only[aqt,VV,seval];exact gm i (by rfl) (by simp[LW])
open Go.RowKit
def xQ(e:En)(a:bU):aV:=⟨⟨o.az5+1,o.azW,ox a o.azW+1⟩,k,e,a⟩
def acE(e:En)(w:e.azU)(f:o.azU)(n:o.down=G)(c:Nat->Nat)(u:s9 o.azS c)(b:bU)(l:u9 (ly c) []=b)(A:ox b o.azW<128)(h0:0<=o.az5)(i:o.az5<2^30)(m:Nat) (d:(xQ o k e b).azU) (r:fc (xQ o k e b)=0) (v:Y (dJ (xQ o k e b))<=60000) (s:Y o.log<=4000000) (t:m<=Y o.azS) (h1:∀(a:Nat) (y:aV),o.azS[a]?=some y->(0<=dH y (xQ o k e b)<->m<=a)) (J:aj) : bh κ 150 [.agg o.azR,.I k,.agg e.azR] J (.jg [.agg (rR o (xQ o k e b) m).azR,.agg (xQ o k e b).azR,.I 0]):=by
 refine aW func150 af1.2 λi x=>aq ?_;have z:=Wh b o.azW;have q:IntKind.i64.wrap (o.az5+1)=o.az5+1:=IntWalk.i64_in _ (by omega);have p:IntKind.i64.wrap (ox b o.azW+1)=ox b o.azW+1:=IntWalk.i64_in _ (by omega);have j:(decide (128<=ox b o.azW)||decide (1073741824<=o.az5))=G:=by simp;omega
 have g:Y (ku o (xQ o k e b) m).log<2^40:=by simp only[ku,ah,kq];omega
 simp only[af1,SS,seval];simp only[bO.azR,En.azR,VV,seval];refine al (N4 o f n c u _) (by simp only[bO.azR,VV,seval]) ?_;simp only[l,VV,seval];refine al (sL b o.azW _) rfl ?_;simp only[q,p,VV,seval];refine⟨λh=>(by rw[j]at h;cases h),λ_=>?_⟩;refine al (Fe o (xQ o k e b) m f d r v s t h1 _) (by simp only[bO.azR,aV.azR,cL.azR,En.azR,xQ,VV,seval]) ?_;simp only[bO.azR,VV,seval];refine al (sK (xQ o k e b) d _) (by simp only[aV.azR,cL.azR,En.azR,xQ,VV,seval]) ?_;simp only[aV.azR,cL.azR,En.azR,bM,VV,seval];refine bA i (.inr rfl) (by simp only[RS,seval];rfl) (by simp[LW]) ⟨rfl,rfl⟩
def Oa(e:En)(b:o.down=θ)(J:aj):bh κ 97 [.agg o.azR,.agg e.azR] J (gZ bO.zero nG 15):=by refine aW func97 p97.2 λa c=>aq ?_;simp only[p97,SS,seval];simp only[bO.azR,En.azR,b,VV,seval];exact gx a (.inr rfl) (by simp only[RS,seval]) (.cons (Cv.iV (zz 0)) (.cons (Cv.iV op0) (.cons (.refl _) .nil))) (by simp only[bO.azR,aV.azR,cL.azR,En.azR,aF,ay,LW]) ⟨rfl,rfl⟩
def Lr(e:En)(b:o.down=θ)(J:aj):bh κ 51 [.agg o.azR,.agg e.azR] J (gZ bO.zero nG 15):=by refine aW func51 p51.2 λa c=>aq ?_;simp only[p51,SS,seval];simp only[bO.azR,En.azR,b,VV,seval];exact gx a (.inr rfl) (by simp only[RS,seval]) (.cons (Cv.iV (zz 0)) (.cons (Cv.iV op0) (.cons (.refl _) .nil))) (by simp only[bO.azR,aV.azR,cL.azR,En.azR,aF,ay,LW]) ⟨rfl,rfl⟩
def IC(e:En)(f:o.azU)(k:∀x∈o.azS,fc x=0)(d:(aAd e).azU)(l:dx (aAd e)=0)(b:o.down=G) (h0:find (dw o.azS) (gT (aAd e))<0->X=bO.zero/\x=nG/\m=6) (a:0<=find (dw o.azS) (gT (aAd e))->∀J,bh κ 150 [.agg o.azR,.I 2,.agg (sg e).azR] J (gZ X x m)) (J:aj) : bh κ 97 [.agg o.azR,.agg e.azR] J (gZ X x m):=by
 refine aW func97 p97.2 λg p=>aq ?_;have q:=rQ k;have n:∀y∈dw o.azS,y.azU:=λy i=>by simp only[dw,cv,eB]at i;obtain⟨X,⟨j,_⟩,rfl⟩:=i;exact(f.azS X (rh j)).azV
 simp only[p97,SS,seval];have c:=Fj o f b;simp only[bO.azR,En.azR,b,VV,seval]at a c |-;refine al (lQ (aAd e) d _) (by simp only[aAd,En.azR,VV,seval]) ?_;simp only[l,VV,seval];refine al (c _) rfl ?_;simp only[VV,seval];refine al (MW (aAd e) d _) (by simp only[aAd,En.azR,VV,seval]) ?_;simp only[VV,seval];refine al (U2 _ n _ _) rfl ?_;simp only[VV,seval];refine⟨λh=>?_,λh=>?_⟩;.obtain⟨rfl,rfl,rfl⟩:=h0 (by simpa using h);exact gx g (.inr rfl) (by simp only[RS,seval]) (.cons (Cv.iV (zz 0)) (.cons (Cv.iV op0) (.cons (.refl _) .nil))) (by simp only[bO.azR,aV.azR,cL.azR,En.azR,aF,ay,LW]) ⟨rfl,rfl⟩
 have a:=a (by simpa using h);simp only[sg,ar]at a;refine iN (.cons (.refl _) (.cons (.refl _) (.cons (Cv.iV (.cons (.refl _) (.cons (.nil 3) (.cons (.refl _) (.cons (.refl _) (.cons (.refl _) (.cons (.refl _) (.cons (.refl _) (.cons (.refl _) .nil))))))))) .nil))) (a _) ?_;simp only[gZ,bO.azR,aV.azR,cL.azR,En.azR,aF,ay,VV,seval];exact bA g (.inr rfl) (by simp only[RS,seval];rfl) (by simp[LW]) ⟨rfl,rfl⟩
def F7(e:En)(d:o.azU)(k:∀x∈o.azS,fc x=0)(c:(aAd e).azU)(l:dx (aAd e)=0)(i:o.down=G) (h0:find (dw o.azS) (gT (aAd e))<0->X=bO.zero/\x=nG/\m=6) (a:0<=find (dw o.azS) (gT (aAd e))->∀J,bh κ 100 [.agg o.azR,.I 2,.agg (sg e).azR] J (gZ X x m)) (J:aj) : bh κ 51 [.agg o.azR,.agg e.azR] J (gZ X x m):=by
 refine aW func51 p51.2 λf q=>aq ?_;have p:=rQ k;have n:∀y∈dw o.azS,y.azU:=λy g=>by simp only[dw,cv,eB]at g;obtain⟨X,⟨j,_⟩,rfl⟩:=g;exact(d.azS X (rh j)).azV
 have b:=wz e;simp only[p51,SS,seval];simp only[bO.azR,En.azR,i,VV,seval]at a b |-;refine al (b _) rfl ?_;simp only[VV,seval];refine al (lN (aAd e) c _) (by simp only[En.azR,VV,seval]) ?_;simp only[l,VV,seval];refine al (vo o.azS d.azS _) rfl ?_;simp only[VV,seval];refine al (b _) rfl ?_;simp only[VV,seval];refine al (uX (aAd e) c _) (by simp only[En.azR,VV,seval]) ?_;simp only[VV,seval];refine al (My _ p n _ _) rfl ?_;simp only[VV,seval];refine⟨λh=>?_,λh=>?_⟩;.obtain⟨rfl,rfl,rfl⟩:=h0 (by simpa using h);exact gx f (.inr rfl) (by simp only[RS,seval]) (.cons (Cv.iV (zz 0)) (.cons (Cv.iV op0) (.cons (.refl _) .nil))) (by simp only[bO.azR,aV.azR,cL.azR,En.azR,aF,ay,LW]) ⟨rfl,rfl⟩
 have a:=a (by simpa using h);simp only[sg,ar]at a;refine iN (.cons (.refl _) (.cons (.refl _) (.cons (Cv.iV (.cons (.refl _) (.cons (.nil 3) (.cons (.refl _) (.cons (.refl _) (.cons (.refl _) (.cons (.refl _) (.cons (.refl _) (.cons (.refl _) .nil))))))))) .nil))) (a _) ?_;simp only[gZ,bO.azR,aV.azR,cL.azR,En.azR,aF,ay,VV,seval];exact bA f (.inr rfl) (by simp only[RS,seval];rfl) (by simp[LW]) ⟨rfl,rfl⟩
def agk(h:HD m T)(g:0<=m/\m<8)(p:Y T<=180)(l:s9 (ej T) c)(f:c m.toNat=su m T)(a:Int)(e:En)(j:e.azU)(d:V6 (qm m T a e c))(o:su m T<128)(k:kj T<2^30)(J:aj): bh κ 150 [.agg (gL m T R).azR,.I a,.agg e.azR] J (gZ (gL m (T++[qm m T a e c]) (Y T+1)) (qm m T a e c) 0):=by
 have b:xQ (gL m T R) a e (tG c)=qm m T a e c:=by simp only[xQ,qm,gL,Iv c g,f]
 have n:=yb h.op;have i:=Sb h (qm m T a e c);have:=acE (gL m T R) a e j (wG h (by omega)) rfl c l (tG c) rfl (by simp only[gL];rw[Iv c g];omega) (yY λx d=>(h.op x d).ok).1 k (pt (ej T) (qm m T a e c))
  (by rw[b];exact d.azU) (by rw[b];exact d.ok) (by rw[b];exact cE d.enc (by decide)) (by simp only[gL];omega) i.1 (by rw[b];exact i.2) J;rw[b]at this;rwa [rR,Jx]at this
def oV(e:En):Nat:=Y e.azZ+Y e.az0+Y e.cM+Y e.next+bo e.azZ+bo e.az0
def acu(h:HD m T)(b:0<=m/\m<8)(a:∀o:Nat,o<8->c o<=128)(d:c m.toNat=su m T)(y:su m T<128)(z:kj T<2^30){e:En}(q:n=1/\dx e=0\/n=2/\pz e=θ/\dx (aAd e)=0)(j:e.azU)(g:Y e.eu<2^30/\Y e.dC<2^30)(t:oV e<300):V6 (qm m T n e c):=by
 obtain⟨k,u,v⟩:=abu c a;have w:=(yY λx r=>(h.op x r).ok).1;have i:(tG c).any (λm=>decide (128<m))=G:=by rw[aaJ];intro m b;have:=u m b;simp;omega
 have s:k8 ⟨kj T+1,m,(su m T:Int)+1⟩=θ:=by simp only[k8,bE];omega
 have p:ox (tG c) m=(su m T:Int)+1 - 1:=by rw[Iv c b,d];omega
 have f:fc (qm m T n e c)=0:=by
  simp only[fc,qm,s,k,i,p,aAi];rcases q with⟨rfl,h⟩|⟨rfl,l,h⟩;.simpa using h
  simpa[l]using h
 refine⟨f,⟨j,g.1,g.2,by simp only[qm];omega⟩,abl f ?_⟩;simp only[abm,qm];simp only[oV]at t;omega
def NK(e:En):pz (sg e)=θ/\aAd (sg e)=aAd e:=⟨rfl,rfl⟩
def V1{e:En}(a:e.azU):(sg e).azU/\(aAd e).azU:=by
 refine⟨⟨a.azZ,a.lC,by simp[sg],by simp[sg,bo],a.cM,a.next,λx b=>a.ids x ?_⟩,⟨a.azZ,a.lC,a.azZ,a.lC,a.cM,a.next,λx b=>a.ids x ?_⟩⟩;.simp only[sg,bI]at b;exact fv _ b
 simp only[aAd,bW,or_self]at b;exact fv _ b
def KH(e:En)(b:e.azU)(f:dx e=0)(c:o.down=G)(a:∀J,bh κ 150 [.agg o.azR,.I 1,.agg e.azR] J (gZ X x m))(J:aj): bh κ 96 [.agg o.azR,.agg e.azR] J (gZ X x m):=by refine aW func96 p96.2 λd g=>aq ?_;simp only[p96,SS,seval];simp only[bO.azR,En.azR,c,VV,seval]at a |-;refine al (lQ e b _) (by simp only[En.azR,VV,seval]) ?_;simp only[f,VV,seval];refine al (a _) rfl ?_;simp only[gZ,bO.azR,aV.azR,cL.azR,En.azR,aF,ay,VV,seval];exact bA d (.inr rfl) (by simp only[RS,seval];rfl) (by simp[LW]) ⟨rfl,rfl⟩
def Tw(e:En)(d:e.azU)(c:dx e≠0)(f:o.down=G)(J:aj):bh κ 96 [.agg o.azR,.agg e.azR] J (gZ bO.zero nG (dx e)):=by
 refine aW func96 p96.2 λb g=>aq ?_;have a:(dx e != 0)=θ:=by simpa using c
 simp only[p96,SS,seval];simp only[bO.azR,En.azR,f,VV,seval];refine al (lQ e d _) (by simp only[En.azR,VV,seval]) ?_;simp only[a,VV,seval];exact gx b (.inr rfl) (by simp only[RS,seval]) (.cons (Cv.iV (zz 0)) (.cons (Cv.iV op0) (.cons (.refl _) .nil))) (by simp only[bO.azR,aV.azR,cL.azR,En.azR,aF,ay,LW]) ⟨rfl,rfl⟩
def Ol(e:En)(d:e.azU)(c:dx e≠0)(f:o.down=G)(J:aj):bh κ 49 [.agg o.azR,.agg e.azR] J (gZ bO.zero nG (dx e)):=by
 refine aW func49 p49.2 λb g=>aq ?_;have a:(dx e != 0)=θ:=by simpa using c
 simp only[p49,SS,seval];simp only[bO.azR,En.azR,f,VV,seval];refine al (lN e d _) (by simp only[En.azR,VV,seval]) ?_;simp only[a,VV,seval];exact gx b (.inr rfl) (by simp only[RS,seval]) (.cons (Cv.iV (zz 0)) (.cons (Cv.iV op0) (.cons (.refl _) .nil))) (by simp only[bO.azR,aV.azR,cL.azR,En.azR,aF,ay,LW]) ⟨rfl,rfl⟩
def Rr(e:En)(b:(aAd e).azU)(d:dx (aAd e)≠0)(f:o.down=G)(J:aj):bh κ 97 [.agg o.azR,.agg e.azR] J (gZ bO.zero nG (dx (aAd e))):=by
 refine aW func97 p97.2 λc g=>aq ?_;have a:(dx (aAd e) != 0)=θ:=by simpa using d
 simp only[p97,SS,seval];simp only[bO.azR,En.azR,f,VV,seval];refine al (lQ (aAd e) b _) (by simp only[aAd,En.azR,VV,seval]) ?_;simp only[a,VV,seval];exact gx c (.inr rfl) (by simp only[RS,seval]) (.cons (Cv.iV (zz 0)) (.cons (Cv.iV op0) (.cons (.refl _) .nil))) (by simp only[bO.azR,aV.azR,cL.azR,En.azR,aF,ay,LW]) ⟨rfl,rfl⟩
def Oh(e:En)(c:(aAd e).azU)(g:dx (aAd e)≠0)(d:o.down=G)(J:aj):bh κ 51 [.agg o.azR,.agg e.azR] J (gZ bO.zero nG (dx (aAd e))):=by
 refine aW func51 p51.2 λf h=>aq ?_;have b:(dx (aAd e) != 0)=θ:=by simpa using g
 have a:=wz e;simp only[p51,SS,seval];simp only[bO.azR,En.azR,d,VV,seval]at a |-;refine al (a _) rfl ?_;simp only[VV,seval];refine al (lN (aAd e) c _) (by simp only[En.azR,VV,seval]) ?_;simp only[b,VV,seval];exact gx f (.inr rfl) (by simp only[RS,seval]) (.cons (Cv.iV (zz 0)) (.cons (Cv.iV op0) (.cons (.refl _) .nil))) (by simp only[bO.azR,aV.azR,cL.azR,En.azR,aF,ay,LW]) ⟨rfl,rfl⟩
def Made(W:List aV)(n:Int)(o:bO)(d:Int)(e:En)(b:bO)(x:aV):Prop :=∃a k c,Kn W n a/\o=gL n a k/\x=qm n a d e c/\b=gL n (a++[x]) (Y a+1)/\V6 x
def Made.ok{W:List aV}{b:bO}{l:Int}{e:En}(f:Pl m W)(i:n<m)(g:W.length<100)(h:Made W n X l e b x):
  x.aY.bS=n/\Pl m (W++[x])/\GO (W++[x]) n b:=by obtain⟨j,k,c,a,rfl,rfl,rfl,d⟩:=h;have o:=a.clk f;exact⟨rfl,f.snoc d i (a.fresh rfl rfl) (by simp only[qm];omega) g,_,a.make d rfl rfl,.inl ⟨_,by simp,by simp,rfl⟩⟩
def Kx{W a:List aV}{k:Nat}(p:Pl m W)(h:Kn W n a)(y:0<=n/\n<m/\m<=8)(d:Int)(e:En)(q:d=1/\dx e=0\/d=2/\pz e=θ/\dx (aAd e)=0)(l:e.azU)(s:Y e.eu<2^30/\Y e.dC<2^30)(r:oV e<300): ∃j x,(∀J,bh κ 150 [.agg (gL n a k).azR,.I d,.agg e.azR] J (gZ j x 0)) /\(∀J,bh κ 100 [.agg (gL n a k).azR,.I d,.agg e.azR] J (gZ j x 0))/\Made W n (gL n a k) d e j x:=by
 have b:0<=n/\n<8:=by omega
 obtain⟨c,o,f,g⟩:=Nz h.base b;have t:=h.len;have u:=p.len;have v:=h.clk p;have w:su n a<=Y a:=kW _ _;have i:=acu h.base b f g (by omega) (by omega) q l s r;exact⟨_,_,agk h.base b (by omega) o g d e l i (by omega) (by omega),akc h.base b (by omega) o f d e i (by omega) (by omega),a,k,c,h,rfl,rfl,rfl,i⟩
def Tm{W:List aV}(s:Pl m W)(h:GO W n X)(r:0<=n/\n<m/\m<=8)(e:En)(b:e.azU)(o:oV e<300): ∃c x d,(∀J,bh κ 96 [.agg X.azR,.agg e.azR] J (gZ c x d)) /\(∀J,bh κ 49 [.agg X.azR,.agg e.azR] J (gZ c x d))/\(d=0->Made W n X 1 e c x):=by
 obtain⟨q,g,⟨k,j,p,rfl⟩|⟨t,j,p,rfl⟩⟩:=h
 .by_cases a:dx e=0;.have u:=xP (oo a).eu;have v:=xP (oo a).dC;obtain⟨c,x,f,l,i⟩:=Kx (k:=k) s g r 1 e (.inl ⟨rfl,a⟩) b (by omega) o;exact⟨c,x,0,KH _ _ b a rfl f,F9 _ _ b a rfl l,λ_=>i⟩
  exact⟨_,_,_,Tw _ _ b a rfl,Ol _ _ b a rfl,λh=>absurd h a⟩
 exact⟨_,_,_,Qs _ _ rfl,Lv _ _ rfl,λh=>by simp at h⟩
def Tl{W:List aV}(i:Pl m W)(h:GO W n X)(z:0<=n/\n<m/\m<=8)(e:En)(p:e.azU)(w:oV e<300): ∃c x j,(∀J,bh κ 97 [.agg X.azR,.agg e.azR] J (gZ c x j)) /\(∀J,bh κ 51 [.agg X.azR,.agg e.azR] J (gZ c x j))/\(j=0->Made W n X 2 (sg e) c x):=by
 have d:=h.azU i;obtain⟨o,b⟩:=V1 p;have f:∀x∈X.azS,fc x=0:=λx u=>(i.op x (h.azS.1 x u)).ok;obtain⟨g,r,⟨k,t,y,rfl⟩|⟨A,t,y,rfl⟩⟩:=h
 .by_cases a:dx (aAd e)=0
  .by_cases l:find (dw (gL n g k).azS) (gT (aAd e))<0;.exact⟨bO.zero,nG,6,IC _ _ d f b a rfl (λ_=>⟨rfl,rfl,rfl⟩) (λh=>by omega),F7 _ _ d f b a rfl (λ_=>⟨rfl,rfl,rfl⟩) (λh=>by omega),λh=>by simp at h⟩
   obtain⟨c,x,q,v,s⟩:=Kx (k:=k) i r z 2 (sg e) (.inr ⟨rfl,(NK e).1,by rw[(NK e).2];exact a⟩) o (by simp[sg]) (by simp only[oV,sg,ai,bo]at w |-;omega);exact⟨c,x,0,IC _ _ d f b a rfl (λh=>absurd h l) (λ_=>q),F7 _ _ d f b a rfl (λh=>absurd h l) (λ_=>v),λ_=>s⟩
  exact⟨_,_,_,Rr _ _ b a rfl,Oh _ _ b a rfl,λh=>absurd h a⟩
 exact⟨_,_,_,Oa _ _ rfl,Lr _ _ rfl,λh=>by simp at h⟩
def r7{W:List aV}(b:Pl m W)(h:GO W n X): (∀J,bh κ 62 [.agg X.azR] J (fm (yq X).1 (yq X).2))/\(∀J,bh κ 54 [.agg X.azR] J (fm (yq X).1 (yq X).2)):=by cases a:X.down with|true=>rw[yq,a];exact⟨Yu X a,UG X a⟩|false=>rw[yq,a];exact⟨Wo X (h.azU b) a,abI X a⟩
def nA{W:List aV}(f:Pl m W)(h:GO W n X): (∀J,bh κ 59 [.agg X.azR] J (fm (QF W X).1 (QF W X).2))/\(∀J,bh κ 56 [.agg X.azR] J (fm (QF W X).1 (QF W X).2)):=by
 rcases vi h with⟨a,e⟩|⟨a,d,b,⟨g,c,i,rfl⟩,e⟩;.rw[e];exact⟨ID X a,Rw X a⟩
 rw[e];have j:=b.len;have k:=f.len;exact⟨Ux b.base (by omega) c (by omega),Rx b.base (by omega) c (by omega)⟩
def aaa{W:List aV}(g:Pl m W)(h:GO W n X)(eY:Int): (∀J,bh κ 98 [.agg X.azR,.I eY] J (.agg (r8 X eY).azR)) /\(∀J,bh κ 55 [.agg X.azR,.I eY] J (.agg (r8 X eY).azR))/\GO W n (r8 X eY):=by
 have s:=(h.log g).2;have r:=h.azU g;refine⟨aai X eY r s,λJ=>?_,?_⟩;.cases q:X.down with|true=>exact YR X eY q J|false=>exact YQ X eY r q s J
 obtain⟨a,c,⟨k,l,o,rfl⟩|⟨b,l,o,rfl⟩⟩:=h
 .have F:Up 8 n 180 a k\/True:=.inr trivial;have v:∀p∈a.map dJ,Y p<=65536:=λp u=>by obtain⟨x,f,rfl⟩:=cv.1 u;have:=(c.base.op x f).enc;omega
  obtain⟨j,b,C,t,w,z⟩:=No (a.map dJ) (mK (gL n a k) eY) v;have e:(iA a).take (mK (gL n a k) eY)=iA (a.take j)++b:=by simp only[iA,gD];exact t
  have A:mK (gL n a k) eY<=Y (iA a):=by have:=Go.Bt.xg a k;simp only[mK,gL,ak];omega
  have i:Y (iA (a.take k))<=mK (gL n a k) eY:=by simp only[mK,gL,ak];omega
  have y:=z k (by simpa using l) (by simpa only[iA,gD]using i);have d:Y (iA (a.take j)++b)=mK (gL n a k) eY:=by rw[<- e,bj];omega
  have B:=yb c.base.op;have E:=c.len;have D:=g.len;refine⟨a.take j,c.take j λx f=>o x ?_,.inr ⟨b,w,by omega,?_⟩⟩
  .have:a.drop j=(a.drop k).drop (j - k):=by rw[Dg];congr 1;omega
   rw[this]at f;exact eO f
  rw[r8,aw (by simp[gL])];simp only[sE,d];simp only[gL,<- e]
 rw[r8,aQ (by simp[sE])];exact⟨a,c,.inr ⟨b,l,o,rfl⟩⟩
def lR{m n:Int}{W:List aV}(o:Pl m W)(h:GO W n X)(u:x∈W): (∀J,bh κ 116 [.agg X.azR,.agg x.azR] J (fm (sP X x).1 (sP X x).2)) /\(∀J,bh κ 63 [.agg X.azR,.agg x.azR] J (fm (sP X x).1 (sP X x).2)):=by
 have r:=h.azU o;have g:=o.op x u;have H:=(h.log o).1;obtain⟨d,j,⟨k,w,A,rfl⟩|⟨F,w,A,rfl⟩⟩:=h
 .have q:=Sb j.base x;have C:sP (gL n d k) x=(cQ (gL n d k) x,0):=rfl;rw[C];by_cases v:x∈d
  .have z:=lr j.base.one;have i:x∈(gL n d k).azS:=dU.2 v;have t:ka (gL n d k).azS x.aY.bS x.aY.azW=some x:=by obtain⟨y,e⟩:=GR (l:=(gL n d k).azS) (f:=x.aY.bS) (n:=x.aY.azW) ⟨x,i,rfl⟩;obtain⟨E,D,B⟩:=Z9 e;rw[e,o.uniq (j.sub y (dU.1 E)) u (jr.2 ⟨D,B⟩)]
   rw[cQ,aQ (dF.2 ⟨x,i,by simp[pj]⟩)];exact⟨DE _ x _ r g.azU rfl g.ok q.1 q.2 (ahn z i),Ls _ x x r g.azU rfl g.ok t (vx.2 rfl)⟩
  obtain⟨a,b,c⟩:=j.arT o u v;have p:∀y∈ej d,dH y x≠0:=λy e=>b y (dU.1 e);have t:ka (gL n d k).azS x.aY.bS x.aY.azW=none:=GS λy e s=>p y e (jr.2 (by simpa[oh]using s));rw[cQ,aw (by rw[dF];rintro⟨y,e,s⟩;exact p y e (by simpa using s))];exact⟨IE _ x _ r g.azU rfl g.ok (cE g.enc (by decide)) (by omega) q.1 q.2 (λy e=>p y (aS e)) a,
   Oi _ x r (λy e=>(j.base.op y (dU.1 e)).azU) g.azU rfl g.ok (cE g.enc (by decide)) (by omega) t a p⟩
 exact⟨Oe _ x rfl,Lu _ x rfl⟩
def PG{e d c:Nat}(h:yj U R a b P)(A B C:Ob)(i:Int): PC κ 43 [.ptr R 0,.I i,.I i] (lA U R a b P (fE (.own a e) (.own b d) (.own P c)) A B C) (λr f=>r=.I 1/\f=lA U R a b P (fE (.own a e) (.own b d) (.own P c)) A B C):=by refine aW func43 p43.2 λj g=>aq ?_;simp only[p43,SS,seval];simp only[ao,VV,seval];exact dS (.inr rfl) rfl (Wk.refl _ _) rfl ⟨rfl,rfl⟩
def PH{J:aj}{k a b c f s o:Nat}(h:yj J k a b c)(d:List bO)(B C:Ob)(i j:Nat)(L:i≠j)(l g:bO)(q:d[i]?=some l)(w:d[j]?=some g)(A:(l.down||g.down)=θ): PC κ 43 [.ptr k 0,.I i,.I j] (lA J k a b c (fE (.own a f) (.own b s) (.own c o)) (bC f d) B C) (λr D=>r=.I 15/\D=lA J k a b c (fE (.own a f) (.own b s) (.own c o)) (bC f d) B C):=by
 refine aW func43 p43.2 λH F=>aq ?_;have K:i<Y d:=(ag.1 q).1;have E:j<Y d:=(ag.1 w).1;have t:(0:Int)<=(i:Int):=by omega
 have p:(0:Int)<=(j:Int):=by omega
 have v:(i:Int)<(Y d:Int):=by omega
 have x:(j:Int)<(Y d:Int):=by omega
 have n:((i:Int)==(j:Int))=G:=by simp;omega
 have y:gv (d.map bO.azR) i 5=some (.b l.down):=by simp[gv,q,bO.azR]
 have e:gv (d.map bO.azR) j 5=some (.b g.down):=by simp[gv,w,bO.azR]
 simp only[p43,SS,seval];cases m:l.down
 .have z:g.down=θ:=by simpa[m]using A
  simp only[fE,bC,h.all,t,p,v,x,n,y,e,m,z,aa,VV,seval];refine⟨_,rfl,?_⟩;simp only[h.all,VV,seval];exact dS (.inr rfl) rfl (Wk.refl _ _) rfl ⟨rfl,rfl⟩
 simp only[fE,bC,h.all,t,p,v,x,n,y,e,m,aa,VV,seval];refine⟨.u,(λh=>by cases h),?_⟩;simp only[h.all,VV,seval];exact dS (.inr rfl) rfl (Wk.refl _ _) rfl ⟨rfl,rfl⟩
def Ny(l:List Let)(i:Nat)(a:i<Y l)(e:Y l<2^30)(b g:Nat)(J:aj)(d:J[b]?=some (dm g l)):PC κ 95 [.own b g,.I i,.I ((i:Int)+1)] J (λr c=>r=.own b (g+1)/\c=J.set b (dm (g+1) (l.take i++l.drop (i+1)))):=by have:=PC.Nx Tryz.avg (k:=15) (by':=200) (g:=g) (i:=i) (rows:=l.map Let.azR) (by kernel_rfl) (by simpa using a) (by simpa using e) d;rw[<- List.map_take,<- List.map_drop,<- List.map_append]at this;exact this
def PI{k c d:Nat}(h:yj U R a b P)(A C:Ob)(w:oJ U.length A)(u:oJ U.length C)(azY:List Let)(e:Ev)(f:e.azT=5)(i:Nat)(g:e.n=i)(x:Let)(j:azY[i]?=some x)(m:Y azY<2^29): PC κ 45 [.ptr R 0,.agg e.azR] (lA U R a b P (fE (.own a k) (.own b c) (.own P d)) A (dm c azY) C) (λr q=>r=.I 0/\q=lA U R a b P (fE (.own a k) (.own b (c+1)) (.own P d)) A (dm (c+1) (azY.take i++azY.drop (i+1))) C):=by
 obtain⟨o,z,F,D,E⟩:=e;simp only at f g;subst f g;refine aW func45 p45.2 λs B=>aq ?_;have l:(azY.map Let.azR).getD i []=mC x:=by simp[aA,j,lh]
 have v:i<Y azY:=(ag.1 j).1;have t:(0:Int)<=(i:Int):=by omega
 have p:(i:Int)<(Y azY:Int):=by omega
 have y:IntKind.i64.wrap ((i:Int)+1)=(i:Int)+1:=IntWalk.i64_in _ (by omega);simp only[mC]at l;simp only[p45,SS,seval];simp only[Ev.azR,En.azR,fE,dm,h.all,l,t,p,y,aa,VV,seval];refine al (Ny azY i v (by omega) b c _ (by simp only[h.all,dm])) rfl ?_;simp only[dm,h.all,VV,seval];exact lE s (lV h.la h.lb h.lc) w trivial u (.inr rfl) rfl (by simp[LW]) ⟨rfl,rfl⟩
def Ox(h:yj U R a b P)(l:aj):yj (U++l) R a b P:=by obtain⟨m,n,j,k,g,d,c,e,i,f⟩:=h;exact⟨by simp;omega,by simp;omega,by simp;omega,by simp;omega,g,d,c,e,i,f⟩
def afv(h:yj U R a b P)(l:aj)(K A B C:Ob):lA (U++l) R a b P K A B C=lA U R a b P K A B C++l:=by simp only[lA];rw[jm _ _ h.la,jm _ _ (by simpa using h.lb),jm _ _ (by simpa using h.lc),jm _ _ (by simpa using h.lk)]
def Hl{k a b c ga p q:Nat}(h:yj U k a b c)(n:Net)(A:n.azU)(e:Ev)(v:e.azT=4)(i:Nat)(u:e.n=i)(x:Let)(w:n.ax[i]?=some x)(N:x.op.azU)(E:Y n.ax<2^29)(j:Nat)(F:x.dst=j)(o:bO)(K:n.an[j]?=some o)(f:bO)(d:Int) (H:∀U,bh κ 116 [.agg o.azR,.agg x.op.azR] U (fm f d)) : PC κ 45 [.ptr k 0,.agg e.azR] (lA U k a b c (fE (.own a ga) (.own b p) (.own c q)) (bC ga n.an) (dm p n.ax) (fX q n.cw)) (FL U k a b c (ji n 4 i x f d).1 (ji n 4 i x f d).2):=by
 obtain⟨J,L,P,Q,O⟩:=e;simp only at v u;subst v u;refine aW func45 p45.2 λt M=>aq ?_;have y:(n.ax.map Let.azR).getD i []=mC x:=by simp[aA,w,lh]
 have I:i<Y n.ax:=(ag.1 w).1;have D:(0:Int)<=(i:Int):=by omega
 have C:(i:Int)<(Y n.ax:Int):=by omega
 have B:IntKind.i64.wrap ((i:Int)+1)=(i:Int)+1:=IntWalk.i64_in _ (by omega);have r:ji n 4 i x f d=if mO n x.src x.dst=θ then(Net.zero,8)else if d=0 then(⟨n.an.set j f,n.ax.take i++n.ax.drop (i+1),n.cw⟩,0)else(Net.zero,d):=by simp[ji,F]
 simp only[mC]at y;simp only[p45,SS,seval];simp only[Ev.azR,En.azR,fE,bC,dm,fX,h.all,y,D,C,B,aa,VV,seval];refine al (KV n (.own a ga) (.own b p) x.src x.dst c q (by have:=A.um;omega) _ ?_ ?_ ?_) rfl ?_;.simp only[h.all,fX]
 .simp only[h.all,ao,VV,seval]
 .simp only[h.all,ao,VV,seval]
 cases z:mO n x.src x.dst
 .have m:ji n 4 i x f d=if d=0 then(⟨n.an.set j f,n.ax.take i++n.ax.drop (i+1),n.cw⟩,0)else(Net.zero,d):=by rw[r,z];rfl
  rw[m];simp only[h.all,VV,seval];have s:=λl=>Kz (ga:=ga) (Ox h l) (.own b p) (.own c q) (.own _ _ (Ox h l).lb) (.own _ _ (Ox h l).lc) n.an (dm p n.ax) (fX q n.cw) trivial trivial x A.uE j F o K f d H;simp only[afv h,fE,bC,dm,fX]at s;refine al (s _) (by simp only[lh,mC,VV,seval]) ?_;simp only[VV,seval];refine⟨λg=>?_,λg=>?_⟩
  .have g:¬d=0:=by simpa using g
   simp only[aw g];exact lE t (lV h.la h.lb h.lc) trivial trivial trivial (.inr rfl) rfl (by simp[LW]) ⟨rfl,_,_,_,_,rfl,λh=>absurd h g⟩
  have g:d=0:=by simpa using g
  subst g;simp only[aU,h.all,D,C,B,aa,VV,seval];refine al (Ny n.ax i I (by omega) b p _ (by simp only[h.all,dm])) rfl ?_;simp only[dm,h.all,VV,seval];exact lE t (lV h.la h.lb h.lc) trivial trivial trivial (.inr rfl) rfl (by simp[LW]) ⟨rfl,_,_,_,_,rfl,λ_=>⟨_,_,_,rfl,rfl,rfl,rfl⟩⟩
 have m:ji n 4 i x f d=(Net.zero,8):=by rw[r,z];rfl
 rw[m];simp only[h.all,VV,seval];exact lE t (lV h.la h.lb h.lc) trivial trivial trivial (.inr rfl) rfl (by simp[LW]) ⟨rfl,_,_,_,_,rfl,λh=>by simp at h⟩
def acv(e:Ev)(b:kh Q e=G)(J:aj):bh κ 18 [.agg Q.azR,.agg e.azR] J (gf Net.zero 1):=by have d:=Gu Q e;obtain⟨a,f,h,j,g⟩:=e;refine aW func18 p18.2 λc i=>aq ?_;simp only[p18,SS,seval];simp only[Net.azR,Ev.azR,En.azR,aa,↓IT,VV,seval];refine al (d _) rfl ?_;simp only[b,↓IT,VV,seval];exact gx (xs:=[.agg [.nil,.nil,.nil],.I 1]) (ys:=[.agg Net.zero.azR,.I 1]) c (.inr rfl) (by simp only[RS,seval]) (.cons (.iV (.cons (.nil 6) (.cons (.nil 15) (.cons (.nil 2) .nil)))) (.cons (.refl _) .nil)) (by simp only[Net.zero,Net.azR,LW]) ⟨rfl,rfl⟩
def aad:Nat:=if k=3 then 43 else if k=7\/k=8 then 44 else if k=4\/k=5\/k=6 then 45 else 46
def xh(e:Ev)(k:Nat):aB:=if e.azT=3 then[.ptr k 0,.I e.a,.I e.b]else[.ptr k 0,.agg e.azR]
def Br(D:Q.azU)(e:Ev)(q:kh Q e=θ)(m:Net)(d:Int) (x:∀J k a b c,yj J k a b c->PC κ (aad e.azT) (xh e k) (lA J k a b c (fE (.own a 0) (.own b 0) (.own c 0)) (bC 0 Q.an) (dm 0 Q.ax) (fX 0 Q.cw)) (FL J k a b c m d)) (J:aj) : bh κ 18 [.agg Q.azR,.agg e.azR] J (gf m d):=by
 have E:=Gu Q e;have F:¬(e.azT<1\/11<e.azT):=λh=>by rw[HW h]at q;cases q
 have g:=x (J++[.box 29 Q.azR,.box 38 (Ev.azR e),.box 29 [.nil,.nil,.nil],.dead,.dead,.dead,.dead]) _ _ _ _ (Ow J _ _ _ _ _ _ _);rw[ua]at g;obtain⟨l,w,z,H,y⟩:=e;refine aW func18 p18.2 λv M=>?_;simp only[p18,SS,seval];refine cB.cutAt (.more (.more (.more (.one _ _)))) λR n=>?_;simp only[Net.azR,Ev.azR,En.azR,aa,↓IT,VV,seval];refine al (E _) rfl ?_;simp only[q,↓IT,VV,seval];refine dZ (vV Q D _) rfl ?_;rintro r t ⟨rfl,rfl⟩;simp only[bC,dm,fX,ao,bP,Nat.reduceAdd,aa,↓IT,VV,seval];refine n _ (cB.fw (fr':=(uu 3 (.ptr (Y J+1) 0::.ptr (Y J+2) 0::uu 1 (.ptr (Y J+6) 0::uu 35 [])))) ?_ (by repeat' constructor));clear n R;simp only[cT,cC,fE,bC,dm,fX,Net.azR,Ev.azR,En.azR,aad,xh]at g;refine cB.cutAt (.one _ _) λR n=>?_;have f:∀K A B C,(d=0->∃u s p,K=fE (.own (Y J+3) u) (.own (Y J+4) s) (.own (Y J+5) p)/\A=bC u m.an/\B=dm s m.ax/\C=fX p m.cw)->∀o,rk o (uu 4 (.ptr (Y J+2) 0::uu 1 (.ptr (Y J+6) 0::.I d::uu 34 []))) ->
   R ⟨o,J++[.box 29 [.sl 6 (Q.an.map bO.azR),.sl 15 (Q.ax.map Let.azR),.sl 2 (Q.cw.map cF)],.box 38 (Ev.azR ⟨l,w,z,H,y⟩),.box 29 [.nil,.nil,.nil],A,B,C,K]⟩:=by
  intro K A B C j o L;refine n _ (cB.fw ?_ L);clear n R;refine aq ?_;simp only[↓IT,VV,seval];refine⟨λi=>?_,λi=>?_⟩
  .have i:¬d=0:=by simpa using i
   exact gx (xs:=[.agg [.nil,.nil,.nil],.I d]) (ys:=[.agg Net.zero.azR,.I d]) v (.inr rfl) (by simp only[RS,seval]) (.cons (.iV (.cons (.nil 6) (.cons (.nil 15) (.cons (.nil 2) .nil)))) (.cons (.refl _) .nil)) (by simp only[Net.zero,Net.azR,LW]) ⟨by rw[gf,aw i];rfl,rfl⟩
  have i:d=0:=by simpa using i
  subst i;obtain⟨u,s,p,rfl,rfl,rfl,rfl⟩:=j rfl;simp only[fE,bC,dm,fX,ao,aa,↓IT,VV,seval];exact dS (.inr rfl) (by simp only[RS,seval]) (Ql v rfl rfl rfl rfl rfl) rfl ⟨rfl,rfl⟩
 simp only[Ev.azR,En.azR]at f;rcases kinds l with h|h|h|h
 .rcases h with rfl|rfl|rfl|rfl|rfl;all_goals
   simp only[↓IT,VV,seval]at g |-;refine dZ g (by simp only[↓IT,VV,seval]) ?_;rintro r t ⟨rfl,K,A,B,C,rfl,j⟩;rw[ua];simp only[cT,cC,↓IT,VV,seval];exact f K A B C j _ (by repeat' constructor)
 .rcases h with rfl|rfl|rfl;all_goals
   simp only[↓IT,VV,seval]at g |-;refine dZ g (by simp only[↓IT,VV,seval]) ?_;rintro r t ⟨rfl,K,A,B,C,rfl,j⟩;rw[ua];simp only[cT,cC,↓IT,VV,seval];exact f K A B C j _ (by repeat' constructor)
 .rcases h with rfl|rfl|rfl;all_goals
   simp only[↓IT,VV,seval]at g |-;refine dZ g (by simp only[↓IT,VV,seval]) ?_;rintro r t ⟨rfl,K,A,B,C,rfl,j⟩;rw[ua];simp only[cT,cC,↓IT,VV,seval];exact f K A B C j _ (by repeat' constructor)
 exact absurd h F
end Go.Proofs.Tryz

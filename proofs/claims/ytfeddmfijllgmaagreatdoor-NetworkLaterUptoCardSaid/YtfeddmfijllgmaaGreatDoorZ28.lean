/- Part of a proof. -/
import Derived.Test.YtfeddmfijllgmaaGreatDoorZ27
set_option linter.all false
set_option maxHeartbeats 4000000
open Option renaming some->S
open Bool renaming true->G,false->Z
open Go.Proofs.Tryz renaming prog->A
open List renaming length->X
namespace Go.Proofs.Tryz
open Go Go.Pm Go.Bt Go.RowKit
variable(o:bX)(n:Net)(P:Int){m T:Int}{R:List bf}{k a b N:Nat}{c:Nat->Nat}{F:Ob}{J:ai}{K:bG}{U:bX}{x:bf}
def uF(e:En)(a:bH):bf:=⟨⟨o.ax7+1,o.ax0,mB a o.ax0+1⟩,P,e,a⟩
def aaq(e:En)(z:e.axZ)(d:o.axZ)(i:o.down=Z)(c:Nat->Nat)(t:qe o.axX c)(a:bH)(l:rY (jX c) []=a)(w:mB a o.ax0<128)(h0:0<=o.ax7)(b:o.ax7<2^30)(m:Nat) (g:(uF o P e a).axZ) (s:eO (uF o P e a)=0) (j:X (dx (uF o P e a))<=60000) (r:X o.log<=4000000) (p:m<=X o.axX) (h1:∀(k:Nat) (y:bf),o.axX[k]?=some y->(0<=dS y (uF o P e a)<->m<=k)) (J:ai) : bh A 150 [.agg o.axV,.I P,.agg e.axV] J (.iS [.agg (po o (uF o P e a) m).axV,.agg (uF o P e a).axV,.I 0]):=by
 refine aT func150 ad8.2 λb v=>an ?_;have x:=TJ a o.ax0;have q:IntKind.i64.wrap (o.ax7+1)=o.ax7+1:=IntWalk.i64_in _ (by omega);have u:IntKind.i64.wrap (mB a o.ax0+1)=mB a o.ax0+1:=IntWalk.i64_in _ (by omega);have n:(decide (128<=mB a o.ax0)||decide (1073741824<=o.ax7))=Z:=by simp;omega
 have f:X (jn o (uF o P e a) m).log<2^40:=by simp only[jn,ae,jh];omega
 simp only[ad8,SS,seval];simp only[bX.axV,En.axV,VV,seval];refine ak (Lc o d i c t _) (by simp only[bX.axV,VV,seval]) ?_;simp only[l,VV,seval];refine ak (pW a o.ax0 _) rfl ?_;simp only[q,u,VV,seval];refine⟨λh=>(by rw[n]at h;cases h),λ_=>?_⟩;refine ak (B9 o (uF o P e a) m d g s j r p h1 _) (by simp only[bX.axV,bf.axV,cz.axV,En.axV,uF,VV,seval]) ?_;simp only[bX.axV,VV,seval];refine ak (pV (uF o P e a) g _) (by simp only[bf.axV,cz.axV,En.axV,uF,VV,seval]) ?_;simp only[bf.axV,cz.axV,En.axV,bC,VV,seval];refine aS b (by simp only[RS,seval];rfl) (by simp[LW]) ⟨rfl,rfl⟩
def Lj(e:En)(a:o.down=G)(J:ai):bh A 97 [.agg o.axV,.agg e.axV] J (gg bX.zero nf 15):=by refine aT func97 p97.2 λb c=>an ?_;simp only[p97,SS,seval];simp only[bX.axV,En.axV,a,VV,seval];exact iH b (by simp only[RS,seval]) (.cons (Cv.iK (vY 0)) (.cons (Cv.iK Z8) (.cons (.refl _) .nil))) (by simp only[bX.axV,bf.axV,cz.axV,En.axV,aF,aw,LW]) ⟨rfl,rfl⟩
def Ix(e:En)(a:o.down=G)(J:ai):bh A 51 [.agg o.axV,.agg e.axV] J (gg bX.zero nf 15):=by refine aT func51 p51.2 λb c=>an ?_;simp only[p51,SS,seval];simp only[bX.axV,En.axV,a,VV,seval];exact iH b (by simp only[RS,seval]) (.cons (Cv.iK (vY 0)) (.cons (Cv.iK Z8) (.cons (.refl _) .nil))) (by simp only[bX.axV,bf.axV,cz.axV,En.axV,aF,aw,LW]) ⟨rfl,rfl⟩
def Fq(e:En)(d:o.axZ)(j:∀x∈o.axX,eO x=0)(i:(aye e).axZ)(n:cY (aye e)=0)(b:o.down=Z) (h0:find (dC o.axX) (fZ (aye e))<0->U=bX.zero/\x=nf/\m=6) (a:0<=find (dC o.axX) (fZ (aye e))->∀J,bh A 150 [.agg o.axV,.I 2,.agg (pB e).axV] J (gg U x m)) (J:ai) : bh A 97 [.agg o.axV,.agg e.axV] J (gg U x m):=by
 refine aT func97 p97.2 λc p=>an ?_;have q:=pk j;have k:∀y∈dC o.axX,y.axZ:=λy f=>by simp only[dC,cP,fv]at f;obtain⟨U,⟨l,_⟩,rfl⟩:=f;exact(d.axX U (oV l)).axY
 simp only[p97,SS,seval];have g:=Cd o d b;simp only[bX.axV,En.axV,b,VV,seval]at a g |-;refine ak (kx (aye e) i _) (by simp only[aye,En.axV,VV,seval]) ?_;simp only[n,VV,seval];refine ak (g _) rfl ?_;simp only[VV,seval];refine ak (J2 (aye e) i _) (by simp only[aye,En.axV,VV,seval]) ?_;simp only[VV,seval];refine ak (Sq _ k _ _) rfl ?_;simp only[VV,seval];refine⟨λh=>?_,λh=>?_⟩;.obtain⟨rfl,rfl,rfl⟩:=h0 (by simpa using h);exact iH c (by simp only[RS,seval]) (.cons (Cv.iK (vY 0)) (.cons (Cv.iK Z8) (.cons (.refl _) .nil))) (by simp only[bX.axV,bf.axV,cz.axV,En.axV,aF,aw,LW]) ⟨rfl,rfl⟩
 have a:=a (by simpa using h);simp only[pB,aq]at a;refine kh (.cons (.refl _) (.cons (.refl _) (.cons (Cv.iK (.cons (.refl _) (.cons (.nil 3) (.cons (.refl _) (.cons (.refl _) (.cons (.refl _) (.cons (.refl _) (.cons (.refl _) (.cons (.refl _) .nil))))))))) .nil))) (a _) ?_;simp only[gg,bX.axV,bf.axV,cz.axV,En.axV,aF,aw,VV,seval];exact aS c (by simp only[RS,seval];rfl) (by simp[LW]) ⟨rfl,rfl⟩
def C1(e:En)(d:o.axZ)(k:∀x∈o.axX,eO x=0)(g:(aye e).axZ)(p:cY (aye e)=0)(i:o.down=Z) (h0:find (dC o.axX) (fZ (aye e))<0->U=bX.zero/\x=nf/\m=6) (a:0<=find (dC o.axX) (fZ (aye e))->∀J,bh A 100 [.agg o.axV,.I 2,.agg (pB e).axV] J (gg U x m)) (J:ai) : bh A 51 [.agg o.axV,.agg e.axV] J (gg U x m):=by
 refine aT func51 p51.2 λc q=>an ?_;have j:=pk k;have l:∀y∈dC o.axX,y.axZ:=λy f=>by simp only[dC,cP,fv]at f;obtain⟨U,⟨n,_⟩,rfl⟩:=f;exact(d.axX U (oV n)).axY
 have b:=sX e;simp only[p51,SS,seval];simp only[bX.axV,En.axV,i,VV,seval]at a b |-;refine ak (b _) rfl ?_;simp only[VV,seval];refine ak (kq (aye e) g _) (by simp only[En.axV,VV,seval]) ?_;simp only[p,VV,seval];refine ak (wS o.axX d.axX _) rfl ?_;simp only[VV,seval];refine ak (b _) rfl ?_;simp only[VV,seval];refine ak (rO (aye e) g _) (by simp only[En.axV,VV,seval]) ?_;simp only[VV,seval];refine ak (JF _ j l _ _) rfl ?_;simp only[VV,seval];refine⟨λh=>?_,λh=>?_⟩;.obtain⟨rfl,rfl,rfl⟩:=h0 (by simpa using h);exact iH c (by simp only[RS,seval]) (.cons (Cv.iK (vY 0)) (.cons (Cv.iK Z8) (.cons (.refl _) .nil))) (by simp only[bX.axV,bf.axV,cz.axV,En.axV,aF,aw,LW]) ⟨rfl,rfl⟩
 have a:=a (by simpa using h);simp only[pB,aq]at a;refine kh (.cons (.refl _) (.cons (.refl _) (.cons (Cv.iK (.cons (.refl _) (.cons (.nil 3) (.cons (.refl _) (.cons (.refl _) (.cons (.refl _) (.cons (.refl _) (.cons (.refl _) (.cons (.refl _) .nil))))))))) .nil))) (a _) ?_;simp only[gg,bX.axV,bf.axV,cz.axV,En.axV,aF,aw,VV,seval];exact aS c (by simp only[RS,seval];rfl) (by simp[LW]) ⟨rfl,rfl⟩
def aeq(h:H2 m R)(i:0<=m/\m<8)(p:X R<=180)(n:qe (fJ R) c)(f:c m.toNat=qU m R)(a:Int)(e:En)(l:e.axZ)(d:Tz (oa m R a e c))(o:qU m R<128)(j:jc R<2^30)(J:ai): bh A 150 [.agg (fQ m R k).axV,.I a,.agg e.axV] J (gg (fQ m (R++[oa m R a e c]) (X R+1)) (oa m R a e c) 0):=by
 have b:uF (fQ m R k) a e (qx c)=oa m R a e c:=by simp only[uF,oa,fQ,Fg c i,f]
 have q:=uP h.op;have g:=Pn h (oa m R a e c);have:=aaq (fQ m R k) a e l (ta h (by omega)) rfl c n (qx c) rfl (by simp only[fQ];rw[Fg c i];omega) (vF λx d=>(h.op x d).ok).1 j (nv (fJ R) (oa m R a e c))
  (by rw[b];exact d.axZ) (by rw[b];exact d.ok) (by rw[b];exact cE d.enc (by decide)) (by simp only[fQ];omega) g.1 (by rw[b];exact g.2) J;rw[b]at this;rwa [po,Gy]at this
def pO(e:En):Nat:=X e.ax3+X e.ax4+X e.cJ+X e.next+bA e.ax3+bA e.ax4
def aag(h:H2 m R)(b:0<=m/\m<8)(q:∀o:Nat,o<8->c o<=128)(a:c m.toNat=qU m R)(v:qU m R<128)(u:jc R<2^30){e:En}(k:T=1/\cY e=0\/T=2/\ny e=G/\cY (aye e)=0)(r:e.axZ)(d:X e.dL<2^30/\X e.dh<2^30)(i:pO e<300):Tz (oa m R T e c):=by
 obtain⟨g,n,y⟩:=Zl c q;have w:=(vF λx j=>(h.op x j).ok).1;have l:(qx c).any (λm=>decide (128<m))=Z:=by rw[Yv];intro m b;have:=n m b;simp;omega
 have t:jO ⟨jc R+1,m,(qU m R:Int)+1⟩=G:=by simp only[jO,bz];omega
 have p:mB (qx c) m=(qU m R:Int)+1 - 1:=by rw[Fg c b,a];omega
 have f:eO (oa m R T e c)=0:=by
  simp only[eO,oa,t,g,l,p,ayk];rcases k with⟨rfl,h⟩|⟨rfl,s,h⟩;.simpa using h
  simpa[s]using h
 refine⟨f,⟨r,d.1,d.2,by simp only[oa];omega⟩,Zd f ?_⟩;simp only[Ze,oa];simp only[pO]at i;omega
def KQ(e:En):ny (pB e)=G/\aye (pB e)=aye e:=⟨rfl,rfl⟩
def Tu{e:En}(a:e.axZ):(pB e).axZ/\(aye e).axZ:=by
 refine⟨⟨a.ax3,a.kz,by simp[pB],by simp[pB,bA],a.cJ,a.next,λx b=>a.ids x ?_⟩,⟨a.ax3,a.kz,a.ax3,a.kz,a.cJ,a.next,λx b=>a.ids x ?_⟩⟩;.simp only[pB,bE]at b;exact iv _ b
 simp only[aye,bJ,or_self]at b;exact iv _ b
def HK(e:En)(d:e.axZ)(f:cY e=0)(b:o.down=Z)(a:∀J,bh A 150 [.agg o.axV,.I 1,.agg e.axV] J (gg U x m))(J:ai): bh A 96 [.agg o.axV,.agg e.axV] J (gg U x m):=by refine aT func96 p96.2 λc g=>an ?_;simp only[p96,SS,seval];simp only[bX.axV,En.axV,b,VV,seval]at a |-;refine ak (kx e d _) (by simp only[En.axV,VV,seval]) ?_;simp only[f,VV,seval];refine ak (a _) rfl ?_;simp only[gg,bX.axV,bf.axV,cz.axV,En.axV,aF,aw,VV,seval];exact aS c (by simp only[RS,seval];rfl) (by simp[LW]) ⟨rfl,rfl⟩
def QE(e:En)(f:e.axZ)(c:cY e≠0)(a:o.down=Z)(J:ai):bh A 96 [.agg o.axV,.agg e.axV] J (gg bX.zero nf (cY e)):=by
 refine aT func96 p96.2 λb g=>an ?_;have d:(cY e != 0)=G:=by simpa using c
 simp only[p96,SS,seval];simp only[bX.axV,En.axV,a,VV,seval];refine ak (kx e f _) (by simp only[En.axV,VV,seval]) ?_;simp only[d,VV,seval];exact iH b (by simp only[RS,seval]) (.cons (Cv.iK (vY 0)) (.cons (Cv.iK Z8) (.cons (.refl _) .nil))) (by simp only[bX.axV,bf.axV,cz.axV,En.axV,aF,aw,LW]) ⟨rfl,rfl⟩
def Lr(e:En)(f:e.axZ)(c:cY e≠0)(a:o.down=Z)(J:ai):bh A 49 [.agg o.axV,.agg e.axV] J (gg bX.zero nf (cY e)):=by
 refine aT func49 p49.2 λb g=>an ?_;have d:(cY e != 0)=G:=by simpa using c
 simp only[p49,SS,seval];simp only[bX.axV,En.axV,a,VV,seval];refine ak (kq e f _) (by simp only[En.axV,VV,seval]) ?_;simp only[d,VV,seval];exact iH b (by simp only[RS,seval]) (.cons (Cv.iK (vY 0)) (.cons (Cv.iK Z8) (.cons (.refl _) .nil))) (by simp only[bX.axV,bf.axV,cz.axV,En.axV,aF,aw,LW]) ⟨rfl,rfl⟩
def ON(e:En)(f:(aye e).axZ)(c:cY (aye e)≠0)(a:o.down=Z)(J:ai):bh A 97 [.agg o.axV,.agg e.axV] J (gg bX.zero nf (cY (aye e))):=by
 refine aT func97 p97.2 λb g=>an ?_;have d:(cY (aye e) != 0)=G:=by simpa using c
 simp only[p97,SS,seval];simp only[bX.axV,En.axV,a,VV,seval];refine ak (kx (aye e) f _) (by simp only[aye,En.axV,VV,seval]) ?_;simp only[d,VV,seval];exact iH b (by simp only[RS,seval]) (.cons (Cv.iK (vY 0)) (.cons (Cv.iK Z8) (.cons (.refl _) .nil))) (by simp only[bX.axV,bf.axV,cz.axV,En.axV,aF,aw,LW]) ⟨rfl,rfl⟩
def Lo(e:En)(g:(aye e).axZ)(d:cY (aye e)≠0)(b:o.down=Z)(J:ai):bh A 51 [.agg o.axV,.agg e.axV] J (gg bX.zero nf (cY (aye e))):=by
 refine aT func51 p51.2 λc h=>an ?_;have f:(cY (aye e) != 0)=G:=by simpa using d
 have a:=sX e;simp only[p51,SS,seval];simp only[bX.axV,En.axV,b,VV,seval]at a |-;refine ak (a _) rfl ?_;simp only[VV,seval];refine ak (kq (aye e) g _) (by simp only[En.axV,VV,seval]) ?_;simp only[f,VV,seval];exact iH c (by simp only[RS,seval]) (.cons (Cv.iK (vY 0)) (.cons (Cv.iK Z8) (.cons (.refl _) .nil))) (by simp only[bX.axV,bf.axV,cz.axV,En.axV,aF,aw,LW]) ⟨rfl,rfl⟩
def Made(W:List bf)(n:Int)(o:bX)(b:Int)(e:En)(d:bX)(x:bf):Prop :=∃a k c,Kn W n a/\o=fQ n a k/\x=oa n a b e c/\d=fQ n (a++[x]) (X a+1)/\Tz x
def Made.ok{W:List bf}{d:bX}{i:Int}{e:En}(b:Pl m W)(l:T<m)(g:X W<100)(h:Made W T U i e d x):
  x.aZ.bR=T/\Pl m (W++[x])/\GO (W++[x]) T d:=by obtain⟨j,k,c,a,rfl,rfl,rfl,f⟩:=h;have n:=a.clk b;exact⟨rfl,b.snoc f l (a.fresh rfl rfl) (by simp only[oa];omega) g,_,a.make f rfl rfl,.inl ⟨_,by simp,by simp,rfl⟩⟩
def HB{W a:List bf}{k:Nat}(j:Pl m W)(h:Kn W T a)(u:0<=T/\T<m/\m<=8)(d:Int)(e:En)(q:d=1/\cY e=0\/d=2/\ny e=G/\cY (aye e)=0)(n:e.axZ)(r:X e.dL<2^30/\X e.dh<2^30)(p:pO e<300): ∃g x,(∀J,bh A 150 [.agg (fQ T a k).axV,.I d,.agg e.axV] J (gg g x 0)) /\(∀J,bh A 100 [.agg (fQ T a k).axV,.I d,.agg e.axV] J (gg g x 0))/\Made W T (fQ T a k) d e g x:=by
 have b:0<=T/\T<8:=by omega
 obtain⟨c,o,l,f⟩:=KD h.base b;have w:=h.len;have s:=j.len;have t:=h.clk j;have v:qU T a<=X a:=jH _ _;have i:=aag h.base b l f (by omega) (by omega) q n r p;exact⟨_,_,aeq h.base b (by omega) o f d e n i (by omega) (by omega),aik h.base b (by omega) o l d e i (by omega) (by omega),a,k,c,h,rfl,rfl,rfl,i⟩
def Qu{W:List bf}(g:Pl m W)(h:GO W T U)(p:0<=T/\T<m/\m<=8)(e:En)(c:e.axZ)(n:pO e<300): ∃b x d,(∀J,bh A 96 [.agg U.axV,.agg e.axV] J (gg b x d)) /\(∀J,bh A 49 [.agg U.axV,.agg e.axV] J (gg b x d))/\(d=0->Made W T U 1 e b x):=by
 obtain⟨o,q,⟨k,i,l,rfl⟩|⟨s,i,l,rfl⟩⟩:=h
 .by_cases a:cY e=0;.have t:=uE (mq a).dL;have u:=uE (mq a).dh;obtain⟨b,x,r,f,j⟩:=HB (k:=k) g q p 1 e (.inl ⟨rfl,a⟩) c (by omega) n;exact⟨b,x,0,HK _ _ c a rfl r,C3 _ _ c a rfl f,λ_=>j⟩
  exact⟨_,_,_,QE _ _ c a rfl,Lr _ _ c a rfl,λh=>absurd h a⟩
 exact⟨_,_,_,NF _ _ rfl,IA _ _ rfl,nofun⟩
def Qt{W:List bf}(g:Pl m W)(h:GO W T U)(u:0<=T/\T<m/\m<=8)(e:En)(v:e.axZ)(s:pO e<300): ∃c x i,(∀J,bh A 97 [.agg U.axV,.agg e.axV] J (gg c x i)) /\(∀J,bh A 51 [.agg U.axV,.agg e.axV] J (gg c x i))/\(i=0->Made W T U 2 (pB e) c x):=by
 have f:=h.axZ g;obtain⟨r,b⟩:=Tu v;have d:∀x∈U.axX,eO x=0:=λx t=>(g.op x (h.axX.1 x t)).ok;obtain⟨j,w,⟨k,o,q,rfl⟩|⟨z,o,q,rfl⟩⟩:=h
 .by_cases a:cY (aye e)=0
  .by_cases l:find (dC (fQ T j k).axX) (fZ (aye e))<0;.exact⟨bX.zero,nf,6,Fq _ _ f d b a rfl (λ_=>⟨rfl,rfl,rfl⟩) (λh=>by omega),C1 _ _ f d b a rfl (λ_=>⟨rfl,rfl,rfl⟩) (λh=>by omega),nofun⟩
   obtain⟨c,x,y,n,p⟩:=HB (k:=k) g w u 2 (pB e) (.inr ⟨rfl,(KQ e).1,by rw[(KQ e).2];exact a⟩) r (by simp[pB]) (by simp only[pO,pB,aj,bA]at s |-;omega);exact⟨c,x,0,Fq _ _ f d b a rfl (λh=>absurd h l) (λ_=>y),C1 _ _ f d b a rfl (λh=>absurd h l) (λ_=>n),λ_=>p⟩
  exact⟨_,_,_,ON _ _ b a rfl,Lo _ _ b a rfl,λh=>absurd h a⟩
 exact⟨_,_,_,Lj _ _ rfl,Ix _ _ rfl,nofun⟩
def HA{W:List bf}(b:Pl m W)(h:GO W T U): (∀J,bh A 62 [.agg U.axV] J (fA (NV U).1 (NV U).2))/\(∀J,bh A 54 [.agg U.axV] J (fA (NV U).1 (NV U).2)):=by cases a:U.down with|true=>rw[NV,a];exact⟨Wa U a,RZ U a⟩|false=>rw[NV,a];exact⟨TP U (h.axZ b) a,ZA U a⟩
def xz{W:List bf}(d:Pl m W)(h:GO W T U): (∀J,bh A 59 [.agg U.axV] J (fA (TW W U).1 (TW W U).2))/\(∀J,bh A 56 [.agg U.axV] J (fA (TW W U).1 (TW W U).2)):=by
 rcases Fl h with⟨a,e⟩|⟨a,f,b,⟨g,c,k,rfl⟩,e⟩;.rw[e];exact⟨Fs U a,OR U a⟩
 rw[e];have i:=b.len;have j:=d.len;exact⟨RQ b.base (by omega) c (by omega),OS b.base (by omega) c (by omega)⟩
def XW{W:List bf}(g:Pl m W)(h:GO W T U)(dX:Int): (∀J,bh A 98 [.agg U.axV,.I dX] J (.agg (px U dX).axV)) /\(∀J,bh A 55 [.agg U.axV,.I dX] J (.agg (px U dX).axV))/\GO W T (px U dX):=by
 have q:=(h.log g).2;have r:=h.axZ g;refine⟨X4 U dX r q,λJ=>?_,?_⟩;.cases o:U.down with|true=>exact WA U dX o J|false=>exact Wz U dX r o q J
 obtain⟨a,c,⟨k,i,l,rfl⟩|⟨b,i,l,rfl⟩⟩:=h
 .have F:Up 8 T 180 a k\/True:=.inr trivial;have u:∀p∈a.map dx,X p<=65536:=λp v=>by obtain⟨x,f,rfl⟩:=cP.1 v;have:=(c.base.op x f).enc;omega
  obtain⟨j,b,z,w,t,y⟩:=Kq (a.map dx) (lr (fQ T a k) dX) u;have e:(gC a).take (lr (fQ T a k) dX)=gC (a.take j)++b:=by simp only[gC,fM];exact w
  have B:lr (fQ T a k) dX<=X (gC a):=by have:=Go.Bt.tP a k;simp only[lr,fQ,al];omega
  have n:X (gC (a.take k))<=lr (fQ T a k) dX:=by simp only[lr,fQ,al];omega
  have s:=y k (by simpa using i) (by simpa only[gC,fM]using n);have d:X (gC (a.take j)++b)=lr (fQ T a k) dX:=by rw[<- e,aX];omega
  have D:=uP c.base.op;have E:=c.len;have C:=g.len;refine⟨a.take j,c.take j λx f=>l x ?_,.inr ⟨b,t,by omega,?_⟩⟩
  .have:a.drop j=(a.drop k).drop (j - k):=by rw[Ah];congr 1;omega
   rw[this]at f;exact dR f
  rw[px,ao (by simp[fQ])];simp only[pR,d];simp only[fQ,<- e]
 rw[px,aO (by simp[pR])];exact⟨a,c,.inr ⟨b,i,l,rfl⟩⟩
def xA{m n:Int}{W:List bf}(j:Pl m W)(h:GO W n U)(t:x∈W): (∀J,bh A 116 [.agg U.axV,.agg x.axV] J (fA (Q6 U x).1 (Q6 U x).2)) /\(∀J,bh A 63 [.agg U.axV,.agg x.axV] J (fA (Q6 U x).1 (Q6 U x).2)):=by
 have p:=h.axZ j;have g:=j.op x t;have H:=(h.log j).1;obtain⟨d,o,⟨k,z,B,rfl⟩|⟨I,z,B,rfl⟩⟩:=h
 .have r:=Pn o.base x;have w:Q6 (fQ n d k) x=(fH (fQ n d k) x,0):=rfl;rw[w];by_cases v:x∈d
  .have C:=pY o.base.one;have i:x∈(fQ n d k).axX:=fq.2 v;have s:lz (fQ n d k).axX x.aZ.bR x.aZ.ax0=S x:=by obtain⟨y,e⟩:=DH (l:=(fQ n d k).axX) (f:=x.aZ.bR) (n:=x.aZ.ax0) ⟨x,i,rfl⟩;obtain⟨F,D,E⟩:=XV e;rw[e,j.uniq (o.sub y (fq.1 F)) t (lq.2 ⟨D,E⟩)]
   rw[fH,aO (hZ.2 ⟨x,i,by simp[ow]⟩)];exact⟨AG _ x _ p g.axZ rfl g.ok r.1 r.2 (afs C i),Iy _ x x p g.axZ rfl g.ok s (Gt.2 rfl)⟩
  obtain⟨a,b,c⟩:=o.apJ j t v;have q:∀y∈fJ d,dS y x≠0:=λy e=>b y (fq.1 e);have s:lz (fQ n d k).axX x.aZ.bR x.aZ.ax0=none:=DI λy e u=>q y e (lq.2 (by simpa[mm]using u));rw[fH,ao (by rw[hZ];rintro⟨y,e,u⟩;exact q y e (by simpa using u))];exact⟨Ft _ x _ p g.axZ rfl g.ok (cE g.enc (by decide)) (by omega) r.1 r.2 (λy e=>q y (bn e)) a,
   Lp _ x p (λy e=>(o.base.op y (fq.1 e)).axZ) g.axZ rfl g.ok (cE g.enc (by decide)) (by omega) s a q⟩
 exact⟨Lm _ x rfl,Iz _ x rfl⟩
def aiP(l:bW J)(f:List It)(i:X f<2^32)(q:bA f<2^32):∀(a b:List It) (n:Nat),f=b++a->n+bA a<2^40 ->(((fj 3 (fh (.I (n+bA a:Nat)) (fj 37 fo))) λp=>K (.exit 0) ⟨p,J⟩)) ->gF (X J) A Px K (X a+1) ⟨(uu 3 (.I n::uu 23 (.sl 3 (f.map It.axV)::.I (X f)::.I (X b)::uu 11 []))),J⟩:=by
 intro a;induction a with
 |nil =>intro b n c e d;have c:=dH c;subst c;refine aD λR g=>?_;simp only[Px,VV,seval];simp only[bA,cg]at d;exact⟨λh=>by simp at h,λ_=>d ..⟩
 |cons x a ih =>
 intro b n c e d;have r:=ko c;have k:=eE b x (by omega);have o:(List.map It.axV f).getD (X b) []=x.axV:=by rw[c];exact gA
 have j:decide ((X b:Int)<(X f:Int))=G:=by simp;omega
 simp only[bA]at e d;have m:IntKind.i64.wrap ((n:Int)+(X x.ax1:Int))=((n+X x.ax1:Nat):Int):=by rw[IntWalk.i64_in _ (by omega)];omega
 refine aD λR g=>?_;simp only[Px,al,o,j,k,m,It.axV,ab,V.pure,VV,seval];refine⟨⟨by omega,by omega⟩,?_⟩;refine g _ (uj (aB _) l ?_ ?_ (ih (b++[x]) (n+X x.ax1) (by rw[c];simp) (by omega) (by rw[da];exact d)));.repeat' constructor
 simp only[LW]
def wu(a b:List It):bA (a++b)=bA a+bA b:=by induction a with|nil=>simp[bA]|cons x r ih=>simp only[aF,bA,ih];omega
def RC(e:En)(d:e.axZ)(J:ai):bh prog 12 [.agg e.axV] J (.b (decide (pO e<300))):=by
 refine aT func12 p12.2 λn D=>?_;simp only[p12,SS,seval];have m:=d.ax3;have l:=d.ax4;have F:=d.kz;have B:=d.rl;have C:=d.cJ;have H:=d.next;have x:IntKind.i64.wrap ((X e.ax3:Int)+X e.ax4)=((X e.ax3+X e.ax4:Nat):Int):=by rw[IntWalk.i64_in _ (by omega)];omega
 have y:IntKind.i64.wrap (((X e.ax3+X e.ax4:Nat):Int)+X e.cJ)=((X e.ax3+X e.ax4+X e.cJ:Nat):Int):=by rw[IntWalk.i64_in _ (by omega)];omega
 have q:IntKind.i64.wrap (((X e.ax3+X e.ax4+X e.cJ:Nat):Int)+X e.next)=((X e.ax3+X e.ax4+X e.cJ+X e.next:Nat):Int):=by rw[IntWalk.i64_in _ (by omega)];omega
 refine cD.cut λR h=>?_;simp only[En.axV,VV,seval];refine h _ ?_;clear h R;refine cD.cut λR h=>?_;simp only[ab,x,y,q,V.pure,VV,seval];refine h _ (cD.fG (fr':=(uu 1 (.ptr (X J) 0::uu 1 (.I (X e.ax3+X e.ax4+X e.cJ+X e.next:Nat)::uu 37 [])))) ?_ (by repeat' constructor));clear h R;generalize z:X e.ax3+X e.ax4+X e.cJ+X e.next=n0 at *;have u:n0+bA (e.ax3++e.ax4)=pO e:=by rw[wu,pO];omega
 have w:decide (((pO e:Nat):Int)<300)=decide (pO e<300):=by rw[decide_eq_decide];omega
 clear d;refine cD.cut λR h=>?_;have c:∀(f:List It) {k:ar} {s:ai},f=e.ax3++e.ax4->(∃loc,Wk prog (X J) k s (uu 3 (.I n0::uu 23 (.sl 3 (f.map It.axV)::.I (X f)::.I (X ([]:List It):Nat)::uu 11 []))) (J++loc)) ->
   cD (X J) prog (.loop Px) (HV 0 (Fp R (wF prog (X J) [.t 2] λr o=>r=.b (decide (pO e<300))/\o=J))) ⟨k,s⟩:=by rintro f k s rfl ⟨loc,v⟩;refine cD.wk (v.trans (Wk.lA (J:=J) (loc:=loc) (aB _) n (dO.1 (by simp[LW])))) (cD.mM (_+1) (aiP n (e.ax3++e.ax4) (by simp;omega) (by rw[wu];omega) (e.ax3++e.ax4) [] n0 rfl (by rw[wu];omega) ?_));rw[u];simp only[JE];intros;simp only[VV,seval];refine h _ (an ?_);simp only[w,VV,seval];exact bt (by simp only[RS,seval];rfl) ⟨rfl,rfl⟩
 cases i:e.ax3 with
 |nil =>
  cases j:e.ax4 with
  |nil =>simp only[i,j,aq,ju,aj,maxLen,V.pure,VV,seval];refine c [] (by simp[i,j]) ⟨_,Wk.fG ?_⟩;simp only[aq,aj];repeat' constructor
  |cons b t =>rw[j]at l;simp only[ah]at l;simp only[i,j,aq,ju,az,gm,aI,ah,ab,maxLen,V.pure,VV,seval];refine⟨⟨by omega,by omega⟩,c (b::t) (by simp[i,j]) ⟨_,(Wk.qM 1 (E:=70) (sz:=3) (by':=32) (g:=0) (sh:=Z) (rows:=b.axV::t.map It.axV) rfl).trans (Wk.fG ?_)⟩⟩;simp only[az,aq,ah,aj,fz,jR,cw,aR];repeat' constructor
 |cons a s =>
 rw[i]at m;simp only[ah]at m;simp only[i,az,gm,aI,ah,ab,maxLen,V.pure,VV,seval];have p:X (s.map It.axV++e.ax4.map It.axV)+1=X (a::(s++e.ax4)):=by simp
 rw[p,<- List.map_append];refine⟨⟨by omega,by omega⟩,⟨by omega,by omega⟩,c (a::(s++e.ax4)) (by simp[i]) ⟨_,(Wk.qM 1 (E:=70) (sz:=3) (by':=32) (g:=1) (sh:=Z) (rows:=a.axV::(s++e.ax4).map It.axV) rfl).trans (Wk.fG ?_)⟩⟩;simp only[az,aq,fz,jR,cw,aR];repeat' constructor
def MN{d f e:Nat}(h:uV J k a b N)(c B C:Ob)(i:Int): PC A 43 [.ptr k 0,.I i,.I i] (jZ J k a b N (eW (.own a d) (.own b f) (.own N e)) c B C) (λr g=>r=.I 1/\g=jZ J k a b N (eW (.own a d) (.own b f) (.own N e)) c B C):=by refine aT func43 p43.2 λj l=>an ?_;simp only[p43,SS,seval];simp only[aK,VV,seval];exact fp rfl (Wk.refl _ _) rfl ⟨rfl,rfl⟩
def MO{J:ai}{k a b c f q s:Nat}(h:uV J k a b c)(d:List bX)(B C:Ob)(i j:Nat)(F:i≠j)(g l:bX)(t:d[i]?=S g)(w:d[j]?=S l)(z:(g.down||l.down)=G): PC A 43 [.ptr k 0,.I i,.I j] (jZ J k a b c (eW (.own a f) (.own b q) (.own c s)) (bI f d) B C) (λr E=>r=.I 15/\E=jZ J k a b c (eW (.own a f) (.own b q) (.own c s)) (bI f d) B C):=by
 refine aT func43 p43.2 λH K=>an ?_;have L:i<X d:=(ag.1 t).1;have M:j<X d:=(ag.1 w).1;have o:(0:Int)<=(i:Int):=by omega
 have x:(0:Int)<=(j:Int):=by omega
 have n:(i:Int)<(X d:Int):=by omega
 have p:(j:Int)<(X d:Int):=by omega
 have v:((i:Int)==(j:Int))=Z:=by simp;omega
 have y:gi (d.map bX.axV) i 5=S (.b g.down):=by simp[gi,t,bX.axV]
 have e:gi (d.map bX.axV) j 5=S (.b l.down):=by simp[gi,w,bX.axV]
 simp only[p43,SS,seval];cases m:g.down
 .have D:l.down=G:=by simpa[m]using z
  simp only[eW,bI,h.all,o,x,n,p,v,y,e,m,D,ab,VV,seval];refine⟨_,rfl,?_⟩;simp only[h.all,VV,seval];exact fp rfl (Wk.refl _ _) rfl ⟨rfl,rfl⟩
 simp only[eW,bI,h.all,o,x,n,p,v,y,e,m,ab,VV,seval];refine⟨.u,(λh=>by cases h),?_⟩;simp only[h.all,VV,seval];exact fp rfl (Wk.refl _ _) rfl ⟨rfl,rfl⟩
def KC(l:List Let)(i:Nat)(e:i<X l)(d:X l<2^30)(b g:Nat)(J:ai)(c:J[b]?=S (cL g l)):PC A 95 [.own b g,.I i,.I ((i:Int)+1)] J (λr a=>r=.own b (g+1)/\a=J.set b (cL (g+1) (l.take i++l.drop (i+1)))):=by have:=PC.KB Tryz.asW (k:=15) (by':=200) (g:=g) (i:=i) (rows:=l.map Let.axV) (by kernel_rfl) (by simpa using e) (by simpa using d) c;rw[<- List.map_take,<- List.map_drop,<- List.map_append]at this;exact this
def MP{f d g:Nat}(h:uV J k a b N)(c C:Ob)(z:mK (X J) c)(t:mK (X J) C)(ax2:List Let)(e:Ev)(p:e.axW=5)(i:Nat)(l:e.n=i)(x:Let)(m:ax2[i]?=S x)(j:X ax2<2^29): PC A 45 [.ptr k 0,.agg e.axV] (jZ J k a b N (eW (.own a f) (.own b d) (.own N g)) c (cL d ax2) C) (λr y=>r=.I 0/\y=jZ J k a b N (eW (.own a f) (.own b (d+1)) (.own N g)) c (cL (d+1) (ax2.take i++ax2.drop (i+1))) C):=by
 obtain⟨B,H,K,D,F⟩:=e;simp only at p l;subst p l;refine aT func45 p45.2 λs E=>an ?_;have o:(ax2.map Let.axV).getD i []=nE x:=by simp[ax,m,mI]
 have u:i<X ax2:=(ag.1 m).1;have v:(0:Int)<=(i:Int):=by omega
 have w:(i:Int)<(X ax2:Int):=by omega
 have q:IntKind.i64.wrap ((i:Int)+1)=(i:Int)+1:=IntWalk.i64_in _ (by omega);simp only[nE]at o;simp only[p45,SS,seval];simp only[Ev.axV,En.axV,eW,cL,h.all,o,v,w,q,ab,VV,seval];refine ak (KC ax2 i u (by omega) b d _ (by simp only[h.all,cL])) rfl ?_;simp only[cL,h.all,VV,seval];exact kc s (kE h.la h.lb h.lc) z trivial t (.inr rfl) rfl (by simp[LW]) ⟨rfl,rfl⟩
def LC(h:uV J k a b N)(l:ai):uV (J++l) k a b N:=by obtain⟨n,j,o,m,g,c,f,e,d,i⟩:=h;exact⟨by simp;omega,by simp;omega,by simp;omega,by simp;omega,g,c,f,e,d,i⟩
def adB(h:uV J k a b N)(l:ai)(K c B C:Ob):jZ (J++l) k a b N K c B C=jZ J k a b N K c B C++l:=by simp only[jZ];rw[iu _ _ h.la,iu _ _ (by simpa using h.lb),iu _ _ (by simpa using h.lc),iu _ _ (by simpa using h.lk)]
def D9{k a b c ga p r:Nat}(h:uV J k a b c)(n:Net)(D:n.axZ)(e:Ev)(w:e.axW=4)(i:Nat)(C:e.n=i)(x:Let)(E:n.aW[i]?=S x)(R:x.op.axZ)(y:X n.aW<2^29)(j:Nat)(H:x.dst=j)(o:bX)(L:n.aM[j]?=S o)(f:bX)(d:Int) (I:∀J,bh A 116 [.agg o.axV,.agg x.op.axV] J (fA f d)) : PC A 45 [.ptr k 0,.agg e.axV] (jZ J k a b c (eW (.own a ga) (.own b p) (.own c r)) (bI ga n.aM) (cL p n.aW) (fm r n.cy)) (CG J k a b c (jS n 4 i x f d).1 (jS n 4 i x f d).2):=by
 obtain⟨M,T,N,O,Q⟩:=e;simp only at w C;subst w C;refine aT func45 p45.2 λt P=>an ?_;have v:(n.aW.map Let.axV).getD i []=nE x:=by simp[ax,E,mI]
 have K:i<X n.aW:=(ag.1 E).1;have u:(0:Int)<=(i:Int):=by omega
 have F:(i:Int)<(X n.aW:Int):=by omega
 have z:IntKind.i64.wrap ((i:Int)+1)=(i:Int)+1:=IntWalk.i64_in _ (by omega);have q:jS n 4 i x f d=if mT n x.src x.dst=G then(Net.zero,8)else if d=0 then(⟨n.aM.set j f,n.aW.take i++n.aW.drop (i+1),n.cy⟩,0)else(Net.zero,d):=by simp[jS,H]
 simp only[nE]at v;simp only[p45,SS,seval];simp only[Ev.axV,En.axV,eW,bI,cL,fm,h.all,v,u,F,z,ab,VV,seval];refine ak (HY n (.own a ga) (.own b p) x.src x.dst c r (by have:=D.tT;omega) _ ?_ ?_ ?_) rfl ?_;.simp only[h.all,fm]
 .simp only[h.all,aK,VV,seval]
 .simp only[h.all,aK,VV,seval]
 cases B:mT n x.src x.dst
 .have m:jS n 4 i x f d=if d=0 then(⟨n.aM.set j f,n.aW.take i++n.aW.drop (i+1),n.cy⟩,0)else(Net.zero,d):=by rw[q,B];rfl
  rw[m];simp only[h.all,VV,seval];have s:=λl=>HD (ga:=ga) (LC h l) (.own b p) (.own c r) (.own _ _ (LC h l).lb) (.own _ _ (LC h l).lc) n.aM (cL p n.aW) (fm r n.cy) trivial trivial x D.D5 j H o L f d I;simp only[adB h,eW,bI,cL,fm]at s;refine ak (s _) (by simp only[mI,nE,VV,seval]) ?_;simp only[VV,seval];refine⟨λg=>?_,λg=>?_⟩
  .have g:¬d=0:=by simpa using g
   simp only[ao g];exact kc t (kE h.la h.lb h.lc) trivial trivial trivial (.inr rfl) rfl (by simp[LW]) ⟨rfl,_,_,_,_,rfl,λh=>absurd h g⟩
  have g:d=0:=by simpa using g
  subst g;simp only[aR,h.all,u,F,z,ab,VV,seval];refine ak (KC n.aW i K (by omega) b p _ (by simp only[h.all,cL])) rfl ?_;simp only[cL,h.all,VV,seval];exact kc t (kE h.la h.lb h.lc) trivial trivial trivial (.inr rfl) rfl (by simp[LW]) ⟨rfl,_,_,_,_,rfl,λ_=>⟨_,_,_,rfl,rfl,rfl,rfl⟩⟩
 have m:jS n 4 i x f d=(Net.zero,8):=by rw[q,B];rfl
 rw[m];simp only[h.all,VV,seval];exact kc t (kE h.la h.lb h.lc) trivial trivial trivial (.inr rfl) rfl (by simp[LW]) ⟨rfl,_,_,_,_,rfl,nofun⟩
def aah(e:Ev)(b:jz n e=Z)(J:ai):bh A 18 [.agg n.axV,.agg e.axV] J (ij Net.zero 1):=by have c:=Dl n e;obtain⟨d,h,j,f,i⟩:=e;refine aT func18 p18.2 λa g=>an ?_;simp only[p18,SS,seval];simp only[Net.axV,Ev.axV,En.axV,ab,↓IT,VV,seval];refine ak (c _) rfl ?_;simp only[b,↓IT,VV,seval];exact lE (xs:=[.agg [.nil,.nil,.nil],.I 1]) (ys:=[.agg Net.zero.axV,.I 1]) a (.inr rfl) (by simp only[RS,seval]) (.cons (.iK (.cons (.nil 6) (.cons (.nil 15) (.cons (.nil 2) .nil)))) (.cons (.refl _) .nil)) (by simp only[Net.zero,Net.axV,LW]) ⟨rfl,rfl⟩
def XZ:Nat:=if P=3 then 43 else if P=7\/P=8 then 44 else if P=4\/P=5\/P=6 then 45 else 46
def tR(e:Ev)(k:Nat):ar:=if e.axW=3 then[.ptr k 0,.I e.a,.I e.b]else[.ptr k 0,.agg e.axV]
def yi(H:n.axZ)(e:Ev)(v:jz n e=true)(m:Net)(f:Int) (y:∀J k a b c,uV J k a b c->PC A (XZ e.axW) (tR e k) (jZ J k a b c (eW (.own a 0) (.own b 0) (.own c 0)) (bI 0 n.aM) (cL 0 n.aW) (fm 0 n.cy)) (CG J k a b c m f)) (J:ai) : bh A 18 [.agg n.axV,.agg e.axV] J (ij m f):=by
 have N:=Dl n e;have z:¬(e.axW<1\/11<e.axW):=λh=>by rw[EO h]at v;cases v
 have i:=y (J++[.box 29 n.axV,.box 38 (Ev.axV e),.box 29 [.nil,.nil,.nil],.dead,.dead,.dead,.dead]) _ _ _ _ (LB J _ _ _ _ _ _ _);rw[qR]at i;obtain⟨p,L,D,E,F⟩:=e;refine aT func18 p18.2 λx O=>?_;simp only[p18,SS,seval];refine cD.cutAt (.more (.more (.more (.cM _ _)))) λR o=>?_;simp only[Net.axV,Ev.axV,En.axV,ab,↓IT,VV,seval];refine ak (N _) rfl ?_;simp only[v,↓IT,VV,seval];refine dV (sB n H _) rfl ?_;rintro r t ⟨rfl,rfl⟩;simp only[bI,cL,fm,aK,da,Nat.reduceAdd,ab,↓IT,VV,seval];refine o _ (cD.fG (fr':=(uu 3 (.ptr (X J+1) 0::.ptr (X J+2) 0::uu 1 (.ptr (X J+6) 0::uu 35 [])))) ?_ (by repeat' constructor));clear o R;simp only[cH,cu,eW,bI,cL,fm,Net.axV,Ev.axV,En.axV,XZ,tR]at i;refine cD.cutAt (.cM _ _) λR o=>?_;have g:∀K d B C,(f=0->∃q s w,K=eW (.own (X J+3) q) (.own (X J+4) s) (.own (X J+5) w)/\d=bI q m.aM/\B=cL s m.aW/\C=fm w m.cy)->∀u,qP u (uu 4 (.ptr (X J+2) 0::uu 1 (.ptr (X J+6) 0::.I f::uu 34 []))) ->
   R ⟨u,J++[.box 29 [.sl 6 (n.aM.map bX.axV),.sl 15 (n.aW.map Let.axV),.sl 2 (n.cy.map ct)],.box 38 (Ev.axV ⟨p,L,D,E,F⟩),.box 29 [.nil,.nil,.nil],d,B,C,K]⟩:=by
  intro K d B C j u M;refine o _ (cD.fG ?_ M);clear o R;refine an ?_;simp only[↓IT,VV,seval];refine⟨λl=>?_,λl=>?_⟩
  .have l:¬f=0:=by simpa using l
   exact lE (xs:=[.agg [.nil,.nil,.nil],.I f]) (ys:=[.agg Net.zero.axV,.I f]) x (.inr rfl) (by simp only[RS,seval]) (.cons (.iK (.cons (.nil 6) (.cons (.nil 15) (.cons (.nil 2) .nil)))) (.cons (.refl _) .nil)) (by simp only[Net.zero,Net.axV,LW]) ⟨by rw[ij,ao l];rfl,rfl⟩
  have l:f=0:=by simpa using l
  subst l;obtain⟨q,s,w,rfl,rfl,rfl,rfl⟩:=j rfl;simp only[eW,bI,cL,fm,aK,ab,↓IT,VV,seval];exact fp (by simp only[RS,seval]) (Nx x rfl rfl rfl rfl rfl) rfl ⟨rfl,rfl⟩
 simp only[Ev.axV,En.axV]at g;rcases kinds p with h|h|h|h
 .rcases h with rfl|rfl|rfl|rfl|rfl;all_goals
   simp only[↓IT,VV,seval]at i |-;refine dV i (by simp only[↓IT,VV,seval]) ?_;rintro r t ⟨rfl,K,d,B,C,rfl,j⟩;rw[qR];simp only[cH,cu,↓IT,VV,seval];exact g K d B C j _ (by repeat' constructor)
 .rcases h with rfl|rfl|rfl;all_goals
   simp only[↓IT,VV,seval]at i |-;refine dV i (by simp only[↓IT,VV,seval]) ?_;rintro r t ⟨rfl,K,d,B,C,rfl,j⟩;rw[qR];simp only[cH,cu,↓IT,VV,seval];exact g K d B C j _ (by repeat' constructor)
 .rcases h with rfl|rfl|rfl;all_goals
   simp only[↓IT,VV,seval]at i |-;refine dV i (by simp only[↓IT,VV,seval]) ?_;rintro r t ⟨rfl,K,d,B,C,rfl,j⟩;rw[qR];simp only[cH,cu,↓IT,VV,seval];exact g K d B C j _ (by repeat' constructor)
 exact absurd h z
def Rx{m K B:Ob}(i:bW (st2 J k a F m))(q:mK (X J) K)(s:mK (X J) B):bW (st2 J k a K B):=by
 have e:∀{l:ai} {d:Nat} {b c:Ob},bW (l.set d b)->mK (X l) c->bW (l.set d c):=by
  intro l d b c h t id T r f j x n;by_cases o:d=id
  .subst o;rw[iT]at f;split at f
   .split at f;.have:=kW f;subst this;rw[fw];exact t j x n
    cases f
   contradiction
  have:=h id T r (by rw[bD o]at f |-;exact f) j x n;simpa using this
 simp only[st2]at i |-;by_cases g:k=a;.subst g;rw[lF]at i |-;exact e i q
 have p:bW ((J.set a m).set k K):=e i (by rw[fw];exact q);rw[o5 _ _ (BM g)]at p |-;exact e p (by rw[fw];exact s)
def aay{n k b:Nat}(h:Pl2 J k b)(N:n<=X J)(z:k+1<X J)(u v:V)(M:u.Lt (X J))(P:v.Lt (X J)){K0 B0:Ob}(F:bW (st2 J k b K0 B0))(i j:Int)(l:List bf)(T:X l<2^29):∀(a c:List bf) (g:Nat) (L:List Let),l=c++a->X L+X a<2^30 ->(((fj 3 (fh (.ptr k 0) (fj 2 (fh (.ptr (k+1) 0) (fj 65 fo))))) λC=>K (.exit 0) ⟨C,st2 J k b (.box 29 [u,.own b (g+X a),v]) (cL (g+X a) (L++a.map (me i j)))⟩)) ->gF n prog JX K (X a+1) ⟨(uu 1 (.I i::.I j::.ptr k 0::uu 2 (.ptr (k+1) 0::uu 48 (.sl 13 (l.map bf.axV)::.I (X l)::.I (X c)::uu 14 [])))),st2 J k b (.box 29 [u,.own b g,v]) (cL g L)⟩:=by
 have H:=h.all;intro a;induction a with
 |nil =>intro c g L d p e;have d:=dH d;subst d;simp only[aj,cg,aq,bE]at e;refine aD λR r=>?_;simp only[JX,kJ,dZ,↓IT,VV,seval];exact e ..
 |cons x a ih =>
 intro c g L d p e;have Q:=ko d;have E:=eE c x (by omega);have m:(List.map bf.axV l).getD (X c) []=x.axV:=by rw[d];exact gA
 have B:(0:Int)<=(X c:Int):=by omega
 have w:(X c:Int)<(X l:Int):=by omega
 simp only[ah]at p;refine aD λR r=>?_;simp only[k6,zk]at m;simp only[JX,cL,H,m,E,B,w,cZ,ab,V.pure,maxLen,aK,↓IT,VV,seval];refine⟨⟨by omega,by omega⟩,?_⟩;have t:L.map Let.axV++[[.I i,.I j,.I x.aZ.time,.I x.aZ.bR,.I x.aZ.ax0,.I x.axW,.sl 3 (x.axY.ax3.map It.axV),.sl 3 (x.axY.ax4.map It.axV),.s x.axY.cJ,.s x.axY.next,.s x.axY.dL,.s x.axY.dh,.I x.axY.ayd,.I x.axY.ayf,.sl 1 (x.ax5.map cG)]]=(L++[me i j x]).map Let.axV:=by simp[me,Let.axV,k6,zk]
 rw[t];have O:g+X (x::a)=g+1+X a:=by simp;omega
 have D:L++(x::a).map (me i j)=(L++[me i j x])++a.map (me i j):=by simp
 rw[O,D]at e;have f:bW (st2 J k b (.box 29 [u,.own b (g+1),v]) (cL (g+1) (L++[me i j x]))):=Rx F (by
  simp only[mK,ah,aj];intro q y o;rcases q with _|_|_|q<;>simp at o<;>subst o;.exact M
  .exact .own _ _ h.lb
  exact P) trivial;refine r _ (vd ((Wk.fG (ys:=(uu 1 (.I i::.I j::.ptr k 0::uu 2 (.ptr (k+1) 0::uu 48 (.sl 13 (l.map bf.axV)::.I (X l)::.I (X (c++[x]))::uu 14 []))))) (by repeat' constructor)).trans (Wk.lA (by rw[rm];exact N) f (dO.1 (by rw[rm];simp only[LW,h.lk,z])))) (ih (c++[x]) (g+1) (L++[me i j x]) (by rw[d];simp) (by simp;omega) e))
def nU{a:ai}{c:ar}{b:List Rs}{Q:V->ai->Prop}(d:X J=k)(e:bW J)(g:lG ⟨c,J++a⟩ b=some [.agg [.nil,.nil,.nil],.I m])(f:Q (.iS [.agg Net.zero.axV,.I m]) J): wF A k b Q .ret ⟨c,J++a⟩:=by subst d;exact lE (ys:=[.agg Net.zero.axV,.I m]) e (.inr rfl) g (.cons (.iK (.cons (.nil 6) (.cons (.nil 15) (.cons (.nil 2) .nil)))) (.cons (.refl _) .nil)) (by simp only[Net.zero,Net.axV,LW]) f
def J3(lv:V)(b m:Nat)(L:List Let):V:=match lv with|.own ..=>.own b m|_=>.sl 15 (L.map Let.axV)
def adM{P:bl}{c:bK}{e:St}(h:a=b)(d:gF k P c K a e):gF k P c K b e:=h▸d
def ZB(h:List bX)(EL:X h<2^30)(ax2:List Let)(au:X ax2<2^28)(k:fF)(aM:X k<2^30)(i j:Nat)(w q:bX)(hi:h[i]?=some w)(hj:h[j]?=some q)(sn:bH)(l:List bf)(vW:X l<2^28) (hS:∀J,bh prog 104 [.agg q.axV] J (.sl 1 (sn.map cG))) (hL:∀J,bh prog 103 [.agg w.axV,.sl 1 (sn.map cG)] J (.sl 13 (l.map bf.axV))) (J:ai) (b g:Nat) (lv:V) (ap:(ax2=[]/\lv=.lit 15 []/\X J<=b)\/(lv=.own b g/\∃y:ai,b<X y/\J=y.set b (cL g ax2))) {Q:V->ai->Prop} (C:∀r p,(if(ka ⟨h,ax2,k⟩ i j w.down q.down l).2=0
   then r=.iS [.agg [.sl 6 (h.map bX.axV),J3 lv b (g+X l) (ax2++l.map (me i j)),.sl 2 (k.map ct)],.I 0]/\p=J.set b (cL (g+X l) (ax2++l.map (me i j)))
   else r=.iS [.agg Net.zero.axV,.I (ka ⟨h,ax2,k⟩ i j w.down q.down l).2]/\p=J)->Q r p):PC prog 52 [.agg [.sl 6 (h.map bX.axV),lv,.sl 2 (k.map ct)],.I i,.I j] J Q:=by
 have P:(h.map bX.axV).getD i []=w.axV:=by simp[ax,hi]
 have F:(h.map bX.axV).getD j []=q.axV:=by simp[ax,hj]
 have oT:i<X h:=(ag.1 hi).1;have uL:j<X h:=(ag.1 hj).1;have W:(0:Int)<=(i:Int):=by omega
 have v:(0:Int)<=(j:Int):=by omega
 have t:(i:Int)<(X h:Int):=by omega
 have U:(j:Int)<(X h:Int):=by omega
 have hw:IntKind.i64.wrap ((X ax2:Int)+(X l:Int))=((X ax2+X l:Nat):Int):=by rw[IntWalk.i64_in _ (by omega)];omega
 have am:IntKind.i64.wrap ((0:Int)+(X l:Int))=(X l:Int):=by rw[IntWalk.i64_in _ (by omega)];omega
 have SY:gi (h.map bX.axV) i 5=some (.b w.down):=by simp[gi,hi,bX.axV]
 have ad:gi (h.map bX.axV) j 5=some (.b q.down):=by simp[gi,hj,bX.axV]
 have ac:∀a b:Int,(k.any λc=>c==fx a b)=mT ⟨h,ax2,k⟩ a b:=λ_ _=>rfl;simp only[bX.axV]at P F hS hL;have aE:∀L:List Let,mT ⟨h,L,k⟩ i j=mT ⟨h,ax2,k⟩ i j:=λ_=>rfl;have E:∀e,ka ⟨h,ax2,k⟩ i j w.down q.down l=(Net.zero,e)->e≠0->Q (.iS [.agg Net.zero.axV,.I e]) J:=λe v t=>C _ _ (by rw[v,ao t];exact⟨rfl,rfl⟩);rcases ap with⟨rfl,rfl,af⟩|⟨rfl,y,hb,rfl⟩
 .refine aT func52 p52.2 λo dG=>an ?_;simp only[p52,SS,seval];simp only[P,F,W,v,t,U,SY,ad,ab,↓IT,VV,seval];refine⟨λu=>?_,λu=>?_⟩;.exact nU rfl o (by simp only[RS,seval]) (E 1 (by simp[ka,beq_iff_eq.1 u]) (by decide))
  have D:¬(i:Int)=j:=by simpa using u
  refine⟨.b q.down,λ_=>rfl,?_⟩;simp only[NG,↓IT,VV,seval];refine⟨λz=>?_,λz=>?_⟩;.exact nU rfl o (by simp only[RS,seval]) (E 15 (by simp only[ka,ao D,aO z]) (by decide))
  have m:¬(w.down||q.down)=true:=by simpa using z
  simp only[km]at z;refine ak (ye k _ _ i j (by omega) _ ?_ ?_ ?_ ?_) rfl ?_;.rfl
  .rfl
  .exact .sl ..
  .exact .lit ..
  rw[ac];cases M:mT ⟨h,[],k⟩ i j
  .simp only[P,F,W,v,t,U,ab,↓IT,VV,seval];refine ak (hS _) rfl ?_;simp only[P,F,W,v,t,U,ab,↓IT,VV,seval];refine ak (hL _) rfl ?_;simp only[am,ab,↓IT,VV,seval];refine⟨λO=>?_,λO=>?_⟩
   .refine nU rfl o (by simp only[RS,seval]) (E 3 ?_ (by decide));have T:¬X ([]:List Let)+X l<=256:=by simp at O;simp;omega
    simp only[ka,ao D,ao m,M,ao T,aI,bo]
   have T:X ([]:List Let)+X l<=256:=by simp at O;simp;omega
   have hq:ka ⟨h,[],k⟩ i j w.down q.down l=(⟨h,[]++l.map (me i j),k⟩,0):=by simp only[ka,ao D,ao m,M,aO T,aI,bo];rfl
   replace C:∀r p,r=.iS [.agg [.sl 6 (h.map bX.axV),J3 (.lit 15 []) b (g+X l) ([]++l.map (me i j)),.sl 2 (k.map ct)],.I 0]->p=J.set b (cL (g+X l) ([]++l.map (me i j)))->Q r p:=λr p v t=>C r p (by rw[hq,aO rfl];exact⟨v,t⟩);rw[apT af]at C;have av:bW (J++[.box 29 [.sl 6 (h.map bX.axV),.lit 15 [],.sl 2 (k.map ct)],.box 29 [.nil,.nil,.nil]]):=cx o (by simp only[bV,bM,dp,dF,dm,LW]);refine cD.mM (X l+1) (aD λR hR=>?_);rcases Nat.eq_zero_or_pos (X l) with h5|h5;.obtain rfl:=bQ h5;simp only[JX,aj,kJ,dZ,↓IT,VV,seval];refine gT (xs':=[.agg [.sl 6 (h.map bX.axV),.sl 15 [],.sl 2 (k.map ct)],.I 0]) (.inr rfl) (by simp only[RS,seval]) ((Wk.fG (.cons (.iK (.cons (.refl _) (.cons (.lit _ _) (.cons (.refl _) .nil)))) (.cons (.refl _) .nil))).trans (Wk.lA (aB _) o (dO.1 ?_))) rfl (C _ _ rfl rfl);simp only[LW]
   obtain⟨x,l',u⟩:=List.exists_cons_of_length_pos h5;have h4:(0:Int)<(X l:Int):=by omega
   have dP:(l.map bf.axV).getD 0 []=zk x:=by rw[u,<- k6];rfl
   have eX:X l=X l'+1:=by rw[u];rfl
   have Nd:IntKind.i64.wrap ((0:Int)+1)=1:=by decide
   have e0:[[.I i,.I j,.I x.aZ.time,.I x.aZ.bR,.I x.aZ.ax0,.I x.axW,.sl 3 (x.axY.ax3.map It.axV),.sl 3 (x.axY.ax4.map It.axV),.s x.axY.cJ,.s x.axY.next,.s x.axY.dL,.s x.axY.dh,.I x.axY.ayd,.I x.axY.ayf,.sl 1 (x.ax5.map cG)]]=[me i j x].map Let.axV:=by simp[me,Let.axV,k6,zk]
   simp only[zk]at dP;have L1:(1:Int)<=140737488355328:=by decide
   simp only[JX,dP,Nd,h4,cZ,gm,aI,bo,V.pure,maxLen,ab,↓IT,VV,seval];rw[e0];have N:∀K B d f,J++[K,d,f,B]=st2 (J++[.dead,d,f,.dead]) (X J) (X J+3) K B:=λK B d f=>by simp only[st2,ji,rS];rfl
   have Ed:∀d f,Pl2 (J++[Ob.dead,d,f,.dead]) (X J) (X J+3):=λd f=>⟨by simp,by simp,by omega⟩;rw[N];refine hR _ (vd (Wk.fG (ys:=(uu 1 (.I i::.I j::.ptr (X J) 0::uu 2 (.ptr (X J+1) 0::uu 48 (.sl 13 (l.map bf.axV)::.I (X l)::.I (X ([x]:List bf))::uu 14 []))))) (by repeat' constructor)) ?_);refine adM eX.symm (aay (n:=X J) (Ed _ _) (by simp) (by simp) (.sl 6 (h.map bX.axV)) (.sl 2 (k.map ct)) (.sl ..) (.sl ..) (K0:=.box 29 [.nil,.nil,.nil]) (B0:=.dead) ?_ i j l (by omega) l' [x] 0 [me i j x] u (by simp;omega) ?_);.rw[<- N];refine cx o ?_;simp only[bV,bM,dp,dF,dm,LW]
   simp only[JE];intros;rw[<- N];simp only[cL,aK,↓IT,VV,seval];refine fB 3 o (by simp only[RS,seval];rfl) rfl ?_ (C _ _ ?_ rfl);.simp only[az,aq,Pm.fz,jR,cw,aR,LW]
   simp only[az,aq,Pm.fz,jR,cw,aR,J3,u];rfl
  simp only[↓IT,VV,seval];exact nU rfl o (by simp only[RS,seval]) (E 8 (by simp only[ka,ao D,ao m,M,aR]) (by decide))
 refine aT func52 p52.2 λo dG=>an ?_;have H:=at1 hb;simp only[p52,SS,seval];simp only[cL,H,aK,P,F,W,v,t,U,SY,ad,ab,↓IT,VV,seval];refine⟨λu=>?_,λu=>?_⟩;.exact nU (by simp) o (by simp only[RS,H,seval]) (E 1 (by simp[ka,beq_iff_eq.1 u]) (by decide))
 have D:¬(i:Int)=j:=by simpa using u
 refine⟨.b q.down,λ_=>rfl,?_⟩;simp only[cL,H,aK,NG,↓IT,VV,seval];refine⟨λz=>?_,λz=>?_⟩;.exact nU (by simp) o (by simp only[RS,H,seval]) (E 15 (by simp only[ka,ao D,aO z]) (by decide))
 have m:¬(w.down||q.down)=true:=by simpa using z
 simp only[km]at z;refine ak (ye k _ _ i j (by omega) _ ?_ ?_ ?_ ?_) rfl ?_;.rfl
 .simp only[cL,H,aK,VV,seval]
 .exact .sl ..
 .simp only[cL,H,LW];omega
 rw[ac];cases M:mT ⟨h,ax2,k⟩ i j
 .simp only[cL,H,aK,P,F,W,v,t,U,ab,↓IT,VV,seval];refine ak (hS _) rfl ?_;simp only[cL,H,aK,P,F,W,v,t,U,ab,↓IT,VV,seval];refine ak (hL _) rfl ?_;simp only[cL,H,aK,hw,ab,↓IT,VV,seval];refine⟨λO=>?_,λO=>?_⟩
  .refine nU (by simp) o (by simp only[RS,H,seval]) (E 3 ?_ (by decide));have T:¬X (ax2:List Let)+X l<=256:=by simp at O;simp;omega
   simp only[ka,ao D,ao m,M,ao T,aI,bo]
  have T:X (ax2:List Let)+X l<=256:=by simp at O;omega
  have hq:ka ⟨h,ax2,k⟩ i j w.down q.down l=(⟨h,ax2++l.map (me i j),k⟩,0):=by simp only[ka,ao D,ao m,M,aO T,aI,bo];rfl
  replace C:∀r p,r=.iS [.agg [.sl 6 (h.map bX.axV),J3 (.own b g) b (g+X l) (ax2++l.map (me i j)),.sl 2 (k.map ct)],.I 0]->p=y.set b (cL (g+X l) (ax2++l.map (me i j)))->Q r p:=λr p v t=>C r p (by rw[hq,aO rfl];exact⟨v,by rw[t,lF]⟩);have N:∀K B d,y.set b B++[K,d]=st2 (y++[.dead,d]) (X y) b K B:=λK B d=>by rw[st2,iu _ _ hb,ej _ _ (by simp)];simp
  have Ed:Pl2 (y++[Ob.dead,.box 29 [.nil,.nil,.nil]]) (X y) b:=⟨by simp,by simp;omega,by omega⟩;rw[N];refine cD.wk (Wk.fG (ys:=(uu 1 (.I i::.I j::.ptr (X y) 0::uu 2 (.ptr (X y+1) 0::uu 48 (.sl 13 (l.map bf.axV)::.I (X l)::.I (X ([]:List bf):Nat)::uu 14 []))))) (by repeat' constructor)) (cD.mM (X l+1) (aay Ed (by simp) (by simp) (.sl 6 (h.map bX.axV)) (.sl 2 (k.map ct)) (.sl ..) (.sl ..) (K0:=.box 29 [.nil,.nil,.nil]) (B0:=cL g ax2) ?_ i j l (by omega) l [] g ax2 rfl (by omega) ?_));.rw[<- N];refine cx o ?_;simp only[bV,bM,dp,dF,dm,LW]
  simp only[JE];intros;rw[<- N];simp only[cL,H,aK,↓IT,VV,seval];refine fp (by simp only[RS,H,seval];rfl) (Wk.lA (by simp) (qw o (by simp)) (dO.1 ?_)) rfl (C _ _ rfl rfl);simp only[LW,fw];exact hb
 simp only[cL,H,aK,↓IT,VV,seval];exact nU (by simp) o (by simp only[RS,H,seval]) (E 8 (by simp only[ka,ao D,ao m,M,aR]) (by decide))
def ah0(e:Ev)(c:jz n e=Z)(J:ai):bh A 19 [.agg n.axV,.agg e.axV] J (ij Net.zero 1):=by have a:=JD n e;refine aT func19 Yx.2 λb d=>?_;simp only[Yx,SS,seval];refine cD.cutAt (.more (.cM _ _)) λR f=>?_;simp only[Net.axV,Ev.axV,En.axV,↓IT,VV,seval]at a |-;refine ak (a _) rfl ?_;simp only[c,↓IT,VV,seval];exact nU rfl b (by simp only[RS,seval]) ⟨rfl,rfl⟩
def CU:bK->bK|.seq _ (.seq _ (.seq _ c))=>c|c=>c
def rN(e:Ev)(g:jz n e=true)(J:ai)(Q:V->ai->Prop)(x y:V)(l:ai) (i:(x=.own (X J+3) 0/\y=.sl 15 (n.aW.map Let.axV)/\l=[bI 0 n.aM])\/(x=.sl 6 (n.aM.map bX.axV)/\((y=.own (X J+3) 0/\l=[cL 0 n.aW])\/((y=.lit 15 []\/y=.sl 15 (n.aW.map Let.axV))/\l=[])))) (b:∀a:ai,X a=X J+3->PC A 48 [.agg n.axV] a (λr j=>r=.agg [x,y,.sl 2 (n.cy.map ct)]/\j=a++l)) (h:bW J->cD (X J) A (CU Yx.1.c) (wF A (X J) [.c 4 (S 3),.t 5] Q) ⟨(uu 3 (.ptr (X J+1) 0::.ptr (X J+2) 0::uu 1 (.ptr (X J+3+X l) 0::uu 158 []))),J++([.box 29 n.axV,.box 38 e.axV,.box 29 [.nil,.nil,.nil]]++(l++[.box 29 [x,y,.sl 2 (n.cy.map ct)]]))⟩) : PC A 19 [.agg n.axV,.agg e.axV] J Q:=by
 have d:=JD n e;refine aT func19 Yx.2 λf m=>?_;replace h:=h f;simp only[Yx,CU]at h;simp only[Yx,SS,seval];refine cD.cutAt (.more (.more (.cM _ _))) λR k=>?_;simp only[Net.axV,Ev.axV,En.axV,↓IT,VV,seval]at d b |-;refine ak (d _) rfl ?_;simp only[g,↓IT,VV,seval];refine ak (b _ (by simp)) rfl ?_;rcases i with⟨rfl,rfl,rfl⟩|⟨rfl,(⟨rfl,rfl⟩|⟨(rfl|rfl),rfl⟩)⟩ <;>
 .simp only[bI,cL,aK,da,Nat.reduceAdd,↓IT,VV,seval]at h |-;exact k _ (cD.fG h (by repeat' constructor))
def R9(a g:Nat)(b:List bX)(ax2:List Let)(f:fF)(i:Nat)(m:i<X b)(e:bX)(c:Int)(d:ai)(l:d[a]?=some (bI g b)):
  PC A 50 [pj a g ax2 f,.I i,.agg e.axV,.I c] d (λr h=>r=.iS [if c=0 then pj a g ax2 f else .agg Net.zero.axV,.I c]/\h=d.set a (bI g (if c=0 then b.set i e else b))):=by obtain⟨k,j⟩:=ag.1 l;have:=FA a g b ax2 f i m e c d k;rwa [<- j,uX]at this
set_option maxRecDepth 4000 in
def adT(F:n.axZ)(e:Ev)(z:e.axW=1\/e.axW=2\/e.axW=9\/e.axW=10\/e.axW=11)(E:jz n e=G)(i:Nat)(C:e.a=i)(o:bX)(s:n.aM[i]?=S o)(t:bX)(l:Int) (r:OfX 49 51 54 55 56 o e t l) (J:ai) : bh A 19 [.agg n.axV,.agg e.axV] J (ij ⟨n.aM.set i t,n.aW,n.cy⟩ l):=by
 have L:n.aM≠[]:=λh=>by rw[h]at s;simp at s
 refine rN n e E J _ _ _ _ (.inl ⟨rfl,rfl,rfl⟩) (λw y=>?_) λj=>?_;.rw[<- y];exact wM n F L w
 obtain⟨K,P,M,N,O⟩:=e;simp only at z C;subst C;have m:(n.aM.map bX.axV).getD i []=o.axV:=by simp[ax,s]
 have D:i<X n.aM:=(ag.1 s).1;have p:(0:Int)<=(i:Int):=by omega
 have q:(i:Int)<(X n.aM:Int):=by omega
 have B:gi (n.aM.map bX.axV) i 5=S (.b o.down):=by simp[gi,s,bX.axV]
 simp only[bX.axV]at m;simp only[Yx,CU,aF,aw,ah,aj,aP,da,Nat.reduceAdd];have u:=λw H=>R9 (X J+3) 0 n.aM n.aW n.cy i D t l w H;have f:=show[V.agg [.own (X J+3) 0,.sl 15 (n.aW.map Let.axV),.sl 2 (n.cy.map ct)],.I 0].map (Pm.fz (X J+3) 0 6 ((n.aM.set i t).map bX.axV))=[.agg (Net.axV ⟨n.aM.set i t,n.aW,n.cy⟩),.I 0]by simp only[az,aq,Pm.fz,jR,cw,aR,Net.axV]
 refine an ?_;rcases z with rfl|rfl|rfl|rfl|rfl
 .obtain⟨x,k⟩:=r.c1 rfl;simp only[Ev.axV,En.axV,bI,m,p,q,aK,bX.axV,ab,↓IT,VV,seval];intro d c;refine ak (k _) (by simp only[bX.axV,En.axV,VV,seval]) ?_;simp only[gg,k6,zk,bX.axV,bI,da,Nat.reduceAdd,aK,↓IT,VV,seval];refine ak (u _ (by rw[jE];rfl)) (by simp only[pj,bX.axV,VV,seval]) ?_;by_cases g:l=0;.subst g;simp only[pj,bI,aR,aK,da,Nat.reduceAdd,↓IT,VV,seval];exact fB 3 j (by simp only[RS,seval];rfl) rfl (by rw[f];simp only[Net.axV,LW]) (by rw[f];exact⟨rfl,rfl⟩)
  simp only[Net.zero,Net.axV,bI,ao g,aq,↓IT,VV,seval];exact aS j (by simp only[RS,seval];rfl) (by simp[LW]) ⟨by simp only[ij,ao g,Net.zero,Net.axV,aq];rfl,rfl⟩
 .obtain⟨x,k⟩:=r.c2 rfl;simp only[Ev.axV,En.axV,bI,m,p,q,aK,bX.axV,ab,↓IT,VV,seval];intro d c;refine ak (k _) (by simp only[bX.axV,En.axV,VV,seval]) ?_;simp only[gg,k6,zk,bX.axV,bI,da,Nat.reduceAdd,aK,↓IT,VV,seval];refine ak (u _ (by rw[jE];rfl)) (by simp only[pj,bX.axV,VV,seval]) ?_;by_cases g:l=0;.subst g;simp only[pj,bI,aR,aK,da,Nat.reduceAdd,↓IT,VV,seval];exact fB 3 j (by simp only[RS,seval];rfl) rfl (by rw[f];simp only[Net.axV,LW]) (by rw[f];exact⟨rfl,rfl⟩)
  simp only[Net.zero,Net.axV,bI,ao g,aq,↓IT,VV,seval];exact aS j (by simp only[RS,seval];rfl) (by simp[LW]) ⟨by simp only[ij,ao g,Net.zero,Net.axV,aq];rfl,rfl⟩
 .have k:=r.c9 rfl;simp only[Ev.axV,En.axV,bI,m,p,q,aK,bX.axV,ab,↓IT,VV,seval];refine ak (k _) (by simp only[bX.axV,VV,seval]) ?_;simp only[fA,bX.axV,bI,da,Nat.reduceAdd,aK,↓IT,VV,seval];refine ak (u _ (by rw[jE];rfl)) (by simp only[pj,bX.axV,VV,seval]) ?_;by_cases g:l=0;.subst g;simp only[pj,bI,aR,aK,da,Nat.reduceAdd,↓IT,VV,seval];exact fB 3 j (by simp only[RS,seval];rfl) rfl (by rw[f];simp only[Net.axV,LW]) (by rw[f];exact⟨rfl,rfl⟩)
  simp only[Net.zero,Net.axV,bI,ao g,aq,↓IT,VV,seval];exact aS j (by simp only[RS,seval];rfl) (by simp[LW]) ⟨by simp only[ij,ao g,Net.zero,Net.axV,aq];rfl,rfl⟩
 .rcases r.Es rfl with⟨v,rfl⟩|⟨v,rfl,k⟩;.simp only[Ev.axV,En.axV,bI,m,p,q,B,v,aK,bX.axV,ab,↓IT,VV,seval];exact nU rfl j (by simp only[RS,seval]) ⟨rfl,rfl⟩
  simp only[Ev.axV,En.axV,bI,m,p,q,B,v,aK,bX.axV,ab,↓IT,VV,seval];refine ak (k _) (by simp only[bX.axV,v,VV,seval]) ?_;simp only[bX.axV,bI,da,Nat.reduceAdd,aK,↓IT,VV,seval];refine ak (u _ (by rw[jE];rfl)) (by simp only[pj,bX.axV,VV,seval]) ?_;simp only[pj,bI,aR,aK,da,Nat.reduceAdd,↓IT,VV,seval];exact fB 3 j (by simp only[RS,seval];rfl) rfl (by rw[f];simp only[Net.axV,LW]) (by rw[f];exact⟨rfl,rfl⟩)
 have k:=r.c11 rfl;simp only[Ev.axV,En.axV,bI,m,p,q,aK,bX.axV,ab,↓IT,VV,seval];refine ak (k _) (by simp only[bX.axV,VV,seval]) ?_;simp only[fA,bX.axV,bI,da,Nat.reduceAdd,aK,↓IT,VV,seval];refine ak (u _ (by rw[jE];rfl)) (by simp only[pj,bX.axV,VV,seval]) ?_;by_cases g:l=0;.subst g;simp only[pj,bI,aR,aK,da,Nat.reduceAdd,↓IT,VV,seval];exact fB 3 j (by simp only[RS,seval];rfl) rfl (by rw[f];simp only[Net.axV,LW]) (by rw[f];exact⟨rfl,rfl⟩)
 simp only[Net.zero,Net.axV,bI,ao g,aq,↓IT,VV,seval];exact aS j (by simp only[RS,seval];rfl) (by simp[LW]) ⟨by simp only[ij,ao g,Net.zero,Net.axV,aq];rfl,rfl⟩
set_option maxRecDepth 4000 in
def adU(h:n.axZ)(r:n.aM≠[])(e:Ev)(i:e.axW=7\/e.axW=8)(j:jz n e=G)(J:ai): bh A 19 [.agg n.axV,.agg e.axV] J (ij ⟨n.aM,n.aW,(oL n.cy e.a e.b (e.axW==8)).1⟩ (oL n.cy e.a e.b (e.axW==8)).2):=by
 refine rN n e j J _ _ _ _ (.inr ⟨rfl,.inr ⟨.inr rfl,rfl⟩⟩) (λk o=>?_) λg=>?_;.have:=OW n h r k;simpa only[Net.axV,bE]using this
 have c:=λJ=>adV n (by have:=h.tT;omega) e.a e.b (e.axW==8) J;obtain⟨f,m,p,s,t⟩:=e;simp only at i c |-;simp only[Yx,CU,aF,aw,bE,ah,aj,cg,aP,da,Nat.reduceAdd];refine an ?_;generalize oL n.cy m p (f==8)=q at c |-;obtain⟨u,l⟩:=q;rcases i with rfl|rfl;all_goals
  simp only[Net.axV,Ev.axV,En.axV,ab,↓IT,VV,seval]at c |-;refine ak (c _) rfl ?_;by_cases d:l=0;.simp only[aO d,↓IT,VV,seval];exact aS g (by simp only[RS,seval];rfl) (by simp[LW]) ⟨by simp only[ij,aO d,Net.axV];rfl,rfl⟩
  simp only[ao d,Net.zero,Net.axV,aq,↓IT,VV,seval];exact aS g (by simp only[RS,seval];rfl) (by simp[LW]) ⟨by simp only[ij,ao d,Net.zero,Net.axV,aq];rfl,rfl⟩
def Zk{n:Net}{i j:Int}{a b:Bool}{l:List bf}(h:(ka n i j a b l).2=0):(ka n i j a b l).1=⟨n.aM,n.aW++l.map (me i j),n.cy⟩:=by
 revert h;simp only[ka];split;.simp
 split;.simp
 split;.simp
 split;.exact λ_=>rfl
 simp
def EC(h:J[k]?=S F):∃a:ai,k<X a/\J=a.set k F:=by obtain⟨c,b⟩:=ag.1 h;exact⟨J,c,by rw[<- b,uX]⟩
set_option maxRecDepth 4000 in
def ZE(w:n.axZ)(m:X n.aW<2^28)(e:Ev)(s:e.axW=3)(I:jz n e=G)(i j:Nat)(v:e.a=i)(x:e.b=j)(f k:bX)(C:n.aM[i]?=S f)(M:n.aM[j]?=S k)(z:bH)(l:List bf)(T:X l<2^28) (U:∀J,bh A 104 [.agg k.axV] J (.sl 1 (z.map cG))) (O:∀J,bh A 103 [.agg f.axV,.sl 1 (z.map cG)] J (.sl 13 (l.map bf.axV))) (J:ai) : bh A 19 [.agg n.axV,.agg e.axV] J (ij (ka n i j f.down k.down l).1 (ka n i j f.down k.down l).2):=by
 have K:n.aM≠[]:=λh=>by rw[h]at C;simp at C
 have d:=λJ b g lv E Q L=>ZB n.aM w.D5 n.aW m n.cy w.tT i j f k C M z l T U O J b g lv E (Q:=Q) L;have t:=@Zk n i j f.down k.down l;have D:(⟨n.aM,n.aW,n.cy⟩:Net)=n:=rfl;simp only[D]at d;generalize ka n i j f.down k.down l=q at d t |-;obtain⟨W,H⟩:=q;simp only at d t |-;by_cases u:n.aW=[]
 .refine rN n e I J _ _ _ _ (.inr ⟨rfl,.inr ⟨.inl rfl,rfl⟩⟩) (λB p=>?_) λo=>?_;.simpa only[bE]using OV n w K u B
  obtain⟨F,V,N,P,R⟩:=e;simp only at s v x;subst s v x;simp only[Yx,CU,aF,aw,bE,ah,aj,cg,aP,da,Nat.reduceAdd];refine an ?_;simp only[Ev.axV,En.axV,↓IT,VV,seval];by_cases c:H=0;.refine ak (d _ (X J+4) 0 _ (.inl ⟨u,rfl,by simp⟩) _ (λr y h=>by rw[aO c]at h;exact h)) rfl ?_;rw[apT (by simp)];simp only[J3,↓IT,VV,seval];refine aS o (by simp only[RS,seval];rfl) (by simp[LW]) ⟨?_,rfl⟩;rw[ij,aO c,t c,c];rfl
  refine ak (d _ (X J+4) 0 _ (.inl ⟨u,rfl,by simp⟩) _ (λr y h=>by rw[ao c]at h;exact h)) rfl ?_;simp only[Net.zero,Net.axV,aq,↓IT,VV,seval];exact aS o (by simp only[RS,seval];rfl) (by simp[LW]) ⟨by simp only[ij,ao c,Net.zero,Net.axV,aq];rfl,rfl⟩
 refine rN n e I J _ _ _ _ (.inr ⟨rfl,.inl ⟨rfl,rfl⟩⟩) (λB p=>?_) λo=>?_;.rw[<- p];exact C2 n w K u B
 obtain⟨F,V,N,P,R⟩:=e;simp only at s v x;subst s v x;simp only[Yx,CU,aF,aw,bE,ah,aj,cg,aP,da,Nat.reduceAdd];refine an ?_;simp only[Ev.axV,En.axV,cL,aK,↓IT,VV,seval];by_cases c:H=0
 .refine ak (d _ (X J+3) 0 _ (.inr ⟨rfl,EC (by rw[jE];rfl)⟩) _ (λr y h=>by rw[aO c]at h;exact h)) rfl ?_;simp only[J3,cL,aK,↓IT,VV,seval];refine fB 3 o (by simp only[RS,seval];rfl) rfl ?_ ?_;.simp only[az,aq,Pm.fz,jR,cw,aR,LW]
  simp only[az,aq,Pm.fz,jR,cw,aR];rw[ij,aO c,t c,c];exact⟨rfl,trivial⟩
 refine ak (d _ (X J+3) 0 _ (.inr ⟨rfl,EC (by rw[jE];rfl)⟩) _ (λr y h=>by rw[ao c]at h;exact h)) rfl ?_;simp only[Net.zero,Net.axV,aq,↓IT,VV,seval];exact aS o (by simp only[RS,seval];rfl) (by simp[LW]) ⟨by simp only[ij,ao c,Net.zero,Net.axV,aq];rfl,rfl⟩
set_option maxRecDepth 4000 in
def Sb(n:Net)(C:n.axZ)(F:n.aM≠[])(q:X n.aW<=256)(e:Ev)(k:e.axW=6)(y:jz n e=G)(i:Nat)(m:e.n=i)(x:Let)(o:n.aW[i]?=some x)(p:bX)(g:Int)(J:ai): bh A 19 [.agg n.axV,.agg e.axV] J (ij (jS n 6 i x p g).1 (jS n 6 i x p g).2):=by
 have z:n.aW≠[]:=λh=>by rw[h]at o;simp at o
 refine rN n e y J _ _ _ _ (.inr ⟨rfl,.inl ⟨rfl,rfl⟩⟩) (λa d=>?_) λs=>?_;.rw[<- d];exact C2 n C F z a
 have t:=λa j=>FD (X J+3) 0 n.aM n.aW n.cy e k i m x o (by omega) a j;obtain⟨E,D,w,H,B⟩:=e;simp only at k m;subst k m;simp only[Yx,CU,aF,aw,bE,ah,aj,cg,aP,da,Nat.reduceAdd];refine an ?_;have b:∀a:ai,a[X J+3]?=some (cL 0 n.aW)->∀Q:V->ai->Prop,(∀r c,(if 256<=X n.aW then r=.iS [.agg Net.zero.axV,.I 3]/\c=a else r=.iS [.agg [.sl 6 (n.aM.map bX.axV),.own (X J+3) (0+1),.sl 2 (n.cy.map ct)],.I 0]/\c=a.set (X J+3) (cL (0+1) (n.aW++[x])))->Q r c)->PC A 57 [.agg [.sl 6 (n.aM.map bX.axV),.own (X J+3) 0,.sl 2 (n.cy.map ct)],.agg (Ev.axV ⟨6,D,w,i,B⟩)] a Q:=by intro a d Q u;obtain⟨l,j,rfl⟩:=EC d;refine(t l j).mono λr c h=>u r c ?_;simpa only[lF]using h
 have v:jS n 6 i x p g=if 256<=X n.aW then(Net.zero,3)else(⟨n.aM,n.aW++[x],n.cy⟩,0):=by
  have:X n.aW=256<->256<=X n.aW:=by omega
  simp[jS,this]
 rw[v];simp only[Ev.axV,En.axV,cL,aP,aK,↓IT,VV,seval]at b |-;by_cases h:256<=X n.aW;.refine ak (b _ (by rw[jE];rfl) _ (λr c f=>by rw[aO h]at f;exact f)) rfl ?_;simp only[aO h,Net.zero,Net.axV,aq,↓IT,VV,seval];exact aS s (by simp only[RS,seval];rfl) (by simp[LW]) ⟨rfl,rfl⟩
 refine ak (b _ (by rw[jE];rfl) _ (λr c f=>by rw[ao h]at f;exact f)) rfl ?_;simp only[ao h,aK,↓IT,VV,seval];refine fB 3 s (by simp only[RS,seval];rfl) rfl ?_ ?_;.simp only[az,aq,Pm.fz,jR,cw,aR,LW]
 simp only[az,aq,Pm.fz,jR,cw,aR];exact⟨rfl,trivial⟩
set_option maxRecDepth 4000 in
def OU(n:Net)(w:n.axZ)(y:X n.aW<=256)(e:Ev)(m:e.axW=4\/e.axW=5)(F:jz n e=G)(i:Nat)(v:e.n=i)(x:Let)(H:n.aW[i]?=some x)(j:Nat)(L:x.dst=j)(o:bX)(t:n.aM[j]?=some o)(c:bX)(b:Int) (C:∀J,bh A 63 [.agg o.axV,.agg x.op.axV] J (fA c b)) (J:ai) : bh A 19 [.agg n.axV,.agg e.axV] J (ij (jS n e.axW i x c b).1 (jS n e.axW i x c b).2):=by
 have N:n.aM≠[]:=λh=>by rw[h]at t;simp at t
 refine rN n e F J _ _ _ _ (.inl ⟨rfl,rfl,rfl⟩) (λk f=>?_) λz=>?_;.rw[<- f];exact wM n w N k
 have B:=λl K=>Lq (X J+3) 0 n.aM n.aW n.cy w.tT e m i v x H (by omega) j L o t w.D5 c b C l K;have d:(jS n e.axW i x c b).2=0->(jS n e.axW i x c b).1.cy=n.cy:=by
  rcases m with h|h<;>rw[h]<;>simp only[jS]<;>repeat' split
  all_goals simp_all
 have p:∀k:ai,k[X J+3]?=some (bI 0 n.aM)->PC A 57 [pj (X J+3) 0 n.aW n.cy,.agg e.axV] k (λr l=>∃a,l=k.set (X J+3) a/\r=.iS [if(jS n e.axW i x c b).2=0 then pj (X J+3) 0 (jS n e.axW i x c b).1.aW n.cy else .agg Net.zero.axV,.I (jS n e.axW i x c b).2] /\
   ((jS n e.axW i x c b).2=0->a=bI 0 (jS n e.axW i x c b).1.aM)):=by intro k f;obtain⟨s,D,rfl⟩:=EC f;simp only[lF];exact B s D
 clear B;generalize jS n e.axW i x c b=q at p d |-;obtain⟨O,u⟩:=q;obtain⟨M,T,P,Q,R⟩:=e;simp only at m v p d |-;subst v;simp only[Yx,CU,aF,aw,bE,ah,aj,cg,aP,da,Nat.reduceAdd];refine an ?_;rcases m with rfl|rfl;all_goals
  simp only[Ev.axV,En.axV,bI,aK,↓IT,VV,seval]at p |-;refine dV (p _ (by rw[jE];rfl)) rfl ?_;rintro r l ⟨a,rfl,rfl,E⟩;by_cases g:u=0
  .rw[E g];simp only[aO g,pj,aK,↓IT,VV,seval];refine fB 3 z (by simp only[RS,seval];rfl) rfl ?_ ?_;.simp only[az,aq,Pm.fz,jR,cw,aR,LW]
   simp only[az,aq,Pm.fz,jR,cw,aR];rw[ij,aO g,Net.axV,d g];exact⟨rfl,trivial⟩
  simp only[ao g,Net.zero,Net.axV,aq,↓IT,VV,seval];exact aS z (by simp only[RS,seval];rfl) (by simp[LW]) ⟨by simp only[ij,ao g,Net.zero,Net.axV,aq];rfl,rfl⟩

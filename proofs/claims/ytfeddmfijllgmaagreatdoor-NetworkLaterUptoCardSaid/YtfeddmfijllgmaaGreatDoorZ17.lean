/- Part of a proof. -/
import Derived.Test.YtfeddmfijllgmaaGreatDoorZ11
import Derived.Test.YtfeddmfijllgmaaGreatDoorZ12
import Derived.Test.YtfeddmfijllgmaaGreatDoorZ15
import Derived.Test.YtfeddmfijllgmaaGreatDoorZ16
set_option linter.all false
set_option maxHeartbeats 2000000
open Bool renaming true->G,false->Z
open Go.Proofs.Tryz renaming prog->A
open List renaming length->X
namespace Go.Proofs.Tryz
open Go Go.Pm Go.Bt
variable(v:bH)(n:Int)(f:List It)(R:cz)(m:List En)(q:V)(s:aL)(U:ai)(a:Nat)(c:UInt8)(x:It)(Q:bf)(d:Int){T:Nat}{t:aL}{J:ai}{K:bG}{o:bf}
set_option maxRecDepth 4000 in
def Qm(q:a<X U)(l:bH)(k:Nat)(x:k<2^49)(N:Nat)(L:N<=20): PC A 137 [.ptr a 0,.I N,.b true,.b true] (lV U a l k) (λr s=>∃(f:List It) (k':Nat),r=.sl 3 (f.map It.axV)/\cj [] f=0/\X f<=2*N/\bA f<=23*N/\(k<=k'/\k'<=k+12*N+1)/\s=lV U a l k'):=by
 refine aT func137 anR.2 λo D=>?_;have p:IntKind.i64.wrap ((N:Int)+1)=((N+1:Nat):Int):=cT (by omega);simp only[anR,SS,seval];refine cD.cut λR d=>?_;simp only[cq,VV,seval];refine d _ ?_;clear d R;refine cD.cut λR d=>?_;simp only[cq,VV,seval];refine d _ ?_;clear d R;refine cD.cut λR d=>?_;simp only[cq,VV,seval];refine d _ ?_;clear d R;refine cD.cut λR d=>?_;simp only[cq,p,VV,seval];refine dV (A9 U a q l k (by omega) ((N+1:Nat):Int) (by omega) (by omega)) rfl ?_;rintro _ _ ⟨v,rfl,H,rfl⟩;obtain⟨m,rfl⟩:∃m:Nat,v=m:=⟨v.toNat,by omega⟩;simp only[cq,p,VV,seval];refine cD.wk (((Wk.fG (ys:=(.ptr a 0::uu 1 (.b true::.b true::uu 5 (.nil::.nil::.I (0:Nat)::.I m::uu 128 [])))) (by repeat' constructor)).trans (Wk.jP (P:=A) (J:=lV U a l (k+1)) (k:=9) Ou rfl)).trans ((Wk.ov (P:=A) (J:=lV U a l (k+1)) [_] (k:=10) Ou rfl).trans (Wk.fG (ys:=(.ptr a 0::uu 1 (.b true::.b true::uu 5 (.own (X U) 0::.own (X U+1) 0::.I (0:Nat)::.I m::uu 128 [])))) ?_)))
  (cD.mM (m+1) (Xg U a q l (k+1) (by omega) (nq o) m (by omega) m (k+1) [] [] 0 0 0 (aB _) (by omega) (by simp) (by simp) DU.nil (by simp) (by simp[bA]) (by omega) ?_));.simp only[cq,ah,aj,VV,seval];repeat' constructor
 intro k' f c id n i B C u w F K y;simp only[JE];intros;simp only[VV,seval];refine d _ (cD.fG (fr':=(uu 3 (.b true::uu 5 (.own (X U) n::.own (X U+1) i::uu 130 [])))) ?_ (by repeat' constructor));clear d R;refine cD.cut λR d=>?_;simp only[jw,cq,mZ,nb,iI,oZ,ab,VV,seval];have j:IntKind.i64.wrap ((X c:Int) - 1)=(X c:Int) - 1:=IntWalk.i64_in _ (by omega);rw[j];refine cD.bL (fr':=(uu 3 (.b true::uu 5 (.own (X U) n::.own (X U+1) i::uu 4 (.I ((X c:Int) - 1)::uu 125 []))))) (by repeat' constructor) (X c+1) (Xf U a l k' c (by omega) u id (by omega) i (X c) c f n rfl ⟨[],by simp⟩ w (by omega) ?_);intro h e t M z;simp only[JE];intros;simp only[jw,VV,seval];refine d _ (an ?_);clear d R;simp only[jw,cq,mZ,nb,iI,oZ,VV,seval];refine gT (xs':=[.sl 3 (h.map It.axV)]) (.inr rfl) rfl ((Wk.fz (X U) (E:=70) (sz:=3) (by':=32) (g:=e) (sh:=Z) (rows:=h.map It.axV) (by rw[mZ];rfl)).trans ?_) ?_ ⟨h,k',rfl,t,by omega,by omega,by omega,rfl⟩;.rw[iI];simp only[az,aq,ev,gN,aQ,bj,cu,cH,fz,jR,cw,aR];have:=Wk.yL (P:=A) (xs:=[.sl 3 (h.map It.axV)]) (loc:=[Ob.row 70 3 32 e true (h.map It.axV),Ob.row 70 3 32 i Z (c.map It.axV)]) (nq (k':=k') o) (by simp only[cq,LW]);rw[cq]at this;exact this
 rfl
def agl(g:a<X U)(l:bH)(k:Nat)(i:k<2^49)(N:Nat)(q:N<=20)(c:ai): PC A 137 [.ptr a 0,.I N,.b G,.b G] (lV U a l k++c) (λr e=>∃(f:List It) (d:Nat),r=.sl 3 (f.map It.axV)/\cj [] f=0/\X f<=2*N/\bA f<=23*N/\(k<=d/\d<=k+12*N+1)/\e=lV U a l d++c):=by rw[mW g];refine(Qm (U++c) a (by rw[ae];omega) l k i N q).mono ?_;rintro r e ⟨f,d,n,j,p,m,o,h⟩;exact⟨f,d,n,j,p,m,o,by rw[h,mW g]⟩
def V7(h:a<X U)(l:bH)(k:Nat)(o:k<2^50)(src:List It)(i:cj [] src=0)(c:X src<=100)(e:bA src<=10000)(b:ai): PC A 138 [.ptr a 0,.sl 3 (src.map It.axV)] (lV U a l k++b) (λr g=>∃(f:List It) (d:Nat),r=.sl 3 (f.map It.axV)/\cj [] f=0/\X f<=2*X src/\bA f<=bA src+20*X src/\(k<=d/\d<=k+10*X src)/\g=lV U a l d++b):=by rw[mW h];refine(V6 (U++b) a (by rw[ae];omega) l k o src i c e).mono ?_;rintro r g ⟨f,d,q,j,m,p,s,n⟩;exact⟨f,d,q,j,m,p,s,by rw[n,mW h]⟩
def ZV(o:Option Int):List It:=match o with|some b=>f++[⟨x.axW,x.ax1,b⟩]|none=>f
def Xk(F L I:V)(b c:bH)(a:List It)(x:It)(g:Nat)(y:X b<2^62)(f:(X a+1)*32<=2^47/\X a+1<=maxLen): ∀(m k:Nat),k+m=min (X b) (X c) ->(∀g,((fh (F) (fh (.sl 1 (b.map cG)) (fh (.sl 1 (c.map cG)) (fj 4 (fh (.own (X J) g) (fj 4 (fh (L) (fh (I) (fj 47 fo))))))))) λo=>K (.exit 2) ⟨o,J++[.row 70 3 32 g Z ((ZV a x (Ij (b.drop k) (c.drop k) x.id)).map It.axV),.box 70 x.axV]⟩)) ->gF (X J) A Gj K (m+1) ⟨(F::.sl 1 (b.map cG)::.sl 1 (c.map cG)::uu 4 (.own (X J) g::uu 1 (.ptr (X J+1) 0::.I k::uu 1 (L::I::uu 47 [])))),J++[.row 70 3 32 g Z (a.map It.axV),.box 70 x.axV]⟩:=by
 intro m;induction m with
 |zero =>
  intro k n d;rw[TN (by omega)]at d;have u:((decide ((k:Int)<(X b:Int)))&&decide ((k:Int)<(X c:Int)))=Z:=by rw[Bool.and_eq_false_iff];simp;omega
  refine aD λR l=>?_;simp only[Gj,ab,u,VV,seval];exact d g ..
 |succ m ih =>
 intro k n d;have i:k<X b:=by omega
 have j:k<X c:=by omega
 rw[Ot i j]at d;have v:decide ((k:Int)<(X b:Int))=G:=by simp;omega
 have q:decide ((k:Int)<(X c:Int))=G:=by simp;omega
 have r:IntKind.i64.wrap ((k:Int)+1)=((k+1:Nat):Int):=by rw[IntWalk.i64_in _ (by omega)];omega
 refine aD λR l=>?_;simp only[Gj,It.axV,ab,v,q,r,al,sH i,sH j,VV,seval];have p:(0:Int)<=(k:Int)/\(k:Int)<(X b:Int):=by omega
 have w:(0:Int)<=(k:Int)/\(k:Int)<(X c:Int):=by omega
 refine⟨p,λh=>⟨w,f,?_⟩,λh=>?_⟩
 .have h:x.id=b.getD k 0:=by rw[dM]at h;exact h.symm
  rw[aO h]at d;have t:a.map It.axV++[[.I x.axW,.s x.ax1,.I (c.getD k 0)]]=(ZV a x (some (c.getD k 0))).map It.axV:=by simp[ZV,It.axV]
  rw[t];exact d (g+1) ..
 have h:¬x.id=b.getD k 0:=by rw[fW]at h;exact λe=>h e.symm
 rw[ao h]at d;refine l _ (bL ?_ (ih (k+1) (by omega) d));repeat' constructor
def Xj(i j:bH)(z:bW J)(l:X f<2^40)(C:X i<2^62):∀(a c b:List It) (g:Nat),f=c++a->X b<=X c ->(∀g,((fj 7 (fh (.own (X J) g) (fj 53 fo))) λE=>K (.exit 0) ⟨E,J++[.row 70 3 32 g Z ((b++aym a i j).map It.axV)]⟩)) ->gF (X J) A Gi K (X a+1) ⟨(.sl 3 (f.map It.axV)::.sl 1 (i.map cG)::.sl 1 (j.map cG)::uu 4 (.own (X J) g::uu 4 (.I (X f)::.I (X c)::uu 47 []))),J++[.row 70 3 32 g Z (b.map It.axV)]⟩:=by
 intro a;induction a with
 |nil =>
  intro c b g q B t;have q:=dH q;subst q;have e:b++aym [] i j=b:=by simp[aym]
  rw[e]at t;refine aD λR r=>?_;simp only[Gi,VV,seval];exact⟨λh=>by simp at h,λ_=>t g ..⟩
 |cons x a ih =>
 intro c b g q B t;subst q;have next:∀(d:List It) (n:Nat) {m:ai},b++aym (x::a) i j=d++aym a i j->X d<=X b+1->∀{R:bU} {u:ar},(∀o,gF (X J) A Gi K (X a+1) o->R o) ->
   qP u (.sl 3 ((c++x::a).map It.axV)::.sl 1 (i.map cG)::.sl 1 (j.map cG)::uu 4 (.own (X J) n::uu 4 (.I (X (c++x::a))::.I (IntKind.i64.wrap ((X c:Int)+1))::uu 47 [])))->R ⟨u,J++(.row 70 3 32 n Z (d.map It.axV)::m)⟩:=by intro d n m w F R u r v;have D:=eE c x (by simp at l;omega);rw[D]at v;rw[w]at t;refine r _ (dn [_] m (cx z (by simp)) v ?_ (ih (c++[x]) d n (by simp) (by simp;omega) t));simp only[LW,ah,aj,aP];omega
 have p:(X b+1)*32<=2^47/\X b+1<=maxLen:=by simp at l;simp[maxLen];omega
 refine aD λR r=>?_;simp only[Gi,It.axV,VV,seval];refine⟨λ_=>⟨by simp;omega,?_⟩,λh=>by simp at h<;>omega⟩;refine ak (zN x _) rfl ?_;simp only[VV,seval];refine⟨λk=>?_,λk=>?_⟩
 .have k:eB x=Z:=by rw[dt]at k;exact k
  have y:b.map It.axV++[[.I x.axW,.s x.ax1,.I x.id]]=(b++[x]).map It.axV:=by simp[It.axV]
  refine⟨by rw[ab];exact p,?_⟩;rw[y];refine next (b++[x]) (g+1) (by simp[aym,TX,k]) (by simp) r ?_;repeat' constructor
 have k:eB x=G:=by rw[eI]at k;exact k
 refine cD.bL ?_ (min (X i) (X j)+1) (Xk (.sl 3 ((c++x::a).map It.axV)) (.I (X (c++x::a))) (.I (X c)) i j b x g C p (min (X i) (X j)) 0 (by omega) ?_);.simp only[It.axV,jv];repeat' constructor
 intro n;simp only[JE];intros;simp only[VV,seval];refine next _ n ?_ ?_ r ?_;.simp only[qg,aym,mh,TX,k,aR,ZV];cases Ij i j x.id<;>simp
 .simp only[ZV];split<;>simp
 repeat' constructor
def C6(b c:bH)(a:X f<2^40)(e:bA f<2^40)(h:X b<2^62)(J:ai):bh A 132 [.sl 3 (f.map It.axV),.sl 1 (b.map cG),.sl 1 (c.map cG)] J (.sl 3 ((rename f b c).map It.axV)):=by
 refine aT func132 anV.2 λd i=>an ?_;simp only[anV,SS,seval];simp only[ab,VV,seval];refine cD.wk ((Wk.jP (k:=7) Ou rfl).trans (Wk.fG ?_)) (cD.mM (X f+1) (Xj f b c d a h f [] [] 0 rfl (aB _) ?_));.simp only[VV,seval];repeat' constructor
 intro g;simp only[JE];intros;simp only[aw,VV,seval];refine qq (X J) (by simp only[iF];rfl) (wP (aym f b c) (sL (CW _ _ _) a) (sL (AD _ _ _) e) _) (by simp[fz,jR,ev]) ?_;simp only[VV,seval];exact gL d (by rfl) (by simp[LW])
def wQ(t:List It)(h:X f<2^38)(e:X t<2^38)(g:bA f<2^38)(c:bA t<2^38)(J:ai):bh A 71 [.sl 3 (f.map It.axV),.sl 3 (t.map It.axV)] J (.iS [.sl 3 ((iX f t).map It.axV),.sl 3 ((jL f t).map It.axV)]):=by refine aT func71 p71.2 λa d=>an ?_;simp only[p71,SS,seval];simp only[ab,VV,seval];refine⟨by simp[maxLen];omega,by simp[maxLen];omega,?_⟩;refine qq (X J) (by simp only[iF];rfl) (Lv (f++t) (by simp;omega) _) (by simp[fz,jR,ev]) ?_;have b:=qF (f++t);rw[se,ae]at b;rw[se];simp only[ab,VV,seval];refine ak (WD (X (cK f t)) (by omega) _) rfl ?_;simp only[VV,seval];refine ak (C6 f (cK f t) (dK (X (cK f t))) (by omega) (by omega) (by omega) _) rfl ?_;simp only[VV,seval];refine ak (C6 t (cK f t) (dK (X (cK f t))) (by omega) (by omega) (by omega) _) rfl ?_;simp only[VV,seval];exact aS a (by simp only[RS,seval];rfl) (by simp[LW]) ⟨rfl,rfl⟩
def Bo:gf:=[[83,97,118,101],[114,101,100,32,99,97,114],[82,101,100,32,99,97,114,115]]
def Qk:∀s∈Bo,cj [] [⟨1,s,0⟩]=0/\X s<=8:=by decide +kernel
def Bp:gf:=[[],[],[83,97,118,101],[114,101,100,32,99,97,114]]
def Bq:gf:=[[],[],[120],[83,97,118,101]]
def vz:gf:=[[],[97,110,110],[98,111,98]]
def tu:gf:=[[],[112],[113]]
def ajP:(∀s∈Bp,s∈Ho)/\(∀s∈Bq,s∈Ho)/\(∀s∈vz,s∈xw)/\∀s∈tu,s∈xw:=by decide +kernel
set_option maxRecDepth 20000 in
def ab7(c:a<X U)(l:bH)(k:Nat)(hk:k<2^48): PC A 79 [.ptr a 0] (lV U a l k) (λr T=>∃(e:En) (k':Nat),r=.agg e.axV/\KU e/\(k<=k'/\k'<=k+200)/\T=lV U a l k'):=by
 refine aT func79 p79.2 λbd dG=>?_;simp only[p79,SS,seval];refine cD.cut λR b=>?_;simp only[cq,VV,seval];refine b _ ?_;clear b R;refine cD.cut λR b=>?_;simp only[cq,VV,seval];refine dV (agl U a c l k (by omega) 4 (by decide) _) rfl ?_;rintro _ _ ⟨F,C,rfl,V,f2,f3,f4,rfl⟩;simp only[cq,mZ,nb,iI,oZ,VV,seval];refine b _ (cD.fG (fr':=(.ptr a 0::uu 1 (.ptr (X U) 0::.sl 3 (F.map It.axV)::uu 52 []))) ?_ (by repeat' constructor));clear b R;refine cD.cut λR b=>?_;have g:∀(f:List It) (y:Nat) {H:ar},cj [] f=0->f≠[]->X f<=8->bA f<=92->(k<=y/\y<=k+50)->qP H (.ptr a 0::uu 1 (.ptr (X U) 0::.sl 3 (f.map It.axV)::uu 52 [])) ->
   R ⟨H,lV U a l y++[.box 36 [.nil,.nil,.s [],.s [],.s [],.s [],.I 0,.I 0]]⟩:=by
  intro f y H K c2 c3 c4 c5 hc;refine b _ (cD.fG ?_ hc);clear b R;refine cD.cut λR b=>?_;simp only[cq,mZ,nb,iI,oZ,VV,seval];refine dV (V7 U a c l y (by omega) f K (by omega) (by omega) _) rfl ?_;rintro _ _ ⟨t,d,rfl,t1,t2,t3,t4,rfl⟩;simp only[cq,mZ,nb,iI,oZ,VV,seval];refine b _ (cD.fG (fr':=(.ptr a 0::uu 1 (.ptr (X U) 0::.sl 3 (f.map It.axV)::.sl 3 (t.map It.axV)::uu 51 []))) ?_ (by repeat' constructor));clear b R;refine cD.cut λR b=>?_;simp only[cq,mZ,nb,iI,oZ,VV,seval];refine ak (wQ f t (by omega) (by omega) (by omega) (by omega) _) rfl ?_;simp only[cq,mZ,nb,iI,oZ,VV,seval];refine b _ (cD.fG (fr':=(.ptr a 0::uu 1 (.ptr (X U) 0::uu 2 (.sl 3 ((iX f t).map It.axV)::.sl 3 ((jL f t).map It.axV)::uu 49 [])))) (an ?_) (by repeat' constructor));clear b R;simp only[cq,mZ,nb,iI,oZ,VV,seval];refine dV (jx U a c l d (by omega) 4 (by decide) (by decide) _) rfl ?_;rintro _ _ ⟨W,rfl,M,rfl⟩;obtain⟨i,Nd,m⟩:=nB (ws:=Bp) (n:=W.toNat) (by simp[Bp];omega);simp only[Bp,az,aq]at m;simp only[m,cq,mZ,nb,iI,oZ,VV,seval];refine⟨by omega,?_⟩;refine dV (jx U a c l (d+1) (by omega) 4 (by decide) (by decide) _) rfl ?_;rintro _ _ ⟨v2,rfl,Q,rfl⟩;obtain⟨p,Dt,o⟩:=nB (ws:=Bq) (n:=v2.toNat) (by simp[Bq];omega);simp only[Bq,az,aq]at o;simp only[m,o,cq,mZ,nb,iI,oZ,VV,seval];iterate 3 (try refine ay (by omega) ?_)
  refine dV (jx U a c l (d+1+1) (by omega) 3 (by decide) (by decide) _) rfl ?_;rintro _ _ ⟨L,rfl,ac,rfl⟩;obtain⟨u,E,z⟩:=nB (ws:=vz) (n:=L.toNat) (by simp[vz];omega);simp only[vz,az,aq]at z;simp only[m,o,z,cq,mZ,nb,iI,oZ,VV,seval];iterate 4 (try refine ay (by omega) ?_)
  refine dV (jx U a c l (d+1+1+1) (by omega) 3 (by decide) (by decide) _) rfl ?_;rintro _ _ ⟨v4,rfl,O,rfl⟩;obtain⟨q,D,B⟩:=nB (ws:=tu) (n:=v4.toNat) (by simp[tu];omega);simp only[tu,az,aq]at B;simp only[m,o,z,B,cq,mZ,nb,iI,oZ,VV,seval];iterate 6 (try refine ay (by omega) ?_)
  refine dV (jx U a c l (d+1+1+1+1) (by omega) 50 (by decide) (by decide) _) rfl ?_;rintro _ _ ⟨x,rfl,ad,rfl⟩;simp only[m,o,z,B,cq,mZ,nb,iI,oZ,VV,seval];iterate 6 (try refine ay (by omega) ?_)
  refine dV (jx U a c l (d+1+1+1+1+1) (by omega) 3 (by decide) (by decide) _) rfl ?_;rintro _ _ ⟨j,rfl,af,rfl⟩;have J:IntKind.i64.wrap (1+j)=1+j:=IntWalk.i64_in _ (by omega);simp only[m,o,z,B,J,cq,mZ,nb,iI,oZ,VV,seval];refine⟨by omega,?_⟩;obtain⟨i1,N,i3,i4⟩:=ajP;have hE:KU ⟨iX f t,jL f t,i,p,u,q,x,1+j⟩:=XM K t1 c2 (by omega) (by omega) (by omega) (by omega) (i1 _ Nd) (N _ Dt) (i3 _ E) (i4 _ D) (by omega) (by omega);refine gT (xs:=[.agg (En.axV ⟨iX f t,jL f t,i,p,u,q,x,1+j⟩)]) (xs':=[.agg (En.axV ⟨iX f t,jL f t,i,p,u,q,x,1+j⟩)]) (.inr rfl) (by simp only[lG,vf,mZ,VV,seval];rfl) ?_ rfl ⟨_,d+1+1+1+1+1+1,rfl,hE,by omega,rfl⟩;have:=Wk.yL (P:=A) (xs:=[.agg (En.axV ⟨iX f t,jL f t,i,p,u,q,x,1+j⟩)]) (loc:=[Ob.box 36 (En.axV ⟨iX f t,jL f t,i,p,u,q,x,1+j⟩)]) (nq (k':=d+1+1+1+1+1+1) bd) (by simp only[En.axV,cq,LW]);rw[cq]at this;exact this
 simp only[ab,cq,mZ,nb,iI,oZ,VV,seval];refine⟨λh=>?_,λh=>?_⟩;.refine dV (jx U a c l C (by omega) 3 (by decide) (by decide) _) rfl ?_;rintro _ _ ⟨v,rfl,hv,rfl⟩;obtain⟨w,hw,e⟩:=nB (ws:=Bo) (n:=v.toNat) (by simp[Bo];omega);obtain⟨i,p⟩:=Qk _ hw;simp only[Bo,az,aq]at e;simp only[e,cq,mZ,nb,iI,oZ,VV,seval];refine⟨by omega,?_⟩;refine g [⟨1,w,0⟩] (C+1) i (by simp) (by simp) (by simp[bA];omega) (by omega) ?_;simp only[az,aq,It.axV];repeat first|exact .nil|refine .cons (.refl _) ?_|refine .cons (.lit _ _) ?_|refine .cons (.forget _) ?_
 have h:F≠[]:=by rintro rfl;simp at h
 refine g F C V h (by omega) (by omega) (by omega) ?_;repeat' constructor
def ab8(f:a<X U)(l:bH)(k:Nat)(g:k<2^48)(b:ai): PC A 79 [.ptr a 0] (lV U a l k++b) (λr d=>∃(e:En) (c:Nat),r=.agg e.axV/\KU e/\(k<=c/\c<=k+200)/\d=lV U a l c++b):=by rw[mW f];refine(ab7 (U++b) a (by rw[ae];omega) l k g).mono ?_;rintro r d ⟨e,c,j,h,m,i⟩;exact⟨e,c,j,h,m,by rw[i,mW f]⟩
def O5:bh A 172 [.agg R.axV] U (.I (if jO R=Z then 1 else 0)):=by
 refine aT func172 anp.2 λa b=>an ?_;simp only[anp,SS,seval];simp only[cz.axV,VV,seval];have e:(decide (R.time<1)||decide (1073741824<R.time)||decide (R.bR<0)||decide (8<=R.bR)||decide (R.ax0<1)||decide (128<R.ax0))=!jO R:=by simp only[jO];rw[ei];simp;omega
 rw[e];refine⟨λh=>?_,λh=>?_⟩;.refine aS a (by simp only[RS,seval];rfl) (by simp[LW]) ⟨?_,rfl⟩;rw[dt]at h;rw[h];rfl
 refine aS a (by simp only[RS,seval];rfl) (by simp[LW]) ⟨?_,rfl⟩;rw[eI]at h;rw[h];rfl
def nn(J:ai):bh A 178 [.I n,.I d] J (.I (gp n d)):=by
 refine aT func178 anj.2 λb c=>an ?_;simp only[anj,SS,seval];simp only[VV,seval];refine⟨λh=>?_,λh=>⟨λa=>?_,λa=>?_⟩⟩<;>simp at h;.exact bt (by simp only[RS,seval];rfl) ⟨by simp[Pm.cM,gp,h],rfl⟩
 .simp at a;exact bt (by simp only[RS,seval];rfl) ⟨by simp[Pm.cM,gp,TF.2 h,a],rfl⟩
 simp at a;exact bt (by simp only[RS,seval];rfl) ⟨by simp[Pm.cM,gp,TF.2 h,TF.2 a],rfl⟩
def yG(b:cz)(J:ai):bh A 127 [.agg R.axV,.agg b.axV] J (.I (jU R b)):=by
 refine aT func127 an0.2 λc e=>an ?_;simp only[an0,SS,seval];simp only[cz.axV,VV,seval];refine ak (nn R.time b.time _) rfl ?_;simp only[VV,seval];refine⟨λh=>?_,λh=>?_⟩
 .have h:gp R.time b.time≠0:=by simpa using h
  exact aS c (by simp only[RS,seval];rfl) (by simp[LW]) ⟨by simp[Pm.cM,jU,sP,h],rfl⟩
 have h:gp R.time b.time=0:=by simpa using h
 refine ak (nn R.bR b.bR _) rfl ?_;simp only[VV,seval];refine⟨λa=>?_,λa=>?_⟩
 .have a:gp R.bR b.bR≠0:=by simpa using a
  exact aS c (by simp only[RS,seval];rfl) (by simp[LW]) ⟨by simp[Pm.cM,jU,sP,h,a],rfl⟩
 have a:gp R.bR b.bR=0:=by simpa using a
 refine ak (nn R.ax0 b.ax0 _) rfl ?_;simp only[VV,seval];refine aS c (by simp only[RS,seval];rfl) (by simp[LW]) ⟨?_,rfl⟩;by_cases d:gp R.ax0 b.ax0=0;.simp[Pm.cM,jU,sP,h,a,d]
 simp[Pm.cM,jU,sP,h,a,d]
def wU:bh A 173 [.sl 1 (v.map cG),.I n] U (.I (mB v n)):=by
 refine aT func173 ano.2 λc d=>an ?_;simp only[ano,SS,seval];simp only[ab,VV,seval];have e:(decide (n<0)||decide ((X v:Int)<=n)||decide (8<=n))=decide (n<0\/(X v:Int)<=n\/8<=n):=by rw[ei];simp[or_assoc]
 rw[e];refine⟨λh=>?_,λh=>?_⟩;.have h:=lW h;exact bt (by simp only[RS,seval];rfl) ⟨by simp only[mB,aO h];rfl,rfl⟩
 have h:=oF h;obtain⟨a,rfl⟩:∃a:Nat,n=a:=⟨n.toNat,by omega⟩;have b:a<X v:=by omega
 simp only[al,sH b,VV,seval];refine⟨by omega,?_⟩;refine bt (by simp only[RS,seval];rfl) ⟨?_,rfl⟩;simp only[mB,ao h,al];rfl
def Ly:bh A 154 [.sl 1 (v.map cG),.agg R.axV] U (.b (Tg v R)):=by refine aT func154 anE.2 λa c=>an ?_;simp only[anE,SS,seval];simp only[cz.axV,VV,seval];refine cm (by simp only[VV,seval]<;>rfl) (λ_=>wU v R.bR _) rfl ?_;simp only[VV,seval];exact gL a (by rfl) (by simp[LW])
def sX(e:En)(J:ai):bh A 101 [.agg e.axV] J (.agg (aye e).axV):=by refine aT func101 aoo.2 λa b=>an ?_;simp only[aoo,SS,seval];simp only[En.axV,VV,seval];exact aS a (by simp only[RS,seval];rfl) (by simp[LW]) ⟨rfl,rfl⟩
def I7(h:¬T<10):Lib.decDigits T=Lib.decDigits (T / 10)++[UInt8.ofNat (48+T % 10)]:=by rw[Lib.decDigits,dif_neg h]
def Qz:UInt8.ofNat ((IntKind.u8.wrap (IntKind.i64.wrap (48+(T:Int).tmod 10))).toNat)=UInt8.ofNat (48+T % 10):=by
 have h:(T:Int).tmod 10=((T % 10:Nat):Int):=by rw[akp (by omega)];rfl
 rw[h,IntWalk.i64_in _ (by omega)];have a:IntKind.u8.wrap (48+((T % 10:Nat):Int))=((48+T % 10:Nat):Int):=by rw[IntWalk.u8_in _ (by omega)];omega
 rw[a];rfl
def VO(h:T<2^62):IntKind.i64.wrap ((T:Int).tdiv 10)=((T / 10:Nat):Int):=by
 have e:(T:Int).tdiv 10=((T / 10:Nat):Int):=by rw[Int.tdiv_eq_ediv_of_nonneg (by omega)];rfl
 rw[e,IntWalk.i64_in _ (by omega)]
def aeX:∀(k n:Nat) (s:aL),n<10^(k+1)->n<2^62->X s+k<2^40 ->(((fj 2 (fh (.s (Lib.decDigits n++s)) (fj 14 fo))) λg=>K .ret ⟨g,J⟩)) ->gF (X J) A Ge K (k+1) ⟨(.I n::uu 2 (.s s::uu 13 [])),J⟩:=by
 have a:∀(k n:Nat) (s:aL),n<10->n<2^62->X s+k<2^40->(((fj 2 (fh (.s (Lib.decDigits n++s)) (fj 14 fo))) λg=>K .ret ⟨g,J⟩)) ->gF (X J) A Ge K (k+1) ⟨(.I n::uu 2 (.s s::uu 13 [])),J⟩:=by
  intro k n s f c d b;refine aD λR j=>?_;simp only[Ge,VO c,Qz,VV,Int.reduceBEq,Int.reduceBNe,Nat.reduceAdd,Nat.reduceSub,Nat.reduceLeDiff,Nat.reduceEqDiff,Int.reduceToNat,reduceIte,reduceCtorEq];rw[Lib.decDigits_one f]at b;have e:n % 10=n:=by omega
  have m:n / 10=0:=by omega
  rw[e,m];exact⟨by decide,by simp[maxLen];omega,by decide,λh=>b ..,nofun⟩
 intro k;induction k with
 |zero=>intro n s i c d b;exact a 0 n s (by omega) c d b
 |succ k ih =>
 intro n s i c d b;by_cases f:n<10;.exact a (k+1) n s f c d b
 rw[I7 f,aJ]at b;have l:n / 10<10^(k+1):=by rw[Yr]at i;omega
 refine aD λR j=>?_;simp only[Ge,VO c,Qz,VV,Int.reduceBEq,Int.reduceBNe,Nat.reduceAdd,Nat.reduceSub,Nat.reduceLeDiff,Nat.reduceEqDiff,Int.reduceToNat,reduceIte,reduceCtorEq];refine⟨by decide,by simp[maxLen];omega,by decide,λh=>by simp at h;omega,λh=>?_⟩;refine j _ (bL ?_ (ih (n / 10) (UInt8.ofNat (48+n % 10)::s) l (by omega) (by simp;omega) b));repeat' constructor
def LA(b:a<2^62)(J:ai):bh A 139 [.I a] J (.s (Lib.decDigits a)):=by
 refine aT func139 anP.2 λc d=>an ?_;simp only[anP,SS,seval];simp only[VV,seval];refine cD.bL ?_ 19 (aeX 18 a [] (by omega) b (by simp) ?_);.repeat' constructor
 simp only[JE];intros;simp only[VV,seval];exact bt (by simp only[RS,seval];rfl) ⟨by simp[Pm.cM],rfl⟩
def AU(d:a<2^62)(J:ai):bh A 80 [.I a] J (.s (Lib.itoa a)):=by
 refine aT func80 p80.2 λf g=>an ?_;have c:decide ((a:Int)<0)=Z:=by simp
 have b:(if(a:Int)<0 then(0:Int)else a)=a:=ao (by omega);simp only[p80,SS,seval];simp only[c,b,VV,seval];refine ak (LA a d _) rfl ?_;simp only[VV,seval];refine bt (by simp only[RS,seval];rfl) ⟨?_,rfl⟩;have e:Lib.itoa (a:Int)=Lib.decDigits a:=by unfold Lib.itoa;rw[ao (by omega)];rfl
 rw[e];rfl
def Rh:∀c:UInt8,((((c.toNat:Int)==92||(c.toNat:Int)==60)||(c.toNat:Int)==123)=G->gq c=[92,c]) /\((((c.toNat:Int)==92||(c.toNat:Int)==60)||(c.toNat:Int)==123)=Z->(((c.toNat:Int)==10)=G->gq c=[92,110]) /\(((c.toNat:Int)==10)=Z->(((c.toNat:Int)==9)=G->gq c=[92,116]) /\(((c.toNat:Int)==9)=Z->(((c.toNat:Int)==13||nL c==1)=G->gq c=[92,120,ly (c.toNat / 16),ly (c.toNat % 16)]) /\(((c.toNat:Int)==13||nL c==1)=Z->gq c=[c])))):=jW (by decide +kernel)
def ajm:∀c:UInt8,(0<=IntKind.u8.wrap ((c.toNat:Int).tdiv 16)/\IntKind.u8.wrap ((c.toNat:Int).tdiv 16)<((16:Nat):Int))/\(0<=(c.toNat:Int).tmod 16/\(c.toNat:Int).tmod 16<((16:Nat):Int)) /\([48,49,50,51,52,53,54,55,56,57,97,98,99,100,101,102]:aL).getD (IntKind.u8.wrap ((c.toNat:Int).tdiv 16)).toNat 0=ly (c.toNat / 16) /\([48,49,50,51,52,53,54,55,56,57,97,98,99,100,101,102]:aL).getD ((c.toNat:Int).tmod 16).toNat 0=ly (c.toNat % 16):=jW (by decide +kernel)
def AR(J:ai):bh A 187 [.i .u8 c.toNat] J (.s (gq c)):=by
 refine aT func187 ana.2 λn o=>an ?_;obtain⟨h,f⟩:=Rh c;simp only[ana,SS,seval];simp only[VV,seval];refine⟨λa=>⟨by decide,?_⟩,λa=>⟨λb=>?_,λb=>⟨λd=>?_,λd=>?_⟩⟩⟩;.exact bt (by simp only[RS,seval];rfl) ⟨by rw[h a];rfl,rfl⟩
 .exact bt (by simp only[RS,seval];rfl) ⟨by rw[(f a).1 b];rfl,rfl⟩
 .exact bt (by simp only[RS,seval];rfl) ⟨by rw[((f a).2 b).1 d];rfl,rfl⟩
 have g:=((f a).2 b).2 d;refine cm (by simp only[VV,seval]<;>rfl) (λ_=>Sd c _) rfl ?_;simp only[VV,Int.reduceBEq,Int.reduceBNe,Nat.reduceAdd,Nat.reduceSub,Nat.reduceLeDiff,Nat.reduceEqDiff,Int.reduceToNat,reduceIte,reduceCtorEq];obtain⟨m,l,k,j⟩:=ajm c;refine⟨λe=>⟨by decide,m,by decide,l,by decide,?_⟩,λe=>?_⟩;.refine bt (by simp only[RS,seval];rfl) ⟨?_,rfl⟩;rw[g.1 e,<- k,<- j];rfl
 exact bt (by simp only[RS,seval];rfl) ⟨by rw[g.2 e];rfl,rfl⟩
def qV(n:Int):Nat->aL|0=>[]|m+1=>jT (n / 2^(8*m))::qV n m
def ML:qV n 4=DS n:=by
 have e:n / 65536 / 256=n / 16777216:=by omega
 simp[qV,DS,sN,e]
def aae:qV n 2=sN n:=by simp[qV,sN]
def Bd:IntKind.u8.wrap n=((jT n).toNat:Int):=by
 have a:IntKind.u8.wrap n=n % 256:=by simp[IntKind.wrap,IntKind.bits,IntKind.signed]
 rw[a];have b:0<=n % 256:=agT _ (by decide);have c:n % 256<256:=TG _ (by decide);simp only[jT,oG];omega
def ahS:Ti A 5 1 1:=ng (by kernel_rfl)
def aeQ:∀(m:Nat) (a:aL) (g:Nat),m<=8->X a+m<=8 ->(∀g,((fj 5 (fh (.own (X J) g) (fj 16 fo))) λe=>K (.exit 0) ⟨e,J++[.row 5 1 1 g Z (aC (a++qV n m))]⟩)) ->gF (X J) A Ma K (m+1) ⟨(.I n::uu 4 (.own (X J) g::.I ((m:Int) - 1)::uu 15 [])),J++[.row 5 1 1 g Z (aC a)]⟩:=by
 intro m;induction m with
 |zero =>intro a g q l b;simp only[qV,bE]at b;refine aD λR c=>?_;have s:decide ((0:Int)<=((0:Nat):Int) - 1)=Z:=rfl;simp only[Ma,s,VV,Int.reduceBEq,Int.reduceBNe,Nat.reduceAdd,Nat.reduceSub,Nat.reduceLeDiff,Nat.reduceEqDiff,Int.reduceToNat,reduceIte,reduceCtorEq];exact b g ..
 |succ m ih =>
 intro a g q l b;have d:((m+1:Nat):Int) - 1=(m:Int):=by omega
 have f:IntKind.i64.wrap ((m:Int) - 1)=(m:Int) - 1:=IntWalk.i64_in _ (by omega);have o:IntKind.i64.wrap (8*(m:Int))=((8*m:Nat):Int):=by rw[IntWalk.i64_in _ (by omega)];omega
 rw[d];refine aD λR c=>?_;have r:min (8*m) IntKind.i64.bits=8*m:=fi (show 8*m<=64 by omega);have k:n.fdiv (2^(8*m))=n / 2^(8*m):=ic _ (akq (by decide));simp only[Ma,f,o,r,k,Bd,al,VV,seval];have j:aC a++[[V.i .u8 ((jT (n / 2^(8*m))).toNat:Int)]]=aC (a++[jT (n / 2^(8*m))]):=by simp[aC]
 have p:X (aC a)=X a:=by simp[aC]
 rw[j,p];refine⟨λ_=>⟨by omega,by simp only[maxLen];omega,?_⟩,λh=>by simp at h<;>omega⟩;refine c _ (bL ?_ (ih (a++[jT (n / 2^(8*m))]) (g+1) (by omega) (by simp;omega) ?_));.repeat' constructor
 simpa only[qV,aJ,aF,aw]using b
def zb(b:a<=8)(J:ai):PC A 174 [.I n,.I a] J (λr e=>r=.own (X J) 0/\e=J++[.row 5 1 1 0 Z (aC (qV n a))]):=by
 refine aT func174 ann.2 λd f=>an ?_;have c:IntKind.i64.wrap ((a:Int) - 1)=(a:Int) - 1:=IntWalk.i64_in _ (by omega);simp only[ann,SS,seval];simp only[c,VV,seval];refine cD.wk ((Wk.jP (k:=5) ahS rfl).trans (Wk.fG ?_)) (cD.mM (a+1) (aeQ n a [] 0 b (by simpa using b) ?_));.simp only[VV,seval];repeat' constructor
 intro g;simp only[JE];intros;simp only[aw,VV,seval];exact AB 0 d (.inr rfl) rfl rfl rfl (by simp[IK,Ob.gen]) (by simp[Pm.cM,mv1,Ob.fresh])
def nD(b:a<=8)(J:ai):bh A 174 [.I n,.I a] J (.sl 1 (aC (qV n a))) :=PC.closed λc=>PC.fz c (zb n a b J)
def r9(s:aL)(f:X s<2^40)(J:ai):bh A 176 [.s s] J (.sl 1 (aC (eY s))):=by
 refine aT func176 anl.2 λa d=>an ?_;simp only[anl,SS,seval];simp only[VV,seval];refine ak (zb (X s:Int) 4 (by decide) _) rfl ?_;simp only[VV,seval];have e:aC (qV (X s:Int) 4)++aC s=aC (eY s):=by rw[ML];simp[aC,eY]
 have b:X (aC (qV (X s:Int) 4))=4:=by rw[ML];simp[aC,fI]
 have c:X (aC s)=X s:=by simp[aC]
 rw[e,b,c];refine⟨⟨by omega,by simp only[maxLen];omega⟩,?_⟩;refine fB 0 a (by simp only[RS,seval];rfl) rfl ?_ ⟨?_,rfl⟩;.simp[fz,jR,iY,xa]
 simp[fz,jR,Pm.cM]
def aeN{n:Nat}{J:ai}{K:bG}(s:aL)(f:X s<2^63):∀(a d:aL),s=d++a ->(a.all (λb=>!jB b)=G->((fh (.s s) (fj 66 fo)) λk=>K (.exit 0) ⟨k,J⟩))->(a.all (λb=>!jB b)=Z->((fj 2 (fh (.b Z) (fj 64 fo))) λk=>K .ret ⟨k,J⟩)) ->gF n A L7 K (X a+1) ⟨(.s s::uu 2 (.I (X d)::uu 63 [])),J⟩:=by
 intro a;induction a with
 |nil =>intro d i j g;have i:=dH i;subst i;refine aD λR l=>?_;simp only[L7,VV,seval];exact⟨λh=>by simp at h,λ_=>j rfl ..⟩
 |cons c a ih =>
 intro d i j g;subst i;have m:jB c=(((((decide ((c.toNat:Int)<32)||decide (126<(c.toNat:Int)))||((c.toNat:Int)==60))||((c.toNat:Int)==62))||((c.toNat:Int)==123))||((c.toNat:Int)==125)):=by clear j g ih f;revert c;exact jW (by decide +kernel)
 refine aD λR l=>?_;simp only[L7,VV,seval];rw[<- m];refine⟨λ_=>⟨by simp;omega,λh=>?_,λh=>?_⟩,λh=>by simp at h<;>omega⟩;.exact g (by simp[h]) ..
 have e:(c::a).all (λb=>!jB b)=a.all (λb=>!jB b):=by simp[h]
 rw[e]at j g;refine l _ (bL ?_ (ih (d++[c]) (by simp) j g));rw[cT (by simp at f;omega)];simp only[ae,ah,aj];repeat' constructor
def acn:mE s=(ayc (ff s)&&(decide (X (ff s)=X s)||decide (X (ff s)+1<X s))):=by
 have e:=nH s 32;by_cases h:0<=Lib.indexByte s 32
 .have a:cutAt s 32=(s.take (Lib.indexByte s 32).toNat,s.drop ((Lib.indexByte s 32).toNat+1),G):=by simp only[cutAt,aO h]
  have b:ff s=s.take (Lib.indexByte s 32).toNat:=by simp only[ff,a]
  simp only[mE,a,b];have c:X (s.take (Lib.indexByte s 32).toNat)=(Lib.indexByte s 32).toNat:=by rw[aX];omega
  have d:X (s.drop ((Lib.indexByte s 32).toNat+1))=X s - ((Lib.indexByte s 32).toNat+1):=by simp
  simp only[c,d,jN,mz];congr 1;rw[ei];simp;omega
 have a:cutAt s 32=(s,[],Z):=by simp only[cutAt,ao h]
 have b:ff s=s:=by simp only[ff,a]
 simp only[mE,a,b];simp
def r8(s:aL)(J:ai):bh A 181 [.s s] J (.b (eQ s)):=by
 refine aT func181 ang.2 λp k=>an ?_;have a:=Ig (k 0 _ rfl).1;simp only[ang,SS,seval];simp only[VV,seval];refine⟨λh=>?_,λh=>?_⟩
 .refine bt rfl ⟨?_,rfl⟩;have h:¬X s<=64:=by simp at h;omega
  simp[Pm.cM,eQ,lh,h]
 have f:X s<=64:=by simp at h;omega
 refine cD.bL ?_ (X s+1) (aeN s a s [] rfl (λe=>?_) (λe=>?_));.repeat' constructor
 .simp only[JE];intros;simp only[VV,seval];refine ak (uq s _) rfl ?_;simp only[VV,seval];refine ak (oQ (ff s) _) rfl ?_;simp only[VV,seval];have n:X (ff s)<=X s:=(yz s 32).1;have j:IntKind.i64.wrap ((X (ff s):Int)+1)=(X (ff s):Int)+1:=IntWalk.i64_in _ (by omega);have o:((X (ff s):Int)==(X s:Int))=decide (X (ff s)=X s):=by rw[ei];simp;omega
  have i:decide ((X (ff s):Int)+1<(X s:Int))=decide (X (ff s)+1<X s):=by rw[ei];simp;omega
  rw[j,o,i,<- acn];have g:mE s=G->0<X s:=λh=>by cases s with|nil=>revert h;decide|cons c s=>simp
  refine⟨λh=>?_,?_⟩
  .have h:mE s=G:=by simpa using h
   have:=g h;rw[IntWalk.i64_in _ (by omega)];omega
  refine bt rfl ⟨?_,rfl⟩;cases d:mE s with
  |false=>simp[Pm.cM,eQ,d]
  |true =>
  have q:=g d;have m:(IntKind.i64.wrap ((X s:Int) - 1)).toNat=X s - 1:=by rw[IntWalk.i64_in _ (by omega)];omega
  simp only[Pm.cM,aQ,bj,m,eQ,lh,d,e,cN,db,f,cZ];have l:X s≠0:=by omega
  simp only[l,gj,eP,cZ,cN,V.b.injEq];rw[ei];simp;omega
 simp only[JE];intros;exact bt rfl ⟨by simp[Pm.cM,eQ,e],rfl⟩
def JC(b:Bool)(n:Int):(b&&decide (1<=n)&&decide (n<=999))=!(!b||decide (n<1)||decide (999<n)):=by rw[ei];simp[TF]
def ae3(u:bW J)(d:X f<2^63):∀(a b:List It),f=b++a ->((a.all λy=>!gK x y)=G->((fj 114 fo) λn=>K (.exit 1) ⟨n,J++[.box 70 x.axV]⟩))->((a.all λy=>!gK x y)=Z->∀c,((fj 4 (fh (.I 7) (fj 109 fo))) λn=>K .ret ⟨n,J++(.box 70 x.axV::c)⟩)) ->gF (X J) A B5 K (X a+1) ⟨(.sl 3 (f.map It.axV)::uu 2 (.ptr (X J) 0::uu 75 (.I (X f)::.I (X b)::uu 33 []))),J++[.box 70 x.axV]⟩:=by
 intro a;induction a with
 |nil =>intro b i l k;have i:=dH i;subst i;refine aD λR j=>?_;simp only[B5,VV,seval];exact⟨λh=>by simp at h,λ_=>l rfl ..⟩
 |cons y a ih =>
 intro b i l k;subst i;have s:=eE b y (by simp at d;omega);have next:gK x y=Z->∀{c:ai} {R:bU} {o:ar},(∀g,gF (X J) A B5 K (X a+1) g->R g) ->
   qP o (.sl 3 ((b++y::a).map It.axV)::uu 2 (.ptr (X J) 0::uu 75 (.I (X (b++y::a))::.I (IntKind.i64.wrap ((X b:Int)+1))::uu 33 [])))->R ⟨o,J++(.box 70 x.axV::c)⟩:=by
  intro t c R o j r;rw[s]at r;have e:((y::a).all λy=>!gK x y)=a.all λy=>!gK x y:=by simp[t]
  rw[e]at l k;refine j _ (dn [_] c (cx u (by simp only[bV,It.axV,LW];simp)) r ?_ (ih (b++[y]) (by simp) l k));simp only[LW,ah,aj,aP];omega
 refine aD λR j=>?_;simp only[B5,It.axV,VV,seval];refine⟨λ_=>⟨by simp;omega,?_⟩,λh=>by simp at h<;>omega⟩;refine ak (zN y _) rfl ?_;simp only[VV,seval];have q:gK x y=(!(!eB y||y.id != x.id)&&(x.axW != 3||y.axW != 2||!(ff y.ax1==x.ax1))):=rfl;refine⟨λh=>?_,λh=>?_⟩;.refine next (by rw[q,h];rfl) j ?_;repeat' constructor
 refine cm (by simp only[VV,seval]<;>rfl) (λ_=>uq y.ax1 _) rfl ?_;simp only[VV,seval];refine⟨λp=>?_,λp=>?_⟩
 .have m:gK x y=G:=by rw[q,h];simpa[bne]using p
  exact k (by simp[m]) _ ..
 have m:gK x y=Z:=by rw[q,h];simpa[bne]using p
 refine next m j ?_;repeat' constructor
set_option maxRecDepth 4000 in
def FN(before:List It)(x:It)(J:ai):bh A 129 [.sl 3 (before.map It.axV),.agg x.axV] J (.I (iA before x)):=by
 refine aT func129 anY.2 λd E=>an ?_;have b:=oI (E 0 _ rfl).1;rw[ab]at b;simp only[anY,SS,seval];have loop:∀{u:ar},cv before.getLast? x=G->eB x=G->qP u (.sl 3 (before.map It.axV)::uu 2 (.ptr (X J) 0::uu 75 (.I (X before)::.I ((0:Nat):Int)::uu 33 []))) ->
   cD (X J) A (.loop B5) (HV 1 (Zj (DV (X J) A (.seq (.pF [] [⟨some 4,[],.yk (.c (.I 0))⟩]) .ret) (wF A (X J) [.t 4] λr s=>r=.I (iA before x)/\s=J)) (wF A (X J) [.t 4] λr s=>r=.I (iA before x)/\s=J)))
    ⟨u,J++[.box 70 x.axV]⟩:=by
  intro u w j H;refine cD.bL H (X before+1) (ae3 before x d b before [] rfl (λv=>?_) (λv=>?_));.simp only[JE];intros;simp only[VV,seval];refine aS d (by simp only[RS,seval];rfl) (by simp[LW]) ⟨?_,rfl⟩;have m:fits before x=G:=v;simp[Pm.cM,iA,w,j,m]
  simp only[JE];intros;simp only[VV,seval];refine aS d (by simp only[RS,seval];rfl) (by simp[LW]) ⟨?_,rfl⟩;have m:fits before x=Z:=v;simp[Pm.cM,iA,w,j,m]
 have early:eB x=Z->iA before x=if cv before.getLast? x=Z then 1 else 0:=by intro h;simp[iA,h]
 by_cases g:x.axW=1
 .have l:eB x=Z:=by simp[eB,g]
  rw[early l];rcases fN before with p|⟨i,y,p⟩
  .subst p;have q:decide ((0:Int)<(X ([]:ar):Int))=Z:=rfl;simp only[It.axV,g,aq,q,VV,seval];refine⟨λh=>by simp at h,.I 0,λh=>by simp at h,?_⟩;simp only[VV,seval];refine⟨λh=>?_,λh=>?_⟩ <;>
   .refine aS d (by simp only[RS,seval];rfl) (by simp[LW]) ⟨?_,rfl⟩;have a:cv ([]:List It).getLast? x=!(x.ax1==[]||x.id != 0):=by simp[cv,g,bne]
    rw[a,h];rfl
  rw[fk]at p;subst p;have D:IntKind.i64.wrap ((X (i++[y]):Int) - 1)=X i:=by have:X (i++[y])<2^63:=b;rw[IntWalk.i64_in _ (by simp at this |-;omega)];simp
  have C:gi (List.map It.axV (i++[y])) (X i) 0=some (.I y.axW):=by rw[oE];rfl
  have q:decide ((0:Int)<(X (List.map It.axV (i++[y])):Int))=G:=by simp
  have a:cv (i++[y]).getLast? x=!((x.ax1==[]||x.id != 0)||y.axW==1):=by simp[cv,g,bne]
  rw[a];simp only[It.axV,g,VV,seval];simp only[q,ab,D,al,C,VV,seval];refine⟨λ_=>by simp;omega,.I y.axW,λ_=>?_,?_⟩;.rfl
  have F:decide ((0:Int)<(X (i++[y]):Int))=G:=by simp
  simp only[F,VV,seval];refine⟨λh=>?_,λh=>?_⟩ <;>
  .refine aS d (by simp only[RS,seval];rfl) (by simp[LW]) ⟨?_,rfl⟩;rw[h];rfl
 by_cases o:x.axW=5
 .have l:eB x=Z:=by simp[eB,o]
  rw[early l];have a:cv before.getLast? x=!(!ayc x.ax1||x.id != 0):=by simp[cv,o,bne]
  rw[a];simp only[It.axV,o,VV,seval];refine ak (oQ _ _) rfl ?_;simp only[VV,seval];refine⟨λh=>?_,λh=>?_⟩ <;>
  .refine aS d (by simp only[RS,seval];rfl) (by simp[LW]) ⟨?_,rfl⟩;rw[h];rfl
 have e:cv before.getLast? x=Z->iA before x=1:=λh=>by simp[iA,h]
 have skip:cv before.getLast? x=G->eB x=Z->iA before x=0:=λh z=>by simp[iA,h,z]
 by_cases f:x.axW=2\/x.axW=4
 .have j:eB x=G:=by simp[eB];rcases f with h|h<;>simp[h]
  have a:cv before.getLast? x=!(!eQ x.ax1||decide (x.id<1)||decide (999<x.id)):=by rw[<- JC];simp[cv,f,g,o]
  rcases f with k|k;.rw[It.axV,k]at loop;simp only[It.axV,k,VV,seval];refine ak (r8 _ _) rfl ?_;simp only[VV,seval];refine⟨λh=>?_,λh=>loop (by rw[a,h];rfl) j (by simp only[ab,jv];repeat' constructor)⟩;refine aS d (by simp only[RS,seval];rfl) (by simp[LW]) ⟨?_,rfl⟩;rw[e (by rw[a,h];rfl)];rfl
  rw[It.axV,k]at loop;simp only[It.axV,k,VV,seval];refine ak (r8 _ _) rfl ?_;simp only[VV,seval];refine⟨λh=>?_,λh=>loop (by rw[a,h];rfl) j (by simp only[ab,jv];repeat' constructor)⟩;refine aS d (by simp only[RS,seval];rfl) (by simp[LW]) ⟨?_,rfl⟩;rw[e (by rw[a,h];rfl)];rfl
 by_cases n:x.axW=3
 .have j:eB x=G:=by simp[eB,n]
  have a:cv before.getLast? x=!(!ayc x.ax1||decide (x.id<1)||decide (999<x.id)):=by rw[<- JC];simp[cv,n]
  rw[It.axV,n]at loop;simp only[It.axV,n,VV,seval];refine ak (oQ _ _) rfl ?_;simp only[VV,seval];refine⟨λh=>?_,λh=>loop (by rw[a,h];rfl) j (by simp only[ab,jv];repeat' constructor)⟩;refine aS d (by simp only[RS,seval];rfl) (by simp[LW]) ⟨?_,rfl⟩;rw[e (by rw[a,h];rfl)];rfl
 have n1:(x.axW==1)=Z:=by simpa using g
 have n2:(x.axW==2)=Z:=by simp;omega
 have n3:(x.axW==3)=Z:=by simpa using n
 have n4:(x.axW==4)=Z:=by simp;omega
 have B:(x.axW==5)=Z:=by simpa using o
 have a:cv before.getLast? x=Z:=by simp[cv,g,f,n,o]
 rw[e a];simp only[It.axV,n1,n2,n3,n4,B,VV,seval];exact gL d (by rfl) (by simp[LW])
def aiB(n:bW J)(g:X f<2^63):∀(a b:List It),f=b++a ->(cj b a=0->((fj 30 fo) λk=>K (.exit 0) ⟨k,J⟩))->(cj b a≠0->((fj 2 (fh (.I (cj b a)) (fj 27 fo))) λk=>K .ret ⟨k,J⟩)) ->gF (X J) A Uy K (X a+1) ⟨(.sl 3 (f.map It.axV)::uu 13 (.I (X f)::.I (X b)::uu 14 [])),J⟩:=by
 intro a;induction a with
 |nil =>intro b d j c;have d:=dH d;subst d;refine aD λR l=>?_;simp only[Uy,VV,seval];exact⟨λh=>by simp at h,λ_=>j rfl ..⟩
 |cons y a ih =>
 intro b d j c;subst d;refine aD λR l=>?_;have m:List.take (X b) (List.map It.axV (b++y::a))=b.map It.axV:=by simp
 simp only[Uy,It.axV,VV,seval];refine⟨λ_=>?_,λh=>by simp at h;omega⟩;refine⟨by simp;omega,by simp;omega,?_⟩;rw[m];refine ak (FN b y _) rfl ?_;simp only[VV,seval];refine⟨λh=>?_,λh=>?_⟩
 .have i:iA b y≠0:=by simpa using h
  have e:cj b (y::a)=iA b y:=by rw[xh,aO i]
  rw[e]at c;exact c i ..
 have i:iA b y=0:=by simpa using h
 have e:cj b (y::a)=cj (b++[y]) a:=by rw[xh,i];simp
 rw[e]at j c;refine l _ (bL ?_ (ih (b++[y]) (by simp) j c));rw[cT (by simp at g;omega)];simp only[ae,ah,aj];repeat' constructor
def tJ:bh A 70 [.sl 3 (f.map It.axV)] U (.I (cU f)):=by
 refine aT func70 p70.2 λd e=>an ?_;have a:=oI (e 0 _ rfl).1;rw[ab]at a;simp only[p70,SS,seval];simp only[ab,VV,seval];refine cm (by simp only[VV,seval]<;>rfl) (λ_=>O4 f _) rfl ?_;simp only[ab,VV,seval];refine⟨λh=>?_,λh=>?_⟩
 .refine bt (by simp only[RS,seval];rfl) ⟨?_,rfl⟩;simp at h;have:512<X f\/1024<gJ 0 f:=by omega
  simp only[Pm.cM,cU,this,aR,aQ,bj]
 simp at h;have c:¬(512<X f\/1024<gJ 0 f):=by omega
 refine cD.bL ?_ (X f+1) (aiB f d a f [] rfl (λb=>?_) (λb=>?_));.simp only[VV,seval];repeat' constructor
 .simp only[JE];intros;simp only[VV,seval];exact bt (by simp only[RS,seval];rfl) ⟨by simp only[Pm.cM,cU,c,b,bo,aQ,bj],rfl⟩
 simp only[JE];intros;simp only[VV,seval];exact bt (by simp only[RS,seval];rfl) ⟨by simp only[Pm.cM,cU,c,bo,aQ,bj],rfl⟩
def aeZ(s:aL)(g:X s<2^40):∀(a b t:aL),s=b++a->X t<=4*X b ->(((fj 3 (fh (.s (t++a.flatMap gq)) (fj 57 fo))) λk=>K (.exit 1) ⟨k,J++[.box 70 [.I n,.s s,.I d]]⟩)) ->gF (X J) A Mk K (X a+1) ⟨(uu 1 (.ptr (X J) 0::uu 1 (.s t::.I (X b)::uu 56 []))),J++[.box 70 [.I n,.s s,.I d]]⟩:=by
 intro a;induction a with
 |nil =>intro b t e j f;have e:=dH e;subst e;rw[lB,bE]at f;refine aD λR i=>?_;simp only[Mk,VV,seval];exact⟨λh=>by simp at h,λ_=>f ..⟩
 |cons c a ih =>
 intro b t e j f;subst e;rw[fc,<- List.append_assoc]at f;have m:X b+X a+1<2^40:=by simp at g;omega
 have l:=Jj c;refine aD λR i=>?_;simp only[Mk,VV,seval];refine⟨λ_=>⟨by simp;omega,?_⟩,λh=>by simp at h<;>omega⟩;refine ak (AR c _) rfl ?_;simp only[VV,seval];refine⟨by simp only[maxLen];omega,?_⟩;refine i _ (bL ?_ (ih (b++[c]) (t++gq c) (by simp) (by simp;omega) f));rw[cT (by omega)];simp only[ae,ah,aj];repeat' constructor
def Lu(g:1<=x.axW/\x.axW<=5)(e:0<=x.id/\x.id<2^62)(a:X x.ax1<2^40)(J:ai):bh A 136 [.agg x.axV] J (.s (dz x)):=by
 refine aT func136 anS.2 λb m=>an ?_;obtain⟨k,t,d⟩:=x;simp only at g e a;obtain⟨n,rfl⟩:∃n:Nat,d=n:=⟨d.toNat,by omega⟩;have o:=Lib.itoa_length_le (n:Int) (by omega) (by omega);have c:=AU n (by omega) (J++[.box 70 [.I k,.s t,.I n]]);simp only[anS,SS,seval];by_cases f:k=1
 .subst f;simp only[It.axV,VV,seval];refine cD.bL ?_ (X t+1) (aeZ 1 n t a t [] [] rfl (aB _) ?_);.simp only[aj,jv];repeat' constructor
  simp only[JE];intros;simp only[aw,VV,seval];exact aS b (by simp only[RS,seval];rfl) (by simp[LW]) ⟨by simp[Pm.cM,dz],rfl⟩
 by_cases h:k=2;.subst h;simp only[It.axV,VV,seval];refine ak c rfl ?_;simp only[VV,seval];refine⟨by simp only[maxLen];omega,by simp only[maxLen];omega,by simp only[maxLen,ae,ah,aj];omega,by simp only[maxLen,ae,ah,aj];omega,?_⟩;exact aS b (by simp only[RS,seval];rfl) (by simp[LW]) ⟨by simp[Pm.cM,dz],rfl⟩
 by_cases i:k=3;.subst i;simp only[It.axV,VV,seval];refine ak c rfl ?_;simp only[VV,seval];refine⟨by simp only[maxLen];omega,by simp only[maxLen];omega,by simp only[maxLen,ae,ah,aj];omega,by simp only[maxLen,ae,ah,aj];omega,?_⟩;exact aS b (by simp only[RS,seval];rfl) (by simp[LW]) ⟨by simp[Pm.cM,dz],rfl⟩
 by_cases l:k=4;.subst l;simp only[It.axV,VV,seval];refine ak c rfl ?_;simp only[VV,seval];refine⟨by simp only[maxLen];omega,by simp only[maxLen];omega,by simp only[maxLen,ae,ah,aj];omega,by simp only[maxLen,ae,ah,aj];omega,?_⟩;exact aS b (by simp only[RS,seval];rfl) (by simp[LW]) ⟨by simp[Pm.cM,dz],rfl⟩
 have j:k=5:=by omega
 subst j;simp only[It.axV,VV,seval];refine⟨by simp only[maxLen];omega,by simp only[maxLen];omega,?_⟩;exact aS b (by simp only[RS,seval];rfl) (by simp[LW]) ⟨by simp[Pm.cM,dz],rfl⟩
def aiw(i:X f<=512)(k:∀x∈f,(1<=x.axW/\x.axW<=5)/\(0<=x.id/\x.id<2^62)/\X x.ax1<=2^30/\X (dz x)<2^33):∀(a b:List It) (s:aL),f=b++a->X s<=2^33*X b ->(((fj 5 (fh (.s (s++a.flatMap dz)) (fj 20 fo))) λm=>K (.exit 0) ⟨m,J⟩)) ->gF (X J) A Ut K (X a+1) ⟨(.sl 3 (f.map It.axV)::uu 4 (.s s::uu 7 (.I (X f)::.I (X b)::uu 11 []))),J⟩:=by
 intro a;induction a with
 |nil =>intro b s c j d;have c:=dH c;subst c;rw[lB,bE]at d;refine aD λR g=>?_;simp only[Ut,VV,seval];exact⟨λh=>by simp at h,λ_=>d ..⟩
 |cons x a ih =>
 intro b s c j d;subst c;rw[fc,<- List.append_assoc]at d;obtain⟨l,e,o,p⟩:=k x (by simp);have n:X b+X a+1<=512:=by simp at i;omega
 refine aD λR g=>?_;simp only[Ut,It.axV,VV,seval];refine⟨λ_=>⟨by simp;omega,?_⟩,λh=>by simp at h<;>omega⟩;refine ak (Lu x l e (by omega) _) rfl ?_;simp only[VV,seval];refine⟨by simp only[maxLen];omega,?_⟩;refine g _ (bL ?_ (ih (b++[x]) (s++dz x) (by simp) (by simp;omega) d));rw[cT (by omega)];simp only[ae,ah,aj];repeat' constructor
def Od{f:List It}(j:bA f<2^30)(h:cU f=0):X f<=512/\∀x∈f,(1<=x.axW/\x.axW<=5)/\(0<=x.id/\x.id<2^62)/\X x.ax1<=2^30/\X (dz x)<2^33:=by
 have g:=vN h;simp only[cU]at h;split at h;.simp at h
 rename_i l;refine⟨by omega,λx b=>?_⟩;have a:=mR f [] h x b;have c:∀f:List It,x∈f->X x.ax1<=bA f:=by
  intro f;induction f with
  |nil=>simp
  |cons y f ih =>
  intro d;simp only[bA];rcases bw.1 d with rfl|d;.omega
  have:=ih d;omega
 have i:=c f b;have e:0<=x.id/\x.id<2^62:=by
  simp only[cv]at a;split at a;.simp at a;omega
  split at a;.simp at a;omega
  split at a;.simp at a;omega
  split at a;.simp at a;omega
  simp at a
 have k:=rz x (by omega);exact⟨g x b,e,by omega,by omega⟩
def C7(c:bA f<2^30)(J:ai):bh A 77 [.sl 3 (f.map It.axV)] J (.iS [.s (ayj f).1,.I (ayj f).2]):=by
 refine aT func77 p77.2 λd e=>an ?_;simp only[p77,SS,seval];simp only[VV,seval];refine ak (tJ f _) rfl ?_;simp only[ab,VV,seval];refine⟨λh=>?_,λh=>?_⟩
 .have h:cU f≠0:=by simpa using h
  refine bt (by simp only[RS,seval];rfl) ⟨?_,rfl⟩;simp only[ayj,aO h];rfl
 have h:cU f=0:=by simpa using h
 obtain⟨b,a⟩:=Od c h;refine cD.bL ?_ (X f+1) (aiw f b a f [] [] rfl (iP _) ?_);.simp only[aj,jv];repeat' constructor
 simp only[JE];intros;simp only[aw,VV,seval];refine bt (by simp only[RS,seval];rfl) ⟨?_,rfl⟩;simp[ayj,h,Pm.cM]
def wR(c:X f<2^30)(b:bA f<2^30)(a:∀x∈f,-9223372036854775808<=x.id/\x.id<=9223372036854775807)(J:ai):bh A 175 [.sl 3 (f.map It.axV)] J (.sl 1 (aC (eY (ayj f).1))):=by refine aT func175 anm.2 λd e=>an ?_;have g:=oC f c b a;simp only[anm,SS,seval];simp only[VV,seval];refine ak (C7 f b _) rfl ?_;simp only[VV,seval];refine ak (r9 (ayj f).1 (by omega) _) rfl ?_;simp only[VV,seval];exact bt (by simp only[RS,seval];rfl) ⟨rfl,rfl⟩
def aot:((c.toNat:Int) != 62)=(c != 62):=by revert c;exact jW (by decide +kernel)
def agu:(decide (48<=(c.toNat:Int))&&decide ((c.toNat:Int)<=57))=fL c:=by revert c;exact jW (by decide +kernel)
def ach{c:UInt8}(a:∀c∈t,fL c=G)(f:X t<=4)(b:fL c=G): IntKind.i64.wrap (IntKind.i64.wrap (10*fP 0 t)+IntKind.i64.wrap (IntKind.u8.wrap ((c.toNat:Int) - 48)))=fP 0 (t++[c]):=by
 have h:=HE t 0 (X t) rfl (dd.2 a) (kX 0);have d:(10:Int)^X t<=10^4:=by
  have:X t=0\/X t=1\/X t=2\/X t=3\/X t=4:=by omega
  rcases this with h|h|h|h|h<;>rw[h]<;>decide
 simp only[fL,aV,bz]at b;have e:IntKind.u8.wrap ((c.toNat:Int) - 48)=(c.toNat:Int) - 48:=IntWalk.u8_in _ (by omega);have g:fP 0 t<10000:=by omega
 rw[e,IntWalk.i64_in (10*fP 0 t) (by omega),IntWalk.i64_in ((c.toNat:Int) - 48) (by omega),IntWalk.i64_in _ (by omega)];simp[fP]
def Ro{a:aL}(b:∀c∈t,fL c=G):X ((t++a).takeWhile fL)=X t+X (a.takeWhile fL):=by rw[List.takeWhile_append_of_pos b,ae]
set_option maxRecDepth 4000 in
def Xc{n:Nat}{J:ai}{K:bG}(a:V)(s:aL)(f:X s<2^62):∀(b d:aL),s=d++b ->(((fh (.s s) (fj 1 (fh (a) (fj 1 (fh (.I ((X d+X (b.takeWhile λc=>c != 62):Nat):Int)) (fj 134 fo)))))) λm=>K (.exit 0) ⟨m,J⟩)) ->gF n A L4 K (X b+1) ⟨(.s s::uu 1 (a::uu 1 (.I (X d)::uu 134 []))),J⟩:=by
 intro b;induction b with
 |nil =>
  intro d g e;have g:=dH g;subst g;have h:decide ((X s:Int)<(X s:Int))=Z:=by simp
  simp only[List.takeWhile_nil,aj,cg]at e;refine aD λR l=>?_;simp only[L4,h,VV,seval];exact⟨nofun,e ..⟩
 |cons c b ih =>
 intro d g e;subst g;have h:decide ((X d:Int)<(X (d++c::b):Int))=G:=by simp;omega
 refine aD λR l=>?_;simp only[L4,h,VV,seval];refine⟨by simp;omega,λj=>?_,λj=>?_⟩
 .have i:(c != 62)=G:=by rw[<- aot];exact j
  have k:X d+X ((c::b).takeWhile λc=>c != 62)=X (d++[c])+X (b.takeWhile λc=>c != 62):=by rw[eG,aO i];simp;omega
  rw[k]at e;refine l _ (bL ?_ (ih (d++[c]) (by simp) e));rw[cT (by simp at f;omega)];simp only[ae,ah,aj];repeat' constructor
 have i:¬(c != 62)=G:=by rw[<- aot,j];simp
 have k:X d+X ((c::b).takeWhile λc=>c != 62)=X d:=by rw[eG,ao i];simp
 rw[k]at e;exact e ..
set_option maxRecDepth 4000 in
def Xb(B C:V)(t:aL)(p:X t<2^62):∀(m:Nat) (a b:aL),t=a++b->X a+m=4->(∀c∈a,fL c=G) ->(∀k:Nat,k=min 4 (X (t.takeWhile fL))->((fj 2 (fh (q) (fj 1 (fh (B) (fh (.s t) (fh (C) (fh (.I (fP 0 (t.take k))) (fh (.I k) (fj 130 fo))))))))) λr=>K (.exit 2) ⟨r,J⟩)) ->gF T A Gb K (m+1) ⟨(uu 2 (q::uu 1 (B::.s t::C::.I (fP 0 a)::.I (X a)::uu 130 []))),J⟩:=by
 intro m;induction m with
 |zero =>
  intro a b n u e d;subst n;have g:decide ((X a:Int)<4)=Z:=by simp;omega
  refine aD λR o=>?_;simp only[Gb,g,VV,seval];have:=d (X a) (by rw[Ro e];omega);rw[qf]at this;exact⟨nofun,nofun,this ..⟩
 |succ m ih =>
 intro a b n u e d;subst n;have g:decide ((X a:Int)<4)=G:=by simp;omega
 cases b with
 |nil =>
  have i:decide ((X a:Int)<(X a:Int))=Z:=by simp
  have j:=d (X a) (by rw[Ro e];simp;omega);rw[qf]at j;clear d ih;simp only[bE]at j |-;refine aD λR o=>?_;simp only[Gb,i,g,VV,seval];exact⟨nofun,nofun,j ..⟩
 |cons c b =>
 have i:decide ((X a:Int)<(X (a++c::b):Int))=G:=by simp;omega
 refine aD λR o=>?_;simp only[Gb,i,g,VV,seval];have l:(0:Int)<=(X a:Int)/\(X a:Int)<(X (a++c::b):Int):=by simp;omega
 rw[agu];refine⟨l,λ_=>l,λh=>⟨l,?_⟩,λh=>?_⟩
 .rw[ach e (by omega) h];refine o _ (bL ?_ (ih (a++[c]) b (by simp) (by simp;omega) (by
   intro x f;rcases bJ.1 f with f|f;.exact e x f
   simp only[bw,bM,mg]at f;subst f;exact h) d));rw[cT (by omega)];simp only[ae,ah,aj];repeat' constructor
 have:=d (X a) (by rw[Ro e,eG,ao (by rw[h];simp)];simp;omega);rw[qf]at this;exact this ..
def aa4(c:UInt8):∀l:aL,Lib.indexByte l c=if(l.takeWhile λx=>x != c).length<X l then(X (l.takeWhile λx=>x != c):Int)else -1
 |[]=>by simp[Lib.indexByte]
 |a::l=>by
  by_cases f:a=c;.subst f;simp[Lib.indexByte]
  have g:(a==c)=Z:=by simpa using f
  have d:(a != c)=G:=by simpa using f
  have ih:=aa4 c l;simp only[Lib.indexByte,g,aI,bo,eG,d,aR,ah];generalize (X (l.takeWhile λx=>x != c))=b at ih;by_cases h:b<X l
  .rw[aO h]at ih;have e:((b:Int) == -1)=Z:=by rw[fW];omega
   rw[ih,aO (show b+1<X l+1 by omega),e];rfl
  rw[ao h]at ih;rw[ih,ao (show ¬b+1<X l+1 by omega)];rfl
def RM:mj (60::s)=if(s.takeWhile λx=>x != 62).length<X s then
  (if(Lh (s.take (X (s.takeWhile λx=>x != 62)))).2=G then((Lh (s.take (X (s.takeWhile λx=>x != 62)))).1,(X (s.takeWhile λx=>x != 62):Int)+2)else(pH,0))else(pH,0):=by
 have a:=aa4 62 (60::s);simp only[eG,show((60:UInt8) != 62)=G from rfl,aR,ah]at a;rw[Wo rfl];by_cases h:X (s.takeWhile λx=>x != 62)<X s
 .rw[aO (by omega)]at a;rw[a,aO h,ao (by omega)];have e:((60::s).take ((X (s.takeWhile λx=>x != 62)+1:Nat):Int).toNat).drop 1=s.take (X (s.takeWhile λx=>x != 62)):=by rw[al,eZ];rfl
  rw[e];congr 2
 rw[ao (by omega)]at a;rw[a,ao h,aO (by decide)]
def u47:((c.toNat:Int)==47)=(c==47):=by revert c;exact jW (by decide +kernel)
def u48:((c.toNat:Int)==48)=(c==48):=by revert c;exact jW (by decide +kernel)
def u58:((c.toNat:Int) != 58)=(c != 58):=by revert c;exact jW (by decide +kernel)
def al8(h:t≠[]):ayl t [47]=(((t.getD 0 0).toNat:Int)==47):=by cases t with|nil=>exact absurd rfl h|cons a t=>rw[u47];simp[ayl]
def ak5(h:t≠[]):ayo t [47]=(((t.getD (X t - 1) 0).toNat:Int)==47):=by
 rcases fN t with b|⟨c,a,b⟩;.exact absurd b h
 rw[fk]at b;subst b;rw[u47,pt];simp[ax]
set_option maxRecDepth 8000 in
def Ls(s:aL)(h0:s.getD 0 0=60)(m:X s<2^62)(J:ai):bh A 186 [.s s] J (.iS [.agg (mj s).1.axV,.I (mj s).2]):=by
 obtain⟨d,rfl⟩:∃d,s=60::d:=by cases s with|nil=>simp at h0|cons a r=>simp only[aQ]at h0;exact⟨r,by rw[h0]⟩
 refine aT func186 anb.2 λz dG=>?_;simp only[anb,SS,seval];refine cD.cut λR g=>?_;simp only[VV,seval];refine g _ (cD.fG (fr':=(.s (60::d)::uu 1 (.ptr (X J) 0::uu 136 []))) ?_ (by repeat' constructor));clear g R;refine cD.cut λR g=>?_;simp only[VV,seval];refine g _ (cD.fG (fr':=(.s (60::d)::uu 1 (.ptr (X J) 0::uu 1 (.I ((1:Nat):Int)::uu 134 [])))) ?_ (by repeat' constructor));clear g R;refine cD.cut λR g=>?_;simp only[VV,seval];have o:=RM d;refine cD.bL ?_ (X d+1) (Xc (.ptr (X J) 0) (60::d) m d [60] rfl ?_);.simp only[ah,aj];repeat' constructor
 generalize P:X (d.takeWhile λx=>x != 62)=e at o;have ac:e<=X d:=by rw[<- P];exact(List.takeWhile_prefix _).length_le
 simp only[JE];intros;simp only[ah,aj,aP,VV,seval];refine g _ (cD.fG (fr':=(.s (60::d)::uu 1 (.ptr (X J) 0::uu 1 (.I ((1+e:Nat):Int)::uu 134 [])))) ?_ (by repeat' constructor));clear g R;refine cD.cut λR g=>?_;simp only[ah,VV,seval];refine⟨λh=>?_,λh=>?_⟩
 .have h:¬e<X d:=by simp at h;omega
  rw[ao h]at o;refine aS z (by simp only[RS,seval];rfl) (by simp[LW]) ⟨?_,rfl⟩;rw[o];rfl
 have h:e<X d:=by simp at h;omega
 rw[aO h]at o;refine g _ (cD.fG (fr':=(.s (60::d)::uu 1 (.ptr (X J) 0::uu 1 (.I ((1+e:Nat):Int)::uu 134 [])))) ?_ (by repeat' constructor));clear g R;generalize C:d.take e=t at o;have K:X t<2^62:=by rw[<- C,aX];simp at m;omega
 refine cD.cut λR g=>?_;simp only[ah,VV,seval];refine⟨by omega,?_⟩;have O:List.take (1+e - 1) d=t:=by rw[<- C];congr 1;omega
 rw[O];refine g _ (cD.fG (fr':=(uu 2 (.ptr (X J) 0::uu 1 (.I ((1+e:Nat):Int)::.s t::.I 2::uu 132 [])))) ?_ (by repeat' constructor));clear g R;refine cD.cut λR g=>?_;have l:∀(f:Int) (u:aL),X u<2^62->mj (60::d)=(if(wJ f u).2=true then((wJ f u).1,(e:Int)+2)else(pH,0))->(f=2\/f=3\/f=4) ->
   ∀{p:ar},qP p (uu 2 (.ptr (X J) 0::uu 1 (.I ((1+e:Nat):Int)::.s u::.I f::uu 132 [])))->R ⟨p,J++[.box 70 [.I 0,.s [],.I 0]]⟩:=by
  intro f u M n N p D;refine g _ (cD.fG ?_ D);clear g R;refine cD.cut λR g=>?_;simp only[VV,seval];refine g _ (cD.fG (fr':=(uu 2 (.ptr (X J) 0::uu 1 (.I ((1+e:Nat):Int)::.s u::.I f::.I (fP 0 [])::.I (X ([]:aL):Nat)::uu 130 [])))) ?_ (by repeat' constructor));clear g R;refine cD.cut λR g=>?_;simp only[VV,seval];refine cD.bL ?_ 5 (Xb (.ptr (X J) 0) (.I ((1+e:Nat):Int)) (.I f) u M 4 [] u rfl rfl (by simp) ?_);.repeat' constructor
  intro k W;simp only[JE];intros;simp only[VV,seval];refine g _ (cD.fG (fr':=(uu 2 (.ptr (X J) 0::uu 1 (.I ((1+e:Nat):Int)::.s u::.I f::.I (fP 0 (u.take k))::.I k::uu 130 [])))) ?_ (by repeat' constructor));clear g R;have j:wJ f u=if k=0\/X u<=k\/u.getD 0 0=48\/999<fP 0 (u.take k)\/u.getD k 0≠58 then(pH,Z)else
    if(f=3/\ayc (u.drop (k+1))=Z)\/(f≠3/\eQ (u.drop (k+1))=Z)then(pH,Z)else(⟨f,u.drop (k+1),fP 0 (u.take k)⟩,true):=by rw[W];rfl
  refine cD.cut λR g=>?_;simp only[al,VV,seval];have U:(((((k:Int)==0||decide ((X u:Int)<=(k:Int)))||((u.getD 0 0).toNat:Int)==48)||decide (999<fP 0 (u.take k)))||((u.getD k 0).toNat:Int) != 58)=decide (k=0\/X u<=k\/u.getD 0 0=48\/999<fP 0 (u.take k)\/u.getD k 0≠58):=by rw[u48,u58,ei];simp[or_assoc]
  rw[U];refine⟨λh=>by simp at h;omega,λh=>by simp at h;omega,λh=>?_,λh=>?_⟩;.rw[aO (by simpa using h)]at j;refine aS z (by simp only[RS,seval];rfl) (by simp[LW]) ⟨?_,rfl⟩;rw[n,j];rfl
  have h:=oF h;rw[ao h]at j;simp only[xQ]at h;refine g _ (cD.fG (fr':=(uu 2 (.ptr (X J) 0::uu 1 (.I ((1+e:Nat):Int)::.s u::.I f::.I (fP 0 (u.take k))::.I k::uu 130 [])))) ?_ (by repeat' constructor));clear g R;have H:IntKind.i64.wrap ((k:Int)+1)=((k+1:Nat):Int):=by rw[IntWalk.i64_in _ (by omega)];omega
  refine cD.cut λR g=>?_;simp only[H,al,VV,seval];have E:List.take (X u - (k+1)) (List.drop (k+1) u)=u.drop (k+1):=cc (by simp);rw[E];refine⟨by omega,?_⟩;refine g _ (cD.fG (fr':=(uu 2 (.ptr (X J) 0::uu 1 (.I ((1+e:Nat):Int)::uu 1 (.I f::uu 2 (.ptr (X J+1) 0::uu 129 [])))))) ?_ (by repeat' constructor));clear g R;have F:IntKind.i64.wrap (((1+e:Nat):Int)+1)=(e:Int)+2:=by rw[IntWalk.i64_in _ (by simp at m;omega)];omega
  refine cD.cut λR g=>?_;have w:∀{p:ar},mj (60::d)=(⟨f,u.drop (k+1),fP 0 (u.take k)⟩,(e:Int)+2)->qP p (uu 2 (.ptr (X J) 0::uu 1 (.I ((1+e:Nat):Int)::uu 4 (.ptr (X J+1) 0::uu 129 [])))) ->
    R ⟨p,J++[.box 70 [.I 0,.s [],.I 0],.box 70 [.I f,.s (u.drop (k+1)),.I (fP 0 (u.take k))]]⟩:=by intro p V D;refine g _ (cD.fG ?_ D);clear g R;refine an ?_;simp only[F,VV,seval];refine aS z (by simp only[RS,seval];rfl) (by simp[LW]) ⟨?_,rfl⟩;rw[V];rfl
  by_cases q:f=3
  .subst q;simp only[VV,seval];refine cm (by simp only[VV,seval]<;>rfl) (λ_=>oQ _ _) rfl ?_;simp only[VV,seval];refine cm (c:=Z) (v:=.b Z) (by simp only[VV,seval]<;>simp) (nofun) rfl ?_;simp only[VV,seval];refine⟨λi=>?_,λi=>?_⟩
   .have i:ayc (u.drop (k+1))=Z:=by rw[dt]at i;exact i
    rw[aO (.inl ⟨rfl,i⟩)]at j;refine aS z (by simp only[RS,seval];rfl) (by simp[LW]) ⟨?_,rfl⟩;rw[n,j];rfl
   have i:ayc (u.drop (k+1))=true:=by rw[eI]at i;exact i
   rw[ao (by simp only[i];simp)]at j;exact w (by rw[n,j];rfl) (by repeat' constructor)
  have n3:(f==3)=Z:=by simpa using q
  have y:(f != 3)=true:=by simpa using q
  simp only[n3,y,VV,seval];refine cm (c:=Z) (v:=.b Z) (by simp only[VV,seval]<;>rfl) (nofun) rfl ?_;simp only[n3,y,VV,seval];refine cm (by simp only[VV,seval]<;>rfl) (λ_=>r8 _ _) rfl ?_;simp only[VV,seval];refine⟨λi=>?_,λi=>?_⟩
  .have i:eQ (u.drop (k+1))=Z:=by rw[dt]at i;exact i
   rw[aO (.inr ⟨q,i⟩)]at j;refine aS z (by simp only[RS,seval];rfl) (by simp[LW]) ⟨?_,rfl⟩;rw[n,j];rfl
  have i:eQ (u.drop (k+1))=true:=by rw[eI]at i;exact i
  rw[ao (by simp only[i,q];simp)]at j;exact w (by rw[n,j];rfl) (by repeat' constructor)
 simp only[VV,seval];have T:X t<=X d:=by rw[<- C,aX];omega
 by_cases B:t=[]
 .subst B;refine⟨nofun,nofun,λ_=>⟨nofun,nofun,λ_=>l 2 [] (by simp) ?_ (.inl rfl) ?_⟩⟩;.exact o
  repeat' constructor
 have Qb:0<X t:=fb.2 B;have L:IntKind.i64.wrap ((X t:Int) - 1)=((X t - 1:Nat):Int):=by rw[IntWalk.i64_in _ (by omega)];omega
 have Q:decide ((0:Int)<(X t:Int))=true:=by simp;omega
 have Qi:List.take (X t - 1) (List.drop 1 t)=t.drop 1:=cc (by simp);simp only[L,Q,Qi,al,cN,<- al8 B,<- ak5 B];refine⟨λ_=>by omega,λh=>⟨by omega,l 3 (t.drop 1) (by simp;omega) ?_ (.inr (.inl rfl)) ?_⟩,λh=>⟨λ_=>by omega,λi=>⟨by omega,l 4 (t.take (X t - 1)) (by simp;omega) ?_ (.inr (.inr rfl)) ?_⟩,λi=>l 2 t K ?_ (.inl rfl) ?_⟩⟩;.rw[o];simp only[Lh,h,aR]
 .repeat' constructor
 .rw[o];simp only[Lh,h,i,aI,bo,aR]
 .repeat' constructor
 .rw[o];simp only[Lh,h,i,aI,bo]
 repeat' constructor
def La:Prop:=s.getD a 0=125/\ayc ((s.take a).drop 1)=G
def aqH:((c.toNat:Int)==125)=(c==125):=by revert c;exact jW (by decide +kernel)
def Xi{J:ai}{K:bG}(s:aL)(u:X s<2^62):∀(m k:Nat),k+m=26->1<=k->(∀j,1<=j->j<k->j<X s->¬La s j) ->((∀j,1<=j->j<X s->j<=25->¬La s j)->((fj 2 (fh (.ptr (X J) 0) (fj 71 fo))) λq=>K (.exit 1) ⟨q,J++[.box 70 [.I 0,.s [],.I 0]]⟩)) ->(∀k:Nat,1<=k->k<X s->La s k->((fj 2 (fh (.ptr (X J) 0) (fh (.I ((k+1:Nat):Int)) (fj 70 fo)))) λq=>K .ret ⟨q,J++[.box 70 [.I 5,.s ((s.take k).drop 1),.I 0]]⟩)) ->gF (X J) A Gh K (m+1) ⟨(.s s::uu 1 (.ptr (X J) 0::uu 1 (.I k::uu 69 []))),J++[.box 70 [.I 0,.s [],.I 0]]⟩:=by
 intro m;induction m with
 |zero =>
  intro k v r c e l;have d:decide ((k:Int)<=25)=Z:=by simp;omega
  refine aD λR p=>?_;simp only[Gh,d,dU,VV,seval];exact e (λj b f n=>c j b (by omega) f) ..
 |succ m ih =>
 intro k v r c e l;have d:decide ((k:Int)<=25)=G:=by simp;omega
 have g:IntKind.i64.wrap ((k:Int)+1)=((k+1:Nat):Int):=by rw[IntWalk.i64_in _ (by omega)];omega
 by_cases o:k<X s
 .have i:decide ((k:Int)<(X s:Int))=G:=by simp;omega
  refine aD λR p=>?_;have a:List.take (k - 1) (List.drop 1 s)=(s.take k).drop 1:=by rw[ako]
  simp only[Gh,i,d,g,al,a,VV,seval];refine⟨by omega,λ_=>by omega,cm (by simp only[VV,seval]<;>rfl) (λ_=>oQ _ _) rfl ?_⟩;simp only[g,a,aqH,al,VV,seval];refine⟨λh=>⟨by omega,?_⟩,λh=>?_⟩;.exact l k r o (by simpa[La]using h) ..
  refine p _ (bL ?_ (ih (k+1) (by omega) (by omega) (λj b f n=>?_) e l));.repeat' constructor
  by_cases w:j=k;.subst w;intro t;rw[t.1,t.2]at h;simp at h
  exact c j b (by omega) n
 have i:decide ((k:Int)<(X s:Int))=Z:=by simp;omega
 refine aD λR p=>?_;simp only[Gh,i,d,g,al,VV,seval];exact e (λj b f n=>c j b (by omega) f) ..
def Xh{J:ai}{K:bG}(s:aL)(l:X s<2^62):∀(m c:Nat),c+m=256->(∀j,j<c->ayl s (gq (UInt8.ofNat j))=Z) ->((∀j,j<256->ayl s (gq (UInt8.ofNat j))=Z)->((fj 2 (fh (.ptr (X J) 0) (fj 71 fo))) λe=>K (.exit 3) ⟨e,J++[.box 70 [.I 0,.s [],.I 0]]⟩)) ->(∀b:UInt8,ayl s (gq b)=G->((fj 2 (fh (.ptr (X J) 0) (fh (.I (X (gq b))) (fj 70 fo)))) λe=>K .ret ⟨e,J++[.box 70 [.I 1,.s [b],.I 0]]⟩)) ->gF (X J) A Ml K (m+1) ⟨(.s s::uu 1 (.ptr (X J) 0::uu 2 (.I c::uu 68 []))),J++[.box 70 [.I 0,.s [],.I 0]]⟩:=by
 intro m;induction m with
 |zero =>
  intro c i d f a;have i:c=256:=by omega
  subst i;refine aD λR o=>?_;simp only[Ml,VV,seval];exact⟨nofun,λ_=>f d ..⟩
 |succ m ih =>
 intro c i d f a;have n:IntKind.i64.wrap ((c:Int)+1)=((c+1:Nat):Int):=by rw[IntWalk.i64_in _ (by omega)];omega
 have k:IntKind.u8.wrap (c:Int)=((UInt8.ofNat c).toNat:Int):=by rw[IntWalk.u8_in _ (by omega)];simp;omega
 have p:decide ((c:Int)<256)=G:=by simp;omega
 refine aD λR o=>?_;simp only[Ml,p,k,n,VV,seval];refine ak (AR (UInt8.ofNat c) _) rfl ?_;simp only[k,n,al,VV,seval];have q:(decide ((X (gq (UInt8.ofNat c)):Int)<=(X s:Int))&&List.take (X (gq (UInt8.ofNat c))) s==gq (UInt8.ofNat c))=ayl s (gq (UInt8.ofNat c)):=by simp only[ayl,Yw]
 rw[q];refine⟨λh=>by simp at h;omega,λh=>a _ h ..,λh=>?_⟩;refine o _ (bL ?_ (ih (c+1) (by omega) (λj r=>?_) f a));.repeat' constructor
 by_cases g:j=c;.subst g;exact h
 exact d j (by omega)
def WC(s:aL)(q:s≠[])(d:X s<2^62)(J:ai):bh A 133 [.s s] J (.iS [.agg (mj s).1.axV,.I (mj s).2]):=by
 refine aT func133 anU.2 λi x=>an ?_;have w:0<X s:=fb.2 q;have e:(((s.getD 0 0).toNat:Int)==123)=(s.getD 0 0==123):=by generalize s.getD 0 0=a;revert a;exact jW (by decide +kernel)
 have l:(((s.getD 0 0).toNat:Int)==60)=(s.getD 0 0==60):=by generalize s.getD 0 0=a;revert a;exact jW (by decide +kernel)
 have g:(0:Int)<=0/\(0:Int)<(X s:Int):=by omega
 simp only[anU,SS,seval];by_cases h:s.getD 0 0=123
 .have m:(s.getD 0 0==123)=G:=by simpa using h
  simp only[e,m,VV,seval,-Int.reduceLE];refine⟨g,?_⟩;refine cD.bL ?_ 26 (Xi s d 25 1 rfl (aB _) (λj v z=>by omega) (λn=>?_) (λk r t p=>?_));.simp only[Int.natCast_one];repeat' constructor
  .simp only[JE];intros;simp only[VV,seval];refine aS i (by simp only[RS,seval];rfl) (by simp[LW]) ⟨?_,rfl⟩;rw[Li h n];rfl
  simp only[JE];intros;simp only[VV,seval];refine aS i (by simp only[RS,seval];rfl) (by simp[LW]) ⟨?_,rfl⟩;rw[RL h r t p.1 p.2];rfl
 have m:(s.getD 0 0==123)=Z:=by simpa using h
 by_cases f:s.getD 0 0=60
 .have o:(s.getD 0 0==60)=G:=by simpa using f
  simp only[e,l,m,o,VV,seval,-Int.reduceLE];refine⟨g,g,?_⟩;refine ak (Ls s f d _) rfl ?_;simp only[It.axV,VV,seval];refine aS i (by simp only[RS,seval];rfl) (by simp[LW]) ⟨?_,rfl⟩;rfl
 have o:(s.getD 0 0==60)=Z:=by simpa using f
 simp only[e,l,m,o,VV,seval,-Int.reduceLE];refine⟨g,g,?_⟩;refine cD.bL ?_ 257 (Xh s d 256 0 rfl (λj y=>by omega) (λn=>?_) (λb u=>?_));.simp only[jv];repeat' constructor
 .simp only[JE];intros;simp only[VV,seval];refine aS i (by simp only[RS,seval];rfl) (by simp[LW]) ⟨?_,rfl⟩;rw[RN q f h (λc=>by have:=n c.toNat c.toNat_lt;rwa [UInt8.ofNat_toNat]at this)];rfl
 simp only[JE];intros;simp only[VV,seval];refine aS i (by simp only[RS,seval];rfl) (by simp[LW]) ⟨?_,rfl⟩;rw[RO u];rfl
def aiz(s:aL)(z:bW J)(j:X s<2^30):∀(n:Nat) (a b:aL) (f:List It) (len:Nat),s=b++a->X a<n->X f<=512->bA f<=X b->len<=1024 ->((kC n f len a (X b)).2.2=0->((fj 5 (fh (.sl 3 ((kC n f len a (X b)).1.map It.axV)) (fj 49 fo))) λt=>K (.exit 0) ⟨t,J⟩)) ->((kC n f len a (X b)).2.2≠0->∀v,((fj 2 (fh (.nil) (fh (.I (kC n f len a (X b)).2.1) (fh (.I (kC n f len a (X b)).2.2) (fj 50 fo))))) λt=>K .ret ⟨t,J++v⟩)) ->gF (X J) A Uw K n ⟨(.s s::uu 4 (.sl 3 (f.map It.axV)::.I (X b)::.I len::uu 47 [])),J⟩:=by
 intro n;induction n with
 |zero=>intro a b f len g B;omega
 |succ n ih =>
 intro a b f len g B P L M i d;cases a with
 |nil =>have g:=dH g;subst g;simp only[kC]at i;refine aD λR u=>?_;simp only[Uw,VV,seval];exact⟨λh=>by simp at h,λ_=>i trivial ..⟩
 |cons c a =>
 subst g;have w:=RK (s:=c::a) (by simp);have D:List.take (X (b++c::a) - X b) (List.drop (X b) (b++c::a))=c::a:=by simp
 simp only[kC]at i d;refine aD λR u=>?_;simp only[Uw,D,al,VV,seval];refine⟨λ_=>⟨by simp;omega,?_⟩,λh=>by simp at h<;>omega⟩;refine ak (WC (c::a) (by simp) (by simp at j |-;omega) _) rfl ?_;generalize O:mj (c::a)=xm at *;obtain⟨x,m⟩:=xm;simp only at w i d;simp only[It.axV,VV,seval];refine⟨λk=>?_,λk=>?_⟩
 .have k:m=0:=by simpa using k
  simp only[k,aR]at d;exact d (by simp) [_] ..
 have k:m≠0:=by simpa using k
 obtain⟨N,E,H⟩:=w k;rw[ao k]at i d;have F:=Sh (f++[x]);simp only[gz,bA,ae,ah,aj]at F;have C:X b+(X a+1)<2^30:=by simpa using j
 simp only[ah]at E B;have r:X (b++(c::a).take m.toNat)=X b+m.toNat:=by rw[ae,aX,ah];omega
 have o:IntKind.i64.wrap ((len:Int)+1)=((len+1:Nat):Int):=by rw[IntWalk.i64_in _ (by omega)];omega
 have p:IntKind.i64.wrap ((X b:Int)+m)=(X b:Int)+m:=IntWalk.i64_in _ (by omega);have y:(len:Int)+1=((len+1:Nat):Int):=by omega
 have q:(X b:Int)+m=((X (b++(c::a).take m.toNat):Nat):Int):=by rw[r];omega
 refine⟨λl=>?_,λl=>?_⟩
 .have l:x.axW≠1:=by simpa using l
  refine ak (FN f x _) rfl ?_;simp only[It.axV,VV,seval];refine⟨λg=>?_,λg=>?_⟩
  .have g:iA f x≠0:=by simpa using g
   rw[aO ⟨l,g⟩]at d;exact d g [_] ..
  have g:iA f x=0:=by simpa using g
  rw[ao (λh=>h.2 g)]at i d;refine kh (zs:=[.sl 3 (f.map It.axV),.sl 3 ([x].map It.axV)]) (.cons (.refl _) (.cons (.lit _ _) .nil)) (oN f [x] (by omega) (by simp) (by omega) (by simp only[bA];omega) _) ?_;simp only[o,p,ab,VV,seval];refine⟨λe=>?_,λe=>?_⟩
  .have e:512<X (ayb (f++[x]))\/(1024:Int)<(len:Int)+1:=by simp at e;omega
   rw[aO e]at d;exact d (by simp) [_] ..
  have e:¬(512<X (ayb (f++[x]))\/(1024:Int)<(len:Int)+1):=by simp at e;omega
  rw[ao e,y,q]at i d;refine u _ (uj (aB _) z ?_ ?_ (ih ((c::a).drop m.toNat) (b++(c::a).take m.toNat) (ayb (f++[x])) (len+1) (by simp) (by rw[bN,ah];omega) (by omega) (by rw[r];omega) (by omega) i d));.rw[<- q];repeat' constructor
  simp only[LW]
 have l:x.axW=1:=by simpa using l
 rw[ao (λh=>h.1 l)]at i d;refine kh (zs:=[.sl 3 (f.map It.axV),.sl 3 ([x].map It.axV)]) (.cons (.refl _) (.cons (.lit _ _) .nil)) (oN f [x] (by omega) (by simp) (by omega) (by simp only[bA];omega) _) ?_;simp only[o,p,ab,VV,seval];refine⟨λe=>?_,λe=>?_⟩
 .have e:512<X (ayb (f++[x]))\/(1024:Int)<(len:Int)+1:=by simp at e;omega
  rw[aO e]at d;exact d (by simp) [_] ..
 have e:¬(512<X (ayb (f++[x]))\/(1024:Int)<(len:Int)+1):=by simp at e;omega
 rw[ao e,y,q]at i d;refine u _ (uj (aB _) z ?_ ?_ (ih ((c::a).drop m.toNat) (b++(c::a).take m.toNat) (ayb (f++[x])) (len+1) (by simp) (by rw[bN,ah];omega) (by omega) (by rw[r];omega) (by omega) i d));.rw[<- q];repeat' constructor
 simp only[LW]
def zM(s:aL)(a:X s<2^30)(J:ai):bh A 73 [.s s] J (.iS [.sl 3 ((parse s).1.map It.axV),.I (parse s).2.1,.I (parse s).2.2]):=by
 refine aT func73 p73.2 λc i=>an ?_;rw[<- AA];simp only[p73,SS,seval];simp only[VV,seval];refine cD.wk (Wk.fG ?_) (cD.mM (X s+1) (aiz s c a (X s+1) s [] [] 0 rfl (by omega) (by simp) (by simp[bA]) (by omega) (λh=>?_) (λh=>?_)));.simp only[aj,jv,aq,VV,seval];repeat' constructor
 .have e:=Fm _ _ _ _ _ h;simp only[JE];intros;simp only[VV,seval];refine bt (by simp only[RS,seval];rfl) ⟨?_,rfl⟩;have d:(B1 s).2.2=0:=h;have f:(B1 s).2.1=0:=e;rw[d,f];rfl
 simp only[JE];intros;simp only[VV,seval];refine lE (ys:=[.sl 3 [],.I (B1 s).2.1,.I (B1 s).2.2]) c (.inr rfl) (by simp only[RS,seval];rfl) ?_ (by simp[LW]) ⟨?_,rfl⟩;.exact .cons (.nil _) (.cons (.refl _) (.cons (.refl _) .nil))
 have g:=wD _ _ _ _ _ h;have b:(B1 s).1=[]:=g;rw[b];rfl
def PK(s:aL)(J:ai):bh A 74 [.s s] J (.b (named s)):=by refine aT func74 p74.2 λa c=>an ?_;simp only[p74,SS,seval];simp only[VV,seval];refine cm (by simp only[VV,seval]<;>rfl) (λ_=>oQ s _) rfl ?_;simp only[VV,seval];exact bt (by simp only[RS,seval];rfl) ⟨rfl,rfl⟩
def kq(e:En)(d:e.axZ)(J:ai):bh A 31 [.agg e.axV] J (.I (cY e)):=by
 refine aT func31 p31.2 λb m=>an ?_;simp only[p31,SS,seval];simp only[En.axV,VV,seval];refine ak (tJ e.ax3 _) rfl ?_;simp only[VV,seval];refine⟨λh=>?_,λh=>?_⟩
 .have h:cU e.ax3≠0:=by simpa using h
  exact aS b (by simp only[RS,seval];rfl) (by simp[LW]) ⟨by simp only[cY,h,aR,gj,eP];rfl,rfl⟩
 have i:cU e.ax3=0:=by simpa using h
 refine ak (tJ e.ax4 _) rfl ?_;simp only[VV,seval];refine⟨λh=>?_,λh=>?_⟩
 .have h:cU e.ax4≠0:=by simpa using h
  refine aS b (by simp only[RS,seval];rfl) (by simp[LW]) ⟨?_,rfl⟩;simp only[cY,i,h,aR,gj,eP,fU,bo];rfl
 have j:cU e.ax4=0:=by simpa using h
 refine ak (wQ e.ax3 e.ax4 (by have:=d.ax3;omega) (by have:=d.ax4;omega) (by have:=d.kz;omega) (by have:=d.rl;omega) _) rfl ?_;simp only[ab,VV,seval];refine cm (by simp only[VV,seval]<;>rfl) (λ_=>yf (iX e.ax3 e.ax4) e.ax3 _) rfl ?_;simp only[VV,seval];refine cm (by simp only[VV,seval]<;>rfl) (λ_=>yf (jL e.ax3 e.ax4) e.ax4 _) rfl ?_;simp only[VV,seval];have a:oo e=!((((X e.ax3:Int)==0)||!iJ (iX e.ax3 e.ax4) e.ax3)||!iJ (jL e.ax3 e.ax4) e.ax4):=by
  have:((X e.ax3:Int)==0)=(X e.ax3==0):=by rw[ei];simp
  simp only[oo,this];cases(X e.ax3==0)<;>cases iJ (iX e.ax3 e.ax4) e.ax3<;>cases iJ (jL e.ax3 e.ax4) e.ax4<;>rfl
 refine⟨λh=>?_,λh=>?_⟩;.rw[h]at a;refine aS b (by simp only[RS,seval];rfl) (by simp[LW]) ⟨?_,rfl⟩;simp only[cY,i,j,a,gj,fU,bo];rfl
 rw[h]at a;have f:cY e=if(parse e.cJ).2.2≠0 then(parse e.cJ).2.2 else if(parse e.next).2.2≠0 then(parse e.next).2.2 else
   if(named e.dL&&named e.dh)=Z then 4 else if e.ayd<0\/1073741824<e.ayd\/e.ayf<1\/3<e.ayf then 1 else 0:=by simp only[cY,i,j,a,gj,fU,bo];rfl
 refine ak (zM e.cJ (by have:=d.cJ;omega) _) rfl ?_;simp only[VV,seval];refine⟨λh=>?_,λh=>?_⟩
 .have h:(parse e.cJ).2.2≠0:=by simpa using h
  rw[f,aO h];exact gL b (by rfl) (by simp[LW])
 have k:¬(parse e.cJ).2.2≠0:=by simpa using h
 refine ak (zM e.next (by have:=d.next;omega) _) rfl ?_;simp only[VV,seval];refine⟨λh=>?_,λh=>?_⟩
 .have h:(parse e.next).2.2≠0:=by simpa using h
  rw[f,ao k,aO h];exact gL b (by rfl) (by simp[LW])
 have l:¬(parse e.next).2.2≠0:=by simpa using h
 rw[ao k,ao l]at f;refine ak (PK e.dL _) rfl ?_;simp only[VV,seval];refine cm (by simp only[VV,seval]<;>rfl) (λ_=>PK e.dh _) rfl ?_;simp only[VV,seval];have g:(!named e.dL||!named e.dh)=!(named e.dL&&named e.dh):=by cases named e.dL<;>cases named e.dh<;>rfl
 rw[g];refine⟨λh=>?_,λh=>⟨λc=>?_,λc=>?_⟩⟩
 .have h:(named e.dL&&named e.dh)=Z:=by rw[dt]at h;exact h
  rw[f,aO h];exact gL b (by rfl) (by simp[LW])
 .have h:¬(named e.dL&&named e.dh)=Z:=by rw[eI]at h;rw[h];simp
  have c:e.ayd<0\/1073741824<e.ayd\/e.ayf<1\/3<e.ayf:=by simp at c;omega
  rw[f,ao h,aO c];exact gL b (by rfl) (by simp[LW])
 have h:¬(named e.dL&&named e.dh)=Z:=by rw[eI]at h;rw[h];simp
 have c:¬(e.ayd<0\/1073741824<e.ayd\/e.ayf<1\/3<e.ayf):=by simp at c;omega
 rw[f,ao h,ao c];exact gL b (by rfl) (by simp[LW])
def rO(e:En)(a:e.axZ)(J:ai):bh A 33 [.agg e.axV] J (.s (fZ e)):=by
 refine aT func33 p33.2 λb f=>an ?_;simp only[p33,SS,seval];simp only[En.axV,VV,seval];refine ak (kq e a _) rfl ?_;simp only[VV,seval];refine⟨λh=>?_,λh=>?_⟩
 .have h:cY e≠0:=by simpa using h
  exact aS b (by simp only[RS,seval];rfl) (by simp[LW]) ⟨by simp only[fZ,h,aR,gj,eP];rfl,rfl⟩
 have h:¬cY e≠0:=by simpa using h
 refine ak (C7 e.ax3 (by have:=a.kz;omega) _) rfl ?_;simp only[VV,seval];have d:=oC e.ax3 a.ax3 a.kz (λx c=>a.ids x (by simp[c]));have i:=a.cJ;have g:=a.next;refine⟨by simp[maxLen];omega,by simp[maxLen];omega,by simp[maxLen];omega,by simp[maxLen];omega,?_⟩;refine aS b (by simp only[RS,seval];rfl) (by simp[LW]) ⟨?_,rfl⟩;simp[Pm.cM,fZ,ao h,dw]
def KR:bH:=(List.range a).map λ(i:Nat)=>mB v i
def Q7(v:bH):Nat->Nat|0=>0|n+1=>if 0<mB v n then n+1 else Q7 v n
def EW:0<=mB v n:=by
 simp only[mB];split;.omega
 split<;>omega
def Oi:mB [] n=0:=by
 simp only[mB];split;.rfl
 simp
def HW:KR v (a+1)=KR v a++[mB v a]:=by simp[KR,rU]
def QT(v:bH):∀n,kT v [] n=KR v n|0=>rfl|n+1=>by have:=EW v n;rw[zq,HW,QT v n,Oi,ao (by omega)]
def GQ(v:bH):∀n,ig v [] n=Q7 v n
 |0=>rfl
 |n+1=>by
  have:=EW v n;have a:(if mB v n<0 then(0:Int)else mB v n)=mB v n:=ao (by omega);simp only[ig,Q7,Oi,a,GQ v n];by_cases h:0<mB v n;.rw[aO (by omega),aO h]
  rw[ao (by omega),ao h]
def aar:Q7 v a<=a:=by rw[<- GQ];exact nr v [] a
def VZ:jf v=KR v (Q7 v 8):=by have h:=aar v 8;simp only[jf,rY,QT,GQ];simp only[KR,fM,<- List.map_take,List.take_range];congr 2;omega
def tIr:Ti A 3 1 8:=ng (by kernel_rfl)
def Xe(j:a<8):∀(m k g:Nat),k+m=a ->(∀g,((fh (.sl 1 (v.map cG)) (fj 2 (fh (.own (X J) g) (fh (.I a) (fj 26 fo))))) λi=>K (.exit 2) ⟨i,J++[.row 3 1 8 g Z ((KR v a).map cG)]⟩)) ->gF (X J) A Gd K (m+1) ⟨(.sl 1 (v.map cG)::uu 2 (.own (X J) g::.I a::uu 26 [])),J++[.row 3 1 8 g Z ((KR v k).map cG)]⟩:=by
 intro m;induction m with
 |zero =>
  intro k g b c;have b:k=a:=by omega
  subst b;have e:X (KR v k)=k:=by simp[KR]
  refine aD λR d=>?_;simp only[Gd,ab,e,VV,seval];exact⟨λh=>by simp at h,λ_=>c g ..⟩
 |succ m ih =>
 intro k g b c;have e:X (KR v k)=k:=by simp[KR]
 refine aD λR d=>?_;simp only[Gd,ab,e,VV,seval];refine⟨λ_=>?_,λh=>by simp at h;omega⟩;refine ak (wU v k _) rfl ?_;simp only[ab,e,VV,seval];have f:(KR v k).map cG++[[.I (mB v k)]]=(KR v (k+1)).map cG:=by rw[HW];simp[cG]
 rw[f];refine⟨by simp[maxLen];omega,?_⟩;refine d _ (bL ?_ (ih (k+1) (g+1) (by omega) c));repeat' constructor
def Xd:∀(m i g:Nat),i+m=8 ->(∀g,((fj 3 (fh (.own (X J) g) (fj 27 fo))) λl=>K (.exit 0) ⟨l,J++[.row 3 1 8 g Z ((KR v (Q7 v 8)).map cG)]⟩)) ->gF (X J) A Mf K (m+1) ⟨(.sl 1 (v.map cG)::uu 2 (.own (X J) g::.I i::uu 26 [])),J++[.row 3 1 8 g Z ((KR v (Q7 v i)).map cG)]⟩:=by
 intro m;induction m with
 |zero =>
  intro i g c a;have c:i=8:=by omega
  subst c;refine aD λR d=>?_;simp only[Mf,VV,seval];exact⟨nofun,λ_=>a g ..⟩
 |succ m ih =>
 intro i g c a;have b:IntKind.i64.wrap ((i:Int)+1)=((i+1:Nat):Int):=by rw[IntWalk.i64_in _ (by omega)];omega
 have n:=aar v i;refine aD λR d=>?_;simp only[Mf,b,VV,seval];refine⟨λ_=>?_,λh=>by simp at h;omega⟩;refine ak (wU v i _) rfl ?_;simp only[b,VV,seval];refine⟨λh=>?_,λh=>?_⟩
 .have h:0<mB v i:=by simpa using h
  have e:Q7 v (i+1)=i+1:=by simp only[Q7,aO h]
  refine cD.bL ?_ (i - Q7 v i+1) (Xe v i (by omega) (i - Q7 v i) (Q7 v i) g (by omega) ?_);.repeat' constructor
  intro j;simp only[JE];intros;simp only[VV,seval];refine ak (wU v i _) rfl ?_;have k:X (KR v i)=i:=by simp[KR]
  simp only[ab,k,b,VV,seval];have f:(KR v i).map cG++[[.I (mB v i)]]=(KR v (Q7 v (i+1))).map cG:=by rw[e,HW];simp[cG]
  rw[f];refine⟨by simp[maxLen];omega,?_⟩;refine d _ (bL ?_ (ih (i+1) (j+1) (by omega) a));repeat' constructor
 have h:¬0<mB v i:=by simpa using h
 have e:Q7 v (i+1)=Q7 v i:=by simp only[Q7,ao h]
 rw[<- e];refine d _ (bL ?_ (ih (i+1) g (by omega) a));repeat' constructor
def FO:bh A 155 [.sl 1 (v.map cG)] U (.sl 1 ((jf v).map cG)):=by
 refine aT func155 anD.2 λa b=>an ?_;rw[VZ];simp only[anD,SS,seval];simp only[ab,VV,seval];refine cD.wk ((Wk.jP (k:=3) tIr rfl).trans (Wk.fG ?_)) (cD.mM 9 (Xd v 8 0 0 rfl ?_));.simp only[jv,VV,seval];repeat' constructor
 intro g;simp only[JE];intros;simp only[VV,seval];refine fB 0 a rfl rfl ?_ ?_;.simp[fz,jR,iY,xa]
 simp[fz,jR,Pm.cM]
def afc(b:bH)(i:X v<2^63)(n:X v=X b):∀(d c a f:bH),v=a++d->b=f++c->X a=X f ->(d=c->((fj 26 fo) λl=>K (.exit 0) ⟨l,J⟩))->(d≠c->((fj 4 (fh (.b Z) (fj 21 fo))) λl=>K .ret ⟨l,J⟩)) ->gF T A Mx K (X d+1) ⟨(.sl 1 (v.map cG)::.sl 1 (b.map cG)::uu 10 (.I (X v)::.I (X a)::uu 12 [])),J⟩:=by
 intro d;induction d with
 |nil =>
  intro c a f g j o m k;have:c=[]:=by subst g;subst j;simp at n;exact bQ (by omega)
  subst this;have g:=dH g;subst g;refine aD λR q=>?_;simp only[Mx,VV,seval];exact⟨λh=>by simp at h,λ_=>m rfl ..⟩
 |cons x d ih =>
 intro c a f g j o m k;cases c with
 |nil=>subst g;subst j;simp at n;omega
 |cons y c =>
 subst g;subst j;have r:gi (List.map cG (f++y::c)) (X a) 0=some (.I y):=by rw[o,oE];rfl
 have s:=eE a x (by simp at i;omega);refine aD λR q=>?_;have t:gi (List.map cG (a++x::d)) (X a) 0=some (.I x):=by rw[oE];rfl
 simp only[Mx,al,t,r,VV,seval];have u:(0:Int)<=X a/\(X a:Int)<X (List.map cG (a++x::d)):=by simp;omega
 have p:(0:Int)<=X a/\(X a:Int)<X (List.map cG (f++y::c)):=by simp at n |-;omega
 refine⟨λ_=>⟨u,p,λh=>?_,λh=>?_⟩,λh=>by simp at h<;>omega⟩
 .have h:¬x=y:=by simpa using h
  exact k (by simp[h]) ..
 have h:x=y:=by simpa using h
 subst h;refine q _ (bL ?_ (ih c (a++[x]) (f++[x]) (by simp) (by simp) (by simp[o]) (λe=>m (by rw[e])) (λe=>k (by simpa using e))));rw[s];repeat' constructor
def za(b:bH)(J:ai):bh A 110 [.sl 1 (v.map cG),.sl 1 (b.map cG)] J (.b (v==b)):=by
 refine aT func110 aof.2 λf d=>an ?_;have a:=oI (d 0 _ rfl).1;rw[ab]at a;simp only[aof,SS,seval];simp only[ab,VV,seval];refine⟨λh=>?_,λh=>?_⟩
 .refine bt rfl ⟨?_,rfl⟩;have:v≠b:=λe=>by subst e;simp at h
  simp[Pm.cM,this]
 have c:X v=X b:=by simp at h;omega
 refine cD.bL ?_ (X v+1) (afc v b a c v b [] [] rfl rfl rfl (λh=>?_) (λh=>?_));.repeat' constructor
 .simp only[JE];intros;simp only[VV,seval];exact bt rfl ⟨by simp[Pm.cM,h],rfl⟩
 simp only[JE];intros;exact bt rfl ⟨by simp[Pm.cM,h],rfl⟩
def ae9(l:bH)(f:X l<2^63):∀(a b:bH),l=b++a ->(a.any (λT=>decide (128<T))=Z->((fj 1 (fh (q) (fj 84 fo))) λj=>K (.exit 0) ⟨j,J⟩))->(a.any (λT=>decide (128<T))=G->((fj 1 (fh (q) (fh (.I 1) (fj 83 fo)))) λj=>K .ret ⟨j,J⟩)) ->gF T A Ms K (X a+1) ⟨(uu 1 (q::uu 29 (.sl 1 (l.map cG)::.I (X l)::.I (X b)::uu 52 []))),J⟩:=by
 intro a;induction a with
 |nil =>intro b d i g;have d:=dH d;subst d;refine aD λR k=>?_;simp only[Ms,VV,seval];exact⟨λh=>by simp at h,λ_=>i rfl ..⟩
 |cons c a ih =>
 intro b d i g;subst d;refine aD λR k=>?_;simp only[Ms,cG,VV,seval];refine⟨λ_=>⟨by simp;omega,λh=>?_,λh=>?_⟩,λh=>by simp at h<;>omega⟩
 .have h:128<c:=by simpa using h
  exact g (by simp[h]) ..
 have h:¬128<c:=by simpa using h
 have e:(c::a).any (λT=>decide (128<T))=a.any (λT=>decide (128<T)):=by simp[h]
 rw[e]at i g;refine k _ (bL ?_ (ih (b++[c]) (by simp) i g));rw[cT (by simp at f;omega)];simp only[ae,ah,aj];repeat' constructor
def ml(k:Q.axZ)(J:ai):bh A 120 [.agg Q.axV] J (.I (eO Q)):=by
 refine aT func120 an7.2 λc u=>an ?_;have t:=k.ax5;simp only[an7,SS,seval];simp only[bf.axV,cz.axV,En.axV,VV,seval];refine ak (O5 Q.aZ _) rfl ?_;simp only[VV,seval];refine⟨λh=>?_,λh=>?_⟩
 .have h:jO Q.aZ=false:=by cases g:jO Q.aZ with|false=>rfl|true=>rw[g]at h;simp at h
  refine aS c (by simp only[RS,seval];rfl) (by simp[LW]) ⟨?_,rfl⟩;simp only[eO,h,aR];rfl
 have m:¬jO Q.aZ=false:=by intro g;rw[g]at h;simp at h
 have p:eO Q=if(Q.axW≠1/\Q.axW≠2)\/jf Q.ax5≠Q.ax5 then 1 else
   if Q.ax5.any (λn=>decide (128<n))then 1 else
   if mB Q.ax5 Q.aZ.bR≠Q.aZ.ax0 - 1 then 11 else
   if Q.axW=2/\ny Q.axY=false then 1 else cY (ayk Q):=by simp only[eO,ao m]
 have q:1<=Q.aZ.ax0/\Q.aZ.ax0<=128:=by
  have:jO Q.aZ=G:=by simpa using m
  simp only[jO,bz]at this;omega
 rw[p];have s:(bif (Q.axW != 1)then(Q.axW != 2)else false)=decide (Q.axW≠1/\Q.axW≠2):=by rw[ei];by_cases b:Q.axW=1<;>by_cases a:Q.axW=2<;>simp[b,a]
 refine cm (by simp only[VV,seval]<;>rfl) (λ_=>FO Q.ax5 _) rfl ?_;simp only[VV,seval];refine cm (by simp only[VV,seval]<;>rfl) (λ_=>za (jf Q.ax5) Q.ax5 _) rfl ?_;simp only[VV,seval];have f:Q.ax5.length<2^63:=by omega
 refine⟨λh=>?_,λh=>cD.bL ?_ (Q.ax5.length+1) (ae9 (.ptr (X J) 0) Q.ax5 f Q.ax5 [] rfl (λl=>?_) (λl=>?_))⟩
 .have h:(Q.axW≠1/\Q.axW≠2)\/jf Q.ax5≠Q.ax5:=by simpa[jf]using h
  refine aS c (by simp only[RS,seval];rfl) (by simp[LW]) ⟨?_,rfl⟩;rw[aO h];rfl
 .simp only[ab,aj,VV,seval];repeat' constructor
 .have h:¬((Q.axW≠1/\Q.axW≠2)\/jf Q.ax5≠Q.ax5):=by
   intro a;have:(Q.axW != 1&&Q.axW != 2||!jf Q.ax5==Q.ax5)=G:=by simpa using a
   rw[h]at this;simp at this
  have o:=h;rw[ao h,ao (show ¬(Q.ax5.any λn=>decide (128<n))=G by rw[l];simp)];simp only[JE];intros;simp only[VV,seval];refine ak (wU Q.ax5 Q.aZ.bR _) rfl ?_;simp only[VV,seval];have r:IntKind.i64.wrap (Q.aZ.ax0 - 1)=Q.aZ.ax0 - 1:=IntWalk.i64_in _ (by omega);rw[r];refine⟨λh=>?_,λh=>?_⟩
  .have h:mB Q.ax5 Q.aZ.bR≠Q.aZ.ax0 - 1:=by simpa using h
   refine aS c (by simp only[RS,seval];rfl) (by simp[LW]) ⟨?_,rfl⟩;rw[aO h];rfl
  have h:¬mB Q.ax5 Q.aZ.bR≠Q.aZ.ax0 - 1:=by simpa using h
  rw[ao h];refine⟨λb=>?_,λb=>?_⟩
  .have b:Q.axW=1:=by simpa using b
   have j:ayk Q=Q.axY:=by simp only[ayk,b];rfl
   rw[ao (by rw[b];simp),j];refine ak (kq Q.axY k.axY _) rfl ?_;simp only[VV,seval];exact gL c (by rfl) (by simp[LW])
  have b:Q.axW=2:=by
   simp only[xQ]at o;have b:¬Q.axW=1:=by simpa using b
   have:=o.1;omega
  have j:ayk Q=aye Q.axY:=by simp only[ayk,b];rfl
  have i:(decide ((0:Int)<(Q.axY.ax4.length:Int))||!Q.axY.dL==[]||!Q.axY.dh==[]||Q.axY.ayd != 0||Q.axY.ayf != 0)=!ny Q.axY:=by
   have e:decide ((0:Int)<(Q.axY.ax4.length:Int))=!(Q.axY.ax4.length==0):=by rw[ei];simp only[bz,dt,fW];omega
   rw[e];simp only[ny,bne];cases Q.axY.ax4.length==0<;>cases Q.axY.dL==[]<;>cases Q.axY.dh==[]<;>cases Q.axY.ayd==0<;>cases Q.axY.ayf==0<;>rfl
  simp only[ab,VV,seval];rw[i];refine⟨λa=>?_,λa=>?_⟩
  .have a:ny Q.axY=false:=by rw[dt]at a;exact a
   refine aS c (by simp only[RS,seval];rfl) (by simp[LW]) ⟨?_,rfl⟩;rw[aO ⟨b,a⟩];rfl
  have a:ny Q.axY=G:=by rw[eI]at a;exact a
  rw[ao (by rw[a];simp)];refine ak (sX Q.axY _) rfl ?_;simp only[VV,seval];have d:=vk k;rw[j]at d |-;refine ak (kq (aye Q.axY) d _) rfl ?_;simp only[VV,seval];exact gL c (by rfl) (by simp[LW])
 have h:¬((Q.axW≠1/\Q.axW≠2)\/jf Q.ax5≠Q.ax5):=by
  intro a;have:(Q.axW != 1&&Q.axW != 2||!jf Q.ax5==Q.ax5)=G:=by simpa using a
  rw[h]at this;simp at this
 rw[ao h,aO l];simp only[JE];intros;simp only[VV,seval];exact gL c (by rfl) (by simp[LW])
def WV(h:eO o=0):cY (ayk o)=0:=by
 simp only[eO]at h;repeat' split at h
 all_goals first|(simp at h;done)|exact h
def QU(h:o.axZ):(aye o.axY).axZ :=⟨h.axY.ax3,h.axY.kz,h.axY.ax3,h.axY.kz,h.axY.cJ,h.axY.next,λx a=>h.axY.ids x (by simp only[aye,bJ]at a |-;rcases a with a|a<;>exact .inl a)⟩
def wT(b:Q.axZ)(J:ai):bh A 68 [.agg Q.axV] J (.s (cF Q)):=by
 refine aT func68 p68.2 λa c=>an ?_;simp only[p68,SS,seval];simp only[bf.axV,cz.axV,En.axV,VV,seval];refine ak (ml Q b _) rfl ?_;simp only[VV,seval];refine⟨λh=>?_,λh=>?_⟩
 .have h:eO Q≠0:=by simpa using h
  refine aS a (by simp only[RS,seval];rfl) (by simp[LW]) ⟨?_,rfl⟩;simp only[cF,h,gj,eP,aR];rfl
 have h:eO Q=0:=by simpa using h
 refine ak (sX Q.axY _) rfl ?_;simp only[VV,seval];refine ak (rO (aye Q.axY) (QU b) _) rfl ?_;simp only[VV,seval];refine aS a (by simp only[RS,seval];rfl) (by simp[LW]) ⟨?_,rfl⟩;rw[PB h (WV h)];rfl
open Go.RowKit
def Cb:Bt.np n=qV n 4:=by
 have a:∀m:Int,DQ m=jT m:=λm=>by
  apply oY.1;have c:=KM m;have b:((jT m).toNat:Int)=m % 256:=by simp only[jT,oG];omega
  omega
 have f:∀k:Nat,n.fdiv (2^k)=n / 2^k:=λk=>ic _ (akq (by decide));simp only[Bt.np,qV,a,f];simp
def Y2(j:a<4294967296):(IntKind.i64.wrap (IntKind.i64.wrap (((BitVec.ofInt IntKind.i64.bits (a:Int) ^^^ BitVec.ofInt IntKind.i64.bits (IntKind.i64.wrap (c.toNat:Int))).toNat:Nat):Int)*16777619)).tmod 4294967296=od a c:=by
 have l:=c.toNat_lt;have d:a ^^^ c.toNat<2^32:=Nat.xor_lt_two_pow (by omega) (by omega);have b:∀k:Nat,k<2^62->IntKind.i64.wrap (k:Int)=k:=λk i=>IntWalk.i64_in _ (by omega);have e:(BitVec.ofInt IntKind.i64.bits (a:Int) ^^^ BitVec.ofInt IntKind.i64.bits (c.toNat:Int)).toNat=a ^^^ c.toNat:=by show(BitVec.ofInt 64 (a:Int) ^^^ BitVec.ofInt 64 (c.toNat:Int)).toNat=a ^^^ c.toNat;rw[kn,kn,BitVec.toNat_xor,lC,lC,iM (by omega),iM (by omega)]
 have h:(BitVec.ofInt IntKind.u32.bits (a:Int) ^^^ BitVec.ofInt IntKind.u32.bits (c.toNat:Int)).toNat=a ^^^ c.toNat:=by show(BitVec.ofInt 32 (a:Int) ^^^ BitVec.ofInt 32 (c.toNat:Int)).toNat=a ^^^ c.toNat;rw[kn,kn,BitVec.toNat_xor,lC,lC,iM (by omega),iM (by omega)]
 have f:IntKind.u32.wrap (c.toNat:Int)=c.toNat:=by rw[qu];omega
 rw[b c.toNat (by omega),e,b _ (by omega),od,f,h];generalize a ^^^ c.toNat=m at d;have g:IntKind.i64.wrap ((m:Int)*16777619)=((m*16777619:Nat):Int):=by rw[IntWalk.i64_in _ (by omega)];omega
 rw[g,qu,qu,akp (by omega)];omega
def aeP(d:X s<2^62):∀(a b:aL) (h:Nat),s=b++a->h<4294967296 ->((fj 3 (fh (.I (lH h a)) (fj 16 fo))) λo=>K (.exit 0) ⟨o,J⟩) ->gF T A L9 K (X a+1) ⟨(uu 3 (.I h::uu 2 (.sl 1 (aC s)::.I (X s)::.I (X b)::uu 11 []))),J⟩:=by
 intro a;induction a with
 |nil =>intro b h c f e;have c:=dH c;subst c;refine aD λR j=>?_;simp only[L9,VV,seval];exact⟨λh=>by simp at h,λ_=>e ..⟩
 |cons x a ih =>
 intro b h c f e;subst c;have n:gi (aC (b++x::a)) (X b) 0=some (.i .u8 x.toNat):=by simp[aC,gi]
 have l:=eE b x (by simp at d;omega);have p:0<=od h x/\od h x<4294967296:=by simp only[od,qu];omega
 obtain⟨q,g⟩:∃q:Nat,od h x=q:=⟨(od h x).toNat,by omega⟩;have m:lH h (x::a)=lH q a:=by simp only[lH,bT,g]
 rw[m]at e;have k:=Y2 h x f;rw[g]at k;refine aD λR j=>?_;simp only[L9,bC,n,l,k,VV,Int.reduceBEq,Int.reduceBNe,Nat.reduceAdd,Nat.reduceSub,Nat.reduceLeDiff,Nat.reduceEqDiff,Int.reduceToNat,reduceIte,reduceCtorEq];refine⟨λ_=>⟨⟨by omega,by simp;omega⟩,by decide,?_⟩,λh=>by simp at h<;>omega⟩;refine j _ (bL ?_ (ih (b++[x]) q (by simp) (by omega) e));repeat' constructor
def AM(a:X s<2^62)(J:ai):bh A 177 [.sl 1 (aC s)] J (.I (lH tF s)):=by
 refine aT func177 ank.2 λb c=>an ?_;simp only[ank,SS,seval];simp only[bC,VV,seval];refine cD.bL (fr':=(uu 3 (.I (2166136261:Nat)::uu 2 (.sl 1 (aC s)::.I (X s)::.I (X ([]:aL):Nat)::uu 11 [])))) ?_ (X s+1) (aeP s a s [] 2166136261 rfl (by decide) ?_);.repeat' constructor
 simp only[JE];intros;simp only[VV,seval];exact bt (by simp only[RS,seval];rfl) ⟨rfl,rfl⟩
def vH(b:aL):aC s++aC b=aC (s++b):=by simp[aC]
def FE(log p:aL)(t:X p<=60000)(v:X log<=4000000)(J:ai):bh A 122 [.sl 1 (aC log),.sl 1 (aC p)] J (.iS [.sl 1 (aC (log++pd p)),.I 0]):=by
 refine aT func122 an5.2 λi u=>an ?_;have l:decide ((65536:Int)<(X p:Int))=Z:=by simp;omega
 have s:IntKind.i64.wrap ((X log:Int)+8)=((X log+8:Nat):Int):=by rw[IntWalk.i64_in _ (by omega)];omega
 have m:IntKind.i64.wrap (((X log+8:Nat):Int)+(X p:Int))=((X log+8+X p:Nat):Int):=by rw[IntWalk.i64_in _ (by omega)];omega
 have o:decide ((4194304:Int)<((X log+8+X p:Nat):Int))=Z:=by simp;omega
 have f:pd p=qV (X p:Int) 4++(qV (lH tF (qV (X p:Int) 4++p)) 4++p):=by rw[AH p (by omega),<- Cb,<- Cb];simp only[lH,tX]
 have n4:∀n:Int,X (qV n 4)=4:=λn=>by rw[<- Cb];rfl
 simp only[an5,SS,seval];simp only[bC,l,s,m,o,VV,seval];refine ak (nD (X p:Int) 4 (by decide) _) rfl ?_;have g:(aC (qV (X p:Int) 4)).isEmpty=Z:=by simp[qV,aC]
 simp only[g,aw,vH,bC,ae,n4,maxLen,aI,bo,VV,seval];refine⟨⟨by omega,by omega⟩,?_⟩;refine qq (X J) (by simp only[iF];rfl) (AM (qV (X p:Int) 4++p) (by rw[ae,n4];omega) _) (by simp[fz,jR,ev]) ?_;simp only[VV,seval];refine ak (nD (lH tF (qV (X p:Int) 4++p)) 4 (by decide) _) rfl ?_;rw[f];generalize q:qV (lH tF (qV (X p:Int) 4++p)) 4=c;have d:X c=4:=by rw[<- q];exact n4 _
 have b:=n4 (X p:Int);generalize qV (X p:Int) 4=h at *;by_cases j:log=[]
 .subst j;have k:aC []=[]:=rfl;simp only[g,k,ju,aR,aw,vH,bC,ae,b,d,maxLen,aI,bo,VV,seval];refine⟨⟨by omega,by omega⟩,fB 1 i (by simp only[RS,seval];rfl) rfl ?_ ?_⟩;.simp only[az,aq,Pm.fz,jR,cw,aR,LW]
  simp only[az,aq,Pm.fz,jR,cw,aR];exact⟨rfl,trivial⟩
 have e:(aC log).isEmpty=Z:=by cases log with|nil=>exact absurd rfl j|cons a r=>rfl
 simp only[g,e,aw,vH,bC,ae,b,d,maxLen,aI,bo,VV,seval];refine⟨⟨by omega,by omega⟩,⟨by omega,by omega⟩,⟨by omega,by omega⟩,⟨by omega,by omega⟩,fB 1 i (by simp only[RS,seval];rfl) rfl ?_ ?_⟩;.simp only[az,aq,Pm.fz,jR,cw,aR,LW]
 simp only[az,aq,Pm.fz,jR,cw,aR];exact⟨rfl,trivial⟩
def aiy(i:xP m)(C:∀e∈m,e.axZ):∀(c b:List En) (a:aL),m=b++c->(b≠[]->∀y∈c,iR a (dw y)<0) ->(((fj 32 fo) λu=>K (.exit 0) ⟨u,J⟩)) ->gF (X J) prog Uv K (X c+1) ⟨(.sl 8 (m.map En.axV)::uu 2 (.s a::uu 6 (.I (X m)::.I (X b)::uu 20 []))),J⟩:=by
 intro c;induction c with
 |nil =>intro b a d n g;have d:=dH d;subst d;refine aD λR o=>?_;simp only[Uv,VV,seval];exact⟨λh=>by simp at h,λ_=>g ..⟩
 |cons x c ih =>
 intro b a d n g;have M:=i.len;have H:=ko d;have j:=eE b x (by omega);have p:decide ((X b:Int)<(X m:Int))=G:=by simp;omega
 have z:(m.map En.axV).getD (X b) []=x.axV:=by rw[d];simp[ax]
 have l:x∈m:=by rw[d];simp
 have v:=i.ok x l;refine aD λR o=>?_;simp only[Uv,p,j,z,al,ab,V.pure,VV,seval];have r:x.axV.take 8=x.axV:=by simp[En.axV]
 have t:fZ x=dw x:=by simp[fZ,v]
 have L:dw x≠[]:=by simp[dw]
 refine⟨⟨by omega,by omega⟩,by simp[En.axV],ak (rO x (C x l) _) (by simp only[r,VV,seval]) ?_⟩;have F:(dw x==[]||decide ((0:Int)<(X b:Int))&&(Op.bytesLess (dw x) a||dw x==a))=Z:=by
  have D:(dw x==[])=Z:=by simpa using L
  rw[D,mz];by_cases k:b=[];.simp[k]
  have q:=n k x (by simp);have N:=gw.mA (dw x) a;have w:Op.bytesLess (dw x) a=Z:=by rw[jD];simp;omega
  have E:(dw x==a)=Z:=by simp only[fW];intro h;rw[<- h,gw.self]at q;omega
  rw[w,E];simp
 simp only[t,F,j,VV,seval];have f:=i.asc;rw[d]at f;simp only[gl,az,KA,gG,cX]at f;refine o _ (bL (fr':=(.sl 8 (m.map En.axV)::uu 2 (.s (dw x)::uu 6 (.I (X m)::.I (X (b++[x]))::uu 20 [])))) (by repeat' constructor) (ih (b++[x]) (dw x) (by rw[d];simp) (λ_ y B=>f.2.1.1 (dw y) (List.mem_map_of_mem B)) g))
def RY(a:xP m)(d:∀e∈m,e.axZ)(J:ai):bh A 75 [.sl 8 (m.map En.axV)] J (.b G):=by
 refine aT func75 p75.2 λf g=>an ?_;have i:=a.len;have c:decide ((1024:Int)<(X m:Int))=Z:=by simp;omega
 simp only[p75,SS,seval];simp only[ab,c,VV,seval];refine cD.bL (fr':=(.sl 8 (m.map En.axV)::uu 2 (.s []::uu 6 (.I (X m)::.I (X ([]:List En):Nat)::uu 20 [])))) ?_ (X m+1) (aiy m a d m [] [] rfl (λh=>(h rfl).elim) ?_);.repeat' constructor
 simp only[JE];intros;simp only[VV,seval];exact bt (by simp only[RS,seval];rfl) ⟨rfl,rfl⟩
def below:Nat:=X (m.takeWhile λe=>Op.bytesLess (dw e) s)
def aix(n:xP m)(y:∀e∈m,e.axZ)(k:aL):∀(b a:List En),m=a++b ->(((fj 5 (fh (.I (X a+below b k:Nat)) (fj 16 fo))) λr=>K (.exit 0) ⟨r,J⟩)) ->gF (X J) A Uu K (X b+1) ⟨(.sl 8 (m.map En.axV)::.s k::uu 3 (.I (X a)::uu 16 [])),J⟩:=by
 intro b;induction b with
 |nil =>
  intro a d f;have d:=dH d;subst d;refine aD λR o=>?_;simp only[below,List.takeWhile_nil,aj,cg]at f;have g:decide ((X m:Int)<(X m:Int))=Z:=by simp
  simp only[Uu,ab,g,VV,seval];refine⟨nofun,.u,nofun,?_⟩;refine cm (c:=Z) (v:=.s []) (by simp only[VV,seval]<;>rfl) (nofun) rfl ?_;simp only[VV,seval];exact f ..
 |cons x b ih =>
 intro a d f;have B:=n.len;have z:=ko d;have j:=eE a x (by omega);have g:decide ((X a:Int)<(X m:Int))=G:=by simp;omega
 have w:(m.map En.axV).getD (X a) []=x.axV:=by rw[d];simp[ax]
 have l:x∈m:=by rw[d];simp
 have t:=n.ok x l;have p:x.axV.take 8=x.axV:=by simp[En.axV]
 have q:fZ x=dw x:=by simp[fZ,t]
 refine aD λR o=>?_;simp only[Uu,g,j,w,p,al,ab,V.pure,VV,seval];refine⟨⟨by omega,by omega⟩,.agg x.axV,⟨rfl,by simp[En.axV]⟩,?_⟩;refine cm (c:=G) (by simp only[VV,seval]<;>rfl) (λ_=>rO x (y x l) _) rfl ?_;simp only[q,j,VV,seval];refine⟨λh=>o _ (bL (fr':=(.sl 8 (m.map En.axV)::.s k::uu 3 (.I (X (a++[x]))::uu 16 []))) (by repeat' constructor) (ih (a++[x]) (by rw[d];simp) ?_)),λh=>?_⟩
 .have i:X (a++[x])+below b k=X a+below (x::b) k:=by simp only[below,eG,h,aR,ah,ae,aj];omega
  rw[i];exact f
 have i:X a+below (x::b) k=X a:=by simp only[below,eG,h,aI,bo,aj,cg]
 rw[i]at f;exact f ..
def R8(a:xP m)(b:∀e∈m,e.axZ)(k:aL)(J:ai):bh A 76 [.sl 8 (m.map En.axV),.s k] J (.I (below m k:Nat)):=by
 refine aT func76 p76.2 λc d=>an ?_;simp only[p76,SS,seval];simp only[VV,seval];refine cD.bL (fr':=(.sl 8 (m.map En.axV)::.s k::uu 3 (.I (X ([]:List En):Nat)::uu 16 []))) ?_ (X m+1) (aix m a b k m [] rfl ?_);.repeat' constructor
 simp only[JE];intros;simp only[aj,aP,VV,seval];exact bt (by simp only[RS,seval];rfl) ⟨rfl,rfl⟩
def acK:below m s<=X m:=H6 (H4 _)
def DR(k:aL):∀{m:List En},KA (m.map dw)->below m k=lS k (m.map dw)
 |[],_=>rfl
 |x::r,h=>by
  simp only[az,KA,cX]at h;have ih:=DR k (m:=r) h.2;cases a:Op.bytesLess (dw x) k with
  |true =>
   have b:decide (dw x<k)=G:=by rw[jD]at a;simpa[tc]using a
   simp only[below,eG,a,aR,ah,lS,az,ac6,b]at ih |-;rw[ih]
  |false =>
  have b:¬iR (dw x) k<0:=by rw[jD]at a;simpa using a
  simp only[below,eG,a,aI,bo,aj];refine(yE.2 λy c=>?_).symm;simp only[bz,tc];rcases bw.1 c with rfl|c;.exact b
  have e:=h.1 y c;intro d;exact b (lj e d)
def JF(b:xP m)(g:∀e∈m,e.axZ)(k:aL)(J:ai):bh A 32 [.sl 8 (m.map En.axV),.s k] J (.I (find m k)):=by
 refine aT func32 p32.2 λr t=>an ?_;have q:=acK m k;have w:=b.len;have f:=DR k b.asc;have j:find m k=if below m k=X m\/(m.map dw).getD (below m k) []≠k then -1 else(below m k:Int):=by simp only[find,b.keys,f,ab,sM,nQ]
 rw[j];simp only[p32,SS,seval];simp only[VV,seval];refine ak (RY m b g _) rfl ?_;simp only[VV,seval];refine ak (R8 m b g k _) rfl ?_;by_cases h:below m k<X m
 .have i:=dQ h;have l:(m.map En.axV).getD (below m k) []=m[below m k].axV:=by simp[ax,h]
  have d:decide ((below m k:Int)<(X m:Int))=G:=by simp;omega
  have n:m[below m k].axV.take 8=m[below m k].axV:=by simp[En.axV]
  have p:fZ m[below m k]=dw m[below m k]:=by simp[fZ,b.ok _ i]
  have o:(m.map dw).getD (below m k) []=dw m[below m k]:=by simp[ax,h]
  simp only[ab,d,l,n,al,VV,seval];refine⟨⟨by omega,by omega⟩,.agg m[below m k].axV,⟨rfl,by simp[En.axV]⟩,?_⟩;refine cm (c:=G) (by simp only[VV,seval]<;>rfl) (λ_=>rO m[below m k] (g _ i) _) rfl ?_;simp only[p,o,VV,seval];refine⟨λa=>?_,λa=>?_⟩
  .have a:dw m[below m k]=k:=by simpa using a
   rw[ao (by rw[a];simp;omega)];exact bt (by simp only[RS,seval];rfl) ⟨rfl,rfl⟩
  have a:dw m[below m k]≠k:=by simpa using a
  rw[aO (.inr a)];exact bt (by simp only[RS,seval];rfl) ⟨rfl,rfl⟩
 have d:decide ((below m k:Int)<(X m:Int))=Z:=by simp;omega
 rw[aO (.inl (by omega))];simp only[ab,d,VV,seval];refine⟨nofun,.u,nofun,?_⟩;refine cm (c:=Z) (v:=.s []) (by simp only[VV,seval]<;>rfl) (nofun) rfl ?_;simp only[VV,seval];exact bt (by simp only[RS,seval];rfl) ⟨rfl,rfl⟩

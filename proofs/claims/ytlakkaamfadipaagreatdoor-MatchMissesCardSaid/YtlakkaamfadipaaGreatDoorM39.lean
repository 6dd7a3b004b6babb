/- A part of a proof; the claim's last text says of what. -/
import Derived.Test.YtlakkaamfadipaaGreatDoorM38
set_option linter.all false
open Option renaming some->N,none->Y
open List renaming length->F

set_option maxRecDepth 4000
set_option maxHeartbeats 1000000
namespace Go.Proofs.Tryz
open Go Go.Pm Go.Bt
variable(T:Ob){l:List It}{L:List LE}{m:Nat}
def RU{J:ag}{K:bj}(M3 FB:Ob)(H:List (TK×(Nat×Nat)))(f3:TK->df)(id:Int)(O:List Gr)(B:F O<2^30)(j5:Nat):∀(c pre:List Gr) (a:ag) (w:Nat) (G:List (GK×(Nat×Nat))) (f:GK->df),O=pre++c->Bt.iI 190 (F J+5) a G f->Bt.iI 190 (F J+5) a H f3->C3 G H->(∀k,F (f k)<2^30)->(∀g∈c,f g.1≠[])->jM c ->(∀p n t,Bt.iI 190 (F J+5) p t (kq f id c)->Bt.iI 190 (F J+5) p H f3->C3 t H->mA a p->((fh (.ptr (F J+3) 0) (fh (.I id) (fj 3 (fh (.ptr j5 0) (fj 93 fo))))) λZZ=>K (.exit 0) ⟨ZZ,J++(T::.map 184 n (emap pt mW t)::M3::vI (F J)::FB::p)⟩)) ->fS m prog MF K (F c+1) ⟨(.ptr (F J+3) 0::.I id::uu 3 (.ptr j5 0::uu 22 (.sl 3 (O.map qM)::.I (F O)::.I (F pre)::uu 68 []))),J++(T::.map 184 w (emap pt mW G)::M3::vI (F J)::FB::a)⟩:=by
 intro c;induction c with
 |nil =>intro pre a w G f C D hH M hf gn hK P;have C:=db C;subst C;refine aF λR hR=>?_;simp only[MF,VV,seval];exact⟨λh=>by simp at h,λ_=>P a w G D hH M (mA.refl a) ..⟩
 |cons g c ih =>
 intro pre a w G f C D hH M hf gn hK P;subst C;have ac:F pre+1+F c<2^30:=by simp at B;omega
 have hw:=dY pre g (by omega);refine aF λR hR=>?_;simp only[MF,qM,vI,VV,seval];refine⟨λ_=>⟨by simp;omega,?_⟩,λh=>by simp at h;omega⟩;rcases qS (ve:=mW) yz G g.1 with⟨y,E,S,u,g5⟩|⟨i,b,y,E,S,u⟩;.exact absurd (D.zU _ y) (gn g (ph ..))
 simp only[pt]at E S u;obtain⟨r,g0⟩:=b;obtain⟨j,rfl,W⟩:=D.row _ _ _ y;have Q:=(ab.1 W).1;have ej:F J+5+j=F J+(j+5):=by omega
 simp only[mW,ej]at E S;simp only[c8,E,S,u,dB,V.jG,V.cell,VV,seval];have S4:∀l,(a++l)[j]?=N (zQ g0 (f g.1)):=λl=>by rw[aj Q];exact W
 have S0:∀l o,(a++l).set j o=a.set j o++l:=λl o=>eT _ _ Q;have Ur:∀o l k,(a.set j o++l)[F a+k]?=l[k]?:=λo l k=>by rw[aD (by simp)];simp
 refine cB (AM (F J+(j+5)) g0 id (f g.1) (hf _) _ (by simp only[S4,VV,seval])) rfl λv S' hv=>?_;obtain⟨d,rfl,rfl⟩:=hv;simp only[S0,Ur,VV,seval];have u:=u (F J+5+j,d);have L:=D.cut y id d;have X:bZ g.1 (fZ G g.1 (F J+5+j,d))=N (F J+5+j,d):=by rw[gf,aK rfl]
 obtain⟨i2,q1,q2⟩:=wY (ve:=mW) yz g.1 _ 0 L.nodup _ X;have ad:∀l,(a.set j (zQ d (jg id (f g.1)))++l)[j]?=N (.row 190 2 16 d false ((jg id (f g.1)).map sq)):=λl=>by rw[aj (by rw[dI];exact Q)];exact aw Q
 have Wx:=hH.other (zQ d (jg id (f g.1))) (λk r d hk=>λe=>M _ _ _ _ _ _ y hk e.symm);have I9:mA a (a.set j (zQ d (jg id (f g.1)))):=mA.setRow W _;simp only[pt,mW,ej,bq]at u q1;have Z0:=M.add y d;simp only[ej]at L q2 Z0;simp only[E,u,q1,q2,ad,Ur,hw,dB,V.jG,V.cell,c8,ae,VV,seval];have U:=eu.1 hK;have z:∀k,F (uv f g.1 id k)<2^30:=λk=>by have:=hf k;have h2:F (jg id (f k))<=F (f k):=fQ _ _;unfold uv;split<;>omega
 have q:∀d∈c,uv f g.1 id d.1≠[]:=λx hx=>by have hn:x.1≠g.1:=λe=>U.1 (br.2 ⟨x,hx,e⟩);rw[uv,au hn];exact gn x (dw _ hx)
 refine⟨λh=>?_,λh=>?_⟩
 .have h0:jg id (f g.1)=[]:=by simpa using h
  have k:=ih (pre++[g]) _ (w+1) _ _ (by simp) ((L.del (k:=g.1) (by rw[uv,aK rfl,h0])).app [Ob.box 182 [V.s g.1.1,V.s g.1.2,V.i .i64 g.2],Ob.box 184 [V.s g.1.1,V.s g.1.2]]) (Wx.app _) (Z0.del g.1) z q U.2 (λp n t hp hh hd hg=>P p n t hp hh hd (I9.trans ((mA.app _ _).trans hg)));simp only[vI]at k;exact hR _ (aX (by repeat' constructor) k)
 have k:=ih (pre++[g]) _ w _ _ (by simp) (L.app [Ob.box 182 [V.s g.1.1,V.s g.1.2,V.i .i64 g.2],Ob.box 184 [V.s g.1.1,V.s g.1.2]]) (Wx.app _) Z0 z q U.2 (λp n t hp hh hd hg=>P p n t hp hh hd (I9.trans ((mA.app _ _).trans hg)));simp only[vI]at k;exact hR _ (aX (by repeat' constructor) k)

set_option maxRecDepth 4000
set_option maxHeartbeats 1000000
def RT{J:ag}{K:bj}(M2 FB:Ob)(H:List (GK×(Nat×Nat)))(f3:GK->df)(id:Int)(C:List (TK×Int))(hK:jM C)(u x:Nat)(t:TK->df)(Np:∀k,F (t k)<2^30)(a1:∀c∈C,t c.1≠[]):∀(a:Nat) (n:cy) (P:bP) (D:List (TK×Int)) (d:ag) (mc:Nat) (G:List (TK×(Nat×Nat))),F n<=a->n.Nodup->(∀p∈n,p<F C)->(D++n.map λi=>C.getD i ((0,[]),0)).Perm C ->Bt.iI 190 (F J+5) d G (kq t id D)->Bt.iI 190 (F J+5) d H f3->C3 G H->d[u]?=N (.map 150 3 (emap iv eZ C))->d[x]?=N (.iter false (F J+5+u) 3 (F (emap iv eZ C)) n P) ->(∀E z O D',D'.Perm C->Bt.iI 190 (F J+5) E O (kq t id D')->Bt.iI 190 (F J+5) E H f3->C3 O H->mA d E->((fh (.ptr (F J+3) 0) (fj 98 fo)) λZZ=>K (.exit 2) ⟨ZZ,J++(T::M2::.map 150 z (emap iv mW O)::vI (F J)::FB::E)⟩)) ->fS m prog ME K (a+1) ⟨(.ptr (F J+3) 0::.I id::uu 66 (.it (F J+(x+5))::uu 30 [])),J++(T::M2::.map 150 mc (emap iv mW G)::vI (F J)::FB::d)⟩:=by
 intro a;induction a with
 |zero =>
  intro n P D d mc G hl nB M hs W U hD S B h1;have mD:n=[]:=aL (by omega);subst mD;have ec:F J+5+u=F J+(u+5):=by omega
  rw[ec]at B;refine aF λR hR=>?_;simp only[ME,vI,S,B,VV,seval];exact h1 _ _ _ D (by simpa using hs) W U hD (mA.refl d) ..
 |succ a ih =>
 intro n P D d mc G hl nB M hs W U hD S B h1;have ec:F J+5+u=F J+(u+5):=by omega
 rw[ec]at B;have qW:=(ab.1 B).1;have gn:x≠u:=λe=>by subst e;rw[S]at B;simp at B
 have DD:∀o,(d.set x o)[x]?=N o:=λo=>aw qW;have Hd:∀o,(d.set x o)[u]?=N (.map 150 3 (emap iv eZ C)):=λo=>by rw[aN gn];exact S
 refine aF λR hR=>?_;simp only[ME,vI,S,B,DD,Hd,VV,seval];refine⟨λmD=>?_,λq L=>?_⟩;.subst mD;exact h1 _ _ _ D (by simpa using hs) W U hD (mA.refl d) ..
 have Ay:=M q L;have fG:=ug (ke:=iv) (ve:=eZ) C ((0,[]),0) Ay;have Wd:=nL nB L;have uq:=nh L;have y:∀{α:Type} [DecidableEq α] {G:List (α×(Nat×Nat))} {f:α->df},Bt.iI 190 (F J+5) d G f->∀k r g,bZ k G=N (r,g)->r≠F J+5+x:=λh k r g hk e=>by
  obtain⟨j,e1,e2⟩:=h.row k r g hk;have:j=x:=by omega
  subst this;rw[B]at e2;simp[je]at e2
 have ac:=λo=>W.other o (y W);have ap:=λo=>U.other o (y U);have C1:=λo=>mA.set B rfl o;have uM:((D++[C.getD q ((0,[]),0)])++(n.filter λi=>i != q).map λi=>C.getD i ((0,[]),0)).Perm C:=by refine List.Perm.trans ?_ hs;rw[aS];refine mC _ ?_;exact((Wd.map λi=>C.getD i ((0,[]),0)).symm)
 have pr:C.getD q ((0,[]),0)∈C:=by rw[aq,an Ay];exact cS Ay
 have aE:C.getD q ((0,[]),0)∈(n.map λi=>C.getD i ((0,[]),0)):=gr L;generalize be:C.getD q ((0,[]),0)=kc at fG uM pr aE;obtain⟨k,c⟩:=kc;have a3:k ∉ D.map (·.1):=by have h2:((D++n.map λi=>C.getD i ((0,[]),0)).map (·.1)).Nodup:=(hs.map _).nodup_iff.2 hK;rw[cF,fp]at h2;exact λh3=>h2.2.2 k h3 k (br.2 ⟨_,aE,rfl⟩) rfl
 have af:kq t id D k=t k:=by rw[xf,au a3]
 have aV:uv (kq t id D) k id=kq t id (D++[(k,c)]):=(LO t id D (k,c)).symm;have a4:F (kq t id D k)<2^30:=by rw[af];exact Np k
 have a0:=a1 _ pr;simp only[fG,eZ,iv,VV,seval];have rI:=DD (.iter false (F J+(u+5)) 3 (F (emap iv eZ C)) (n.filter λi=>i != q) (N q));have XR:=Hd (.iter false (F J+(u+5)) 3 (F (emap iv eZ C)) (n.filter λi=>i != q) (N q));have Ww:=ac (.iter false (F J+(u+5)) 3 (F (emap iv eZ C)) (n.filter λi=>i != q) (N q));have ZY:=ap (.iter false (F J+(u+5)) 3 (F (emap iv eZ C)) (n.filter λi=>i != q) (N q));have ZJ:=C1 (.iter false (F J+(u+5)) 3 (F (emap iv eZ C)) (n.filter λi=>i != q) (N q));generalize d.set x (.iter false (F J+(u+5)) 3 (F (emap iv eZ C)) (n.filter λi=>i != q) (N q))=T1 at rI XR Ww ZY ZJ |-;clear DD Hd ac ap C1 B S W U y;rcases qS (ve:=mW) u0 G k with⟨X,g2,g3,Q,g5⟩|⟨i,b,X,g2,g3,Q⟩;.exact absurd (af▸Ww.zU _ X) a0
 obtain⟨r,g0⟩:=b;obtain⟨j,rfl,hj⟩:=Ww.row _ _ _ X;have lz:=(ab.1 hj).1;have ej:F J+5+j=F J+(j+5):=by omega
 simp only[mW,iv,ej]at g2 g3;simp only[iv]at Q;simp only[c8,g2,g3,Q,dB,V.jG,V.cell,VV,seval];have S4:∀l,(T1++l)[j]?=N (zQ g0 (kq t id D k)):=λl=>by rw[aj lz];exact hj
 have S0:∀l o,(T1++l).set j o=T1.set j o++l:=λl o=>eT _ _ lz;have Ur:∀o l k,(T1.set j o++l)[F T1+k]?=l[k]?:=λo l k=>by rw[aD (by simp)];simp
 have am:∀o l,(T1.set j o++l)[F T1]?=l[0]?:=λo l=>Ur o l 0;refine cB (AM (F J+(j+5)) g0 id (kq t id D k) a4 _ (by simp only[S4,VV,seval])) rfl λv S' hv=>?_;obtain⟨w,rfl,rfl⟩:=hv;simp only[S0,Ur,am,VV,seval];have Q:=Q (F J+5+j,w);have Ut:=Ww.cut X id w;have a5:bZ k (fZ G k (F J+5+j,w))=N (F J+5+j,w):=by rw[gf,aK rfl]
 obtain⟨i2,q1,q2⟩:=wY (ve:=mW) u0 k _ 0 Ut.nodup _ a5;have a2:∀l,(T1.set j (zQ w (jg id (kq t id D k)))++l)[j]?=N (.row 190 2 16 w false ((jg id (kq t id D k)).map sq)):=λl=>by rw[aj (by rw[dI];exact lz)];exact aw lz
 have Wx:=ZY.other (zQ w (jg id (kq t id D k))) (λk r w hk=>λe=>hD _ _ _ _ _ _ X hk e.symm);have I9:mA T1 (T1.set j (zQ w (jg id (kq t id D k)))):=mA.setRow hj _;have a9:j≠x:=λe=>by subst e;rw[rI]at hj;simp[je]at hj
 have Z0:=hD.add X w;simp only[iv,mW,ej,bq]at Q q1;simp only[ej]at Ut q2 Z0;rw[aV]at Ut;simp only[g2,Q,q1,q2,a2,Ur,am,dB,V.jG,V.cell,c8,ae,VV,seval];have av:∀l,(T1.set j (zQ w (jg id (kq t id D k)))++l)[x]?=N (.iter false (F J+5+u) 3 (F (emap iv eZ C)) (n.filter λi=>i != q) (N q)):=λl=>by rw[ec,aj (by rw[dI];exact(ab.1 rI).1),aN a9];exact rI
 have ad:∀l,(T1.set j (zQ w (jg id (kq t id D k)))++l)[u]?=N (.map 150 3 (emap iv eZ C)):=λl=>(I9.trans (mA.app _ _)).2 _ _ XR rfl;refine⟨λh=>?_,λh=>?_⟩
 .have h0:jg id (kq t id D k)=[]:=by simpa using h
  have kk:=ih (n.filter λi=>i != q) (N q) (D++[(k,c)]) _ (mc+1) _ (by omega) (nB.filter _) (λp h=>M p (cV.1 h).1) uM ((Ut.del (k:=k) (by rw[<- aV,uv,aK rfl,h0])).app [Ob.box 150 [V.i .i64 k.1,V.s k.2,V.i .i64 0]]) (Wx.app _) (Z0.del k) (ad _) (av _) (λE z O D' M L hh hd hg=>h1 E z O D' M L hh hd (ZJ.trans ((I9.trans (mA.app _ _)).trans hg)));simp only[vI]at kk;exact hR _ (aX (by repeat' constructor) kk)
 have kk:=ih (n.filter λi=>i != q) (N q) (D++[(k,c)]) _ mc _ (by omega) (nB.filter _) (λp h=>M p (cV.1 h).1) uM (Ut.app [Ob.box 150 [V.i .i64 k.1,V.s k.2,V.i .i64 0]]) (Wx.app _) Z0 (ad _) (av _) (λE z O D' M L hh hd hg=>h1 E z O D' M L hh hd (ZJ.trans ((I9.trans (mA.app _ _)).trans hg)));simp only[vI]at kk;exact hR _ (aX (by repeat' constructor) kk)

set_option maxRecDepth 4000
set_option maxHeartbeats 1000000
def AA{c d:Type}[DecidableEq c]{a:c}{b:d}:∀{C:List (c×d)},bZ a C=N b->(a,b)∈C
 |[],h=>by simp[bZ,eO]at h
 |p::C,h=>by
  rw[jj]at h;split at h;.rename_i e;cases h;rw[e];exact ph ..
  exact dw _ (AA h)
def GP{b:Type}(L:List LE)(id:Int)(q:List It->Option b):((L.filterMap λe=>(q e.2.1).map λc=>(e.1,c)).filter λp=>!(p.1==id))=(lf L id).filterMap λe=>(q e.2.1).map λc=>(e.1,c):=by
 induction L with
 |nil=>rfl
 |cons e L ih =>
 unfold lf at ih |-;rw[dS];by_cases h:e.1=id;.rw[au (by simp[h])];cases a:q e.2.1 with|none=>rw[yO (by rw[a];rfl)];exact ih|some c=>rw[yN (by rw[a];rfl),ly (by simp[h])];exact ih
 rw[aK (by simp[h])];cases a:q e.2.1 with|none=>rw[yO (by rw[a];rfl),yO (by rw[a];rfl)];exact ih|some c=>rw[yN (by rw[a];rfl),yN (by rw[a];rfl),jv (by simp[h]),ih]
def OQ{d c:Type}{C:List (d×c)}(h:(C.map (·.1)).Nodup){x y:d×c}(f:x∈C)(g:y∈C)(e:x.1=y.1):x=y:=by
 induction C with
 |nil=>cases f
 |cons p C ih =>
 have b:=eu.1 h;rcases bE.1 f with h1|h1<;>rcases bE.1 g with a|a;.rw[h1,a]
 .exact absurd (br.2 ⟨y,a,by rw[<- e,h1]⟩) b.1
 .exact absurd (br.2 ⟨x,h1,by rw[e,a]⟩) b.1
 exact ih b.2 h1 a
def Nw{g:Type}(f:(L.map (·.1)).Nodup){id:Int}(i:(id,(l,m))∈L)(q:List It->Option g)(j:q l=Y):((L.filterMap λe=>(q e.2.1).map λc=>(e.1,c)).filter λp=>!(p.1==id))=L.filterMap λe=>(q e.2.1).map λc=>(e.1,c):=by
 rw[lj];intro p b;obtain⟨e,k,d⟩:=lV.1 b;obtain⟨c,a,n⟩:=al.1 d;subst n;by_cases h:e.1=id
 .exfalso;have:e=(id,(l,m)):=by exact OQ f k i h
  rw[this]at a;rw[j]at a;cases a
 simp[h]
def W5(f:(L.map (·.1)).Nodup){id:Int}(b:(id,(l,m))∈L):kq (Co L) id (cE (a8 l))=Co (lf L id):=by
 funext k;have e:=(jh (a8 l) [] [] 0 CN.nil).2.1;have a:=gR (a8 l);rw[xf];split;.exact GP L id λl=>bZ k (eX [] [] (a8 l))
 rename_i h;have d:bZ k (eX [] [] (a8 l))=Y:=by rw[<- qN e a];cases g:bZ k (cE (a8 l))with|none=>rfl|some c=>exact absurd ((iK k _).2 (by rw[g];rfl)) h
 exact(Nw f b (λl=>bZ k (eX [] [] (a8 l))) d).symm.trans (GP L id λl=>bZ k (eX [] [] (a8 l)))
def W4(f:(L.map (·.1)).Nodup){id:Int}(b:(id,(l,m))∈L){D:List (TK×Int)}(a:D.Perm (kh [] l)):kq (Aa L) id D=Aa (lf L id):=by
 funext k;have e:=(vr l [] 0 CN.nil).2.1;rw[xf];split;.exact GP L id λl=>bZ k (kh [] l)
 rename_i h;have d:bZ k (kh [] l)=Y:=by rw[<- qN e a];cases g:bZ k D with|none=>rfl|some c=>exact absurd ((iK k _).2 (by rw[g];rfl)) h
 exact(Nw f b (λl=>bZ k (kh [] l)) d).symm.trans (GP L id λl=>bZ k (kh [] l))
def aaz{id:Int}(b:(id,(l,m))∈L){g:Gr}(h:g∈cE (a8 l)):Co L g.1≠[]:=by
 have d:=(jh (a8 l) [] [] 0 CN.nil).2.1;have a:=gR (a8 l);have f:(bZ g.1 (eX [] [] (a8 l))).isSome:=by rw[<- qN d a];exact(iK _ _).1 (gr h)
 obtain⟨c,i⟩:=ox.1 f;intro e;have:(id,c)∈Co L g.1:=lV.2 ⟨_,b,by simp[i]⟩;rw[e]at this;cases this
def aax{id:Int}(b:(id,(l,m))∈L){g:TK×Int}(d:g∈kh [] l):Aa L g.1≠[]:=by have a:(bZ g.1 (kh [] l)).isSome:=(iK _ _).1 (gr d);obtain⟨c,f⟩:=ox.1 a;intro e;have:(id,c)∈Aa L g.1:=lV.2 ⟨_,b,by simp[f]⟩;rw[e]at this;cases this
def Pv{E:Nat×Nat×Nat}(a:ag)(L:List LE)(t:List (GK×(Nat×Nat)))(o:List (TK×(Nat×Nat)))(J:ag)(f:DV (F J) a L t o)(id:Int)(l:List It)(m:Nat)(q:bZ id L=N (l,m))(hL:F L<=1024): PC prog 70 [.ptr (F J+3) 0,.I id] (pX E J L t o T a) (λr S'=>r=.b true/\∃E' B d h,S'=pX E' J (lf L id) d h T B/\DV (F J) B (lf L id) d h/\mA a B):=by
 have n:=AA q;refine a6 func70 c70 λbn dN=>ay ?_;simp only[p70,SS,seval];obtain⟨i,R,q2⟩:=wY (ve:=BL) BQ id L 0 f.keys _ q;obtain⟨j,rfl,hj⟩:=f.cls _ n;simp only[eZ,BL,bq]at R;simp only[pX,vI,c8,R,q2,r8,ye,VV,seval];have Uh:=mN l;have ad:=rK (a8 l);have G:=vr l [] 0 CN.nil;have Hg:F l<2^27:=f.apa _ n;have y:jM (cE (a8 l)):=((gR (a8 l)).map _).nodup_iff.2 (jh (a8 l) [] [] 0 CN.nil).2.1;refine⟨rfl,rfl,?_⟩;simp only[ae];generalize s:a++[_]=T1;have ZU:F T1=F a+1:=by rw[<- s];simp
 have X:Bt.iI 190 (F J+5) T1 t (Co L):=by rw[<- s];exact f.p2.app _
 have v:Bt.iI 190 (F J+5) T1 o (Aa L):=by rw[<- s];exact f.p3.app _
 have M:mA a T1:=by rw[<- s];exact mA.app _ _
 have yx:T1[F a]?=N (.box 162 (r8 l (F J+5+j))):=by rw[<- s];simp[r8,ye]
 have GG:∀k,F (Co L k)<2^30:=λk=>by have:F (Co L k)<=F L:=gC _ _;omega
 have Wm:∀k,F (Aa L k)<2^30:=λk=>by have:F (Aa L k)<=F L:=gC _ _;omega
 refine cd.aX (fr':=(.ptr (F J+3) 0::.I id::uu 3 (.ptr (F J+(F a+5)) 0::uu 22 (.sl 3 ((cE (a8 l)).map qM)::.I (F (cE (a8 l)))::.I (F ([]:List Gr))::uu 68 [])))) (by repeat' constructor) (F (cE (a8 l))+1) (RU _ _ T o (Aa L) id (cE (a8 l)) (by omega) (F J+(F a+5)) (cE (a8 l)) [] T1 _ t (Co L) rfl X v f.dis GG (λg hg=>aaz n hg) y ?_);intro D ac d Ll C X0 w;simp only[JE];intros;have U:=w.2 _ _ (M.2 _ _ hj rfl) rfl;have Q:=w.2 _ _ yx rfl;have S:F J+5+j=F J+(j+5):=by omega
 simp only[r8,ye,S]at Q;simp only[vI,Q,U,VV,seval];have x:F (emap iv eZ (kh [] l))=F (kh [] l):=oX _;refine cd.aX (fr':=(.ptr (F J+3) 0::.I id::uu 66 (.it (F J+(F D+5))::uu 30 []))) (by repeat' constructor) (F (kh [] l)+1) (RT _ _ T d _ id (kh [] l) G.2.1 j (F D) (Aa L) Wm (λc hc=>aax n hc) (F (kh [] l)) (List.range (F (emap iv eZ (kh [] l)))) Y [] (D++[_]) _ o (by simp[x]) lx (λp hp=>by simpa[x]using hp) (by rw[x,bg,mU]) (C.app _) (Ll.app _) X0.symm ((mA.app _ _).2 _ _ U rfl) (by rw[S];simp) ?_);intro O V h D' W K th u H;simp only[JE];intros;simp only[VV,seval];have P:mA a O:=M.trans (w.trans ((mA.app _ _).trans H));refine fv (.inr rfl) rfl (Wk.refl _ _) rfl ⟨rfl,(_,_,_),O,d,h,rfl,⟨RE f.keys id,λe z=>f.apa e (cV.1 z).1,λe z=>?_,?_,?_,u.symm⟩,P⟩;.obtain⟨i,e1,e2⟩:=f.cls e (cV.1 z).1;exact⟨i,e1,P.2 _ _ e2 rfl⟩
 .rw[<- W5 f.keys n];exact th
 rw[<- W4 f.keys n W];exact K
end Go.Proofs.Tryz

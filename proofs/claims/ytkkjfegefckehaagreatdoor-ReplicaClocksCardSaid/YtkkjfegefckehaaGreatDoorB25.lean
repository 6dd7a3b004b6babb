/- A part of the proof of the statement of the last text of this claim; its conditions stand there. -/
import Derived.Test.YtkkjfegefckehaaGreatDoorB21
import Derived.Test.YtkkjfegefckehaaGreatDoorB24
set_option linter.all false

namespace Go.Proofs.Tryz
open Go Go.Pm Go.Bt
set_option maxHeartbeats 4000000 in
set_option maxRecDepth 20000 in
theorem P7(S:ag)(a:Nat)(ha:a<S.length)(l:List Int){K:Exit→St→Prop}(k0:Nat)(hk0:k0<2^50)(aQ:bP (lA S a l k0))(N:Nat)(hN:N≤20):∀ (m:Nat) (k:Nat) (f opn:List It) (id g1 g2:Nat),m≤N→id+m≤N→opn.length+m≤N →
  (∀ y∈opn,y.text.length≤5)→BD f opn id→f.length+m≤N→aM f+18*m≤18*N→(k0≤k∧k+12*m≤k0+12*N) →
  (∀ (k:Nat) (f opn:List It) (id g1 g2:Nat),id≤N→opn.length≤N→(∀ y∈opn,y.text.length≤5)→BD f opn id→f.length≤N→aM f≤18*N→(k0≤k∧k≤k0+12*N) →
   (∀ j0 j1 j2 j4 j5 j6 j7 j8 cS cX cR cN cM cL cW df dn dx dy dD dI dH dG dX ez eA eH eW fg fi ft fw fG fM fL fK fX gi gF gR gQ il ix iV iU iT iS iR jo jn jm jK jY kx ku kt kH lB l9 mD nr nH nG nF pw pt pq po pn pk qD tH uT uS uR uQ uP uO uN uM uL uK uJ xu xt xr xq xp xo xn xl xk xj xi xh xg zb nZ nY qm ql rh sL sK sJ sI sH sG sF sE sD xM xL xK xJ xH xG xF xE xD xC xB xA xz xy xx xw Aw Av Au As Ar H5 H4 H3 H2 SR SQ,K (.exit 0) ⟨[j0,j1,j2,.b true,j4,j5,j6,j7,j8,.own S.length g1,.own (S.length+1) g2,cS,cX,cR,cN,cM,cL,cW,df,dn,dx,dy,dD,dI,dH,dG,dX,ez,eA,eH,eW,fg,fi,ft,fw,fG,fM,fL,fK,fX,gi,gF,gR,gQ,il,ix,iV,iU,iT,iS,iR,jo,jn,jm,jK,jY,kx,ku,kt,kH,lB,l9,mD,nr,nH,nG,nF,pw,pt,pq,po,pn,pk,qD,tH,uT,uS,uR,uQ,uP,uO,uN,uM,uL,uK,uJ,xu,xt,xr,xq,xp,xo,xn,xl,xk,xj,xi,xh,xg,zb,nZ,nY,qm,ql,rh,sL,sK,sJ,sI,sH,sG,sF,sE,sD,xM,xL,xK,xJ,xH,xG,xF,xE,xD,xC,xB,xA,xz,xy,xx,xw,Aw,Av,Au,As,Ar,H5,H4,H3,H2,SR,SQ],lA S a l k++[gG g1 false f,gG g2 false opn]⟩)) →
  fO S.length prog HH K (m+1) ⟨[.ptr a 0,.u,.b true,.b true,.u,.u,.u,.u,.u,.own S.length g1,.own (S.length+1) g2,.i .i64 id,.i .i64 m,.u,.u,.u,.u,.u,.u,.u,.u,.u,.u,.u,.u,.u,.u,.u,.u,.u,.u,.u,.u,.u,.u,.u,.u,.u,.u,.u,.u,.u,.u,.u,.u,.u,.u,.u,.u,.u,.u,.u,.u,.u,.u,.u,.u,.u,.u,.u,.u,.u,.u,.u,.u,.u,.u,.u,.u,.u,.u,.u,.u,.u,.u,.u,.u,.u,.u,.u,.u,.u,.u,.u,.u,.u,.u,.u,.u,.u,.u,.u,.u,.u,.u,.u,.u,.u,.u,.u,.u,.u,.u,.u,.u,.u,.u,.u,.u,.u,.u,.u,.u,.u,.u,.u,.u,.u,.u,.u,.u,.u,.u,.u,.u,.u,.u,.u,.u,.u,.u,.u,.u,.u,.u,.u,.u,.u,.u,.u,.u],lA S a l k++[gG g1 false f,gG g2 false opn]⟩:=by
 intro m
 induction m with
 | zero =>
  intro k f opn id g1 g2 hm hid gl Ox hG hf hft hk h1;refine ax fun R hR=>?_;simp only[HH,VV,reduceIte];exact⟨fun h=>by simp at h,fun _=>h1 k f opn id g1 g2 (by omega) (by omega) Ox hG (by omega) (by omega) (by omega) ..⟩
 | succ m ih =>
  intro k f opn id g1 g2 hm hid gl Ox hG hf hft hk h1;have hw:IntKind.i64.wrap (((m+1:Nat):Int) - 1)=(m:Int):=by rw[IntWalk.i64_in _ (by omega)];omega
  refine Af fun R hR=>?_;simp only[HH];refine bA.cut fun R1 Ir=>?_;simp only[VV,reduceIte];refine⟨fun _=>?_,fun h=>by simp at h<;>omega⟩;refine Ir _ (bA.ej (fr':=[.ptr a 0,.u,.b true,.b true,.u,.u,.u,.u,.u,.own S.length g1,.own (S.length+1) g2,.i .i64 id,.i .i64 (m+1:Nat),.u,.u,.u,.u,.u,.u,.u,.u,.u,.u,.u,.u,.u,.u,.u,.u,.u,.u,.u,.u,.u,.u,.u,.u,.u,.u,.u,.u,.u,.u,.u,.u,.u,.u,.u,.u,.u,.u,.u,.u,.u,.u,.u,.u,.u,.u,.u,.u,.u,.u,.u,.u,.u,.u,.u,.u,.u,.u,.u,.u,.u,.u,.u,.u,.u,.u,.u,.u,.u,.u,.u,.u,.u,.u,.u,.u,.u,.u,.u,.u,.u,.u,.u,.u,.u,.u,.u,.u,.u,.u,.u,.u,.u,.u,.u,.u,.u,.u,.u,.u,.u,.u,.u,.u,.u,.u,.u,.u,.u,.u,.u,.u,.u,.u,.u,.u,.u,.u,.u,.u,.u,.u,.u,.u,.u,.u,.u,.u]) ?_ (by repeat' constructor));clear Ir R1;refine bA.T0 fun R2 Ek=>bA.lf ?_;refine bA.cut fun R3 hR3=>?_;simp only[gG,VV];refine cG (Om S a ha l k (by omega) 3 (by decide) _) rfl ?_;rintro _ _ ⟨t,k1,rfl,ht,qA,rfl⟩;simp only[cF,nb,BP,VV,Nat.reduceAdd,Nat.reduceLeDiff,reduceIte];refine hR3 _ (bA.ej (fr':=[.ptr a 0,.u,.b true,.b true,.u,.u,.u,.u,.u,.own S.length g1,.own (S.length+1) g2,.i .i64 id,.i .i64 (m+1:Nat),.ptr (S.length+2) 0,.u,.u,.u,.u,.u,.u,.u,.u,.u,.u,.u,.u,.u,.u,.u,.u,.u,.u,.u,.u,.u,.u,.u,.u,.u,.u,.u,.u,.u,.u,.u,.u,.u,.u,.u,.u,.u,.u,.u,.u,.u,.u,.u,.u,.u,.u,.u,.u,.u,.u,.u,.u,.u,.u,.u,.u,.u,.u,.u,.u,.u,.u,.u,.u,.u,.u,.u,.u,.u,.u,.u,.u,.u,.u,.u,.u,.u,.u,.u,.u,.u,.u,.u,.u,.u,.u,.u,.u,.u,.u,.u,.u,.u,.u,.u,.u,.u,.u,.u,.u,.u,.u,.u,.u,.u,.u,.u,.u,.u,.u,.u,.u,.u,.u,.u,.u,.u,.u,.u,.u,.u,.u,.u,.u,.u,.u,.u]) ?_ (by repeat' constructor));clear hR3 R3;refine bA.T0 fun R4 hR4=>?_
  have tail:∀ (x:It) (r1:Ob) (ext:ag) (j k2:Nat) (opn2:List It) (id2 g2':Nat) {fr:List V},(gG g1 true f::r1::.box 76 x.cells::(ext++[gG 0 false (normalize (f++[x]))]))[j]?=some (gG g2' false opn2)→ext.length+3≠j →
    id2+m≤N→opn2.length+m≤N→(∀ y∈opn2,y.text.length≤5)→BD (normalize (f++[x])) opn2 id2→x.text.length≤18→(k≤k2∧k2≤k+12) →
    pH fr [.ptr a 0,.u,.b true,.b true,.u,.u,.u,.u,.u,.own S.length g1,.own (S.length+j) g2',.i .i64 id2,.i .i64 (m+1:Nat),.ptr (S.length+2) 0,.u,.u,.u,.u,.u,.u,.u,.u,.u,.u,.u,.u,.u,.u,.u,.u,.u,.u,.u,.u,.u,.u,.u,.u,.u,.u,.u,.u,.u,.u,.u,.u,.u,.u,.u,.u,.u,.u,.u,.u,.u,.u,.u,.u,.u,.u,.u,.u,.u,.u,.u,.u,.u,.u,.u,.u,.u,.u,.u,.u,.u,.u,.u,.u,.u,.u,.u,.u,.u,.u,.u,.u,.u,.u,.u,.u,.u,.u,.u,.u,.u,.u,.u,.u,.u,.u,.u,.u,.u,.u,.u,.u,.u,.u,.u,.u,.u,.u,.u,.u,.u,.u,.u,.u,.u,.u,.u,.u,.u,.u,.u,.u,.u,.u,.u,.u,.u,.u,.u,.u,.u,.u,.u,.u,.u,.u,.u]→R4 ⟨fr,lA S a l k2++(gG g1 false f::r1::.box 76 x.cells::ext)⟩:=by
   intro x r1 ext j k2 opn2 id2 g2' fr hj iQ c1 c2 c3 c4 c5 c6 hc;have hb:=ml x hG.err;refine hR4 _ (bA.ej ?_ hc);clear hR4 hc;refine aj ?_;simp only[gG,It.cells,nb,VV,Nat.reduceAdd];refine OL (zs:=[.sl 3 (f.map It.cells),.sl 3 ([x].map It.cells)]) (σ1:=lA S a l k2++(gG g1 true f::r1::.box 76 x.cells::ext)) ?_ (G2 f [x] (by omega) (by simp) (by omega) (by simp[aM];omega) _) ?_
   ·refine(Wk.fz S.length (E:=76) (sz:=3) (by':=32) (g:=g1) (sh:=false) (rows:=f.map It.cells) (by rw[Oe];rfl)).trans ?_;rw[Kf];simp only[ay,az,ev,aE,aT,dU,fz,kc,and_self,if_true];exact Wk.ej (.cons (.refl _) (.cons (.lit _ _) .nil))
   simp only[cF,VV];refine Ek _ (bA.ej (fr':=[.ptr a 0,.u,.b true,.b true,.u,.u,.u,.u,.u,.own (S.length+(ext.length+1+1+1)) 0,.own (S.length+j) g2',.i .i64 id2,.i .i64 (m+1:Nat),.u,.u,.u,.u,.u,.u,.u,.u,.u,.u,.u,.u,.u,.u,.u,.u,.u,.u,.u,.u,.u,.u,.u,.u,.u,.u,.u,.u,.u,.u,.u,.u,.u,.u,.u,.u,.u,.u,.u,.u,.u,.u,.u,.u,.u,.u,.u,.u,.u,.u,.u,.u,.u,.u,.u,.u,.u,.u,.u,.u,.u,.u,.u,.u,.u,.u,.u,.u,.u,.u,.u,.u,.u,.u,.u,.u,.u,.u,.u,.u,.u,.u,.u,.u,.u,.u,.u,.u,.u,.u,.u,.u,.u,.u,.u,.u,.u,.u,.u,.u,.u,.u,.u,.u,.u,.u,.u,.u,.u,.u,.u,.u,.u,.u,.u,.u,.u,.u,.u,.u,.u,.u,.u,.u,.u,.u,.u,.u]) (aj ?_) (by repeat' constructor));simp only[hw,VV,reduceIte]
   refine hR _ (GP (fr':=[.ptr a 0,.u,.b true,.b true,.u,.u,.u,.u,.u,.own (S.length+0) 0,.own (S.length+1) 0,.i .i64 id2,.i .i64 m,.u,.u,.u,.u,.u,.u,.u,.u,.u,.u,.u,.u,.u,.u,.u,.u,.u,.u,.u,.u,.u,.u,.u,.u,.u,.u,.u,.u,.u,.u,.u,.u,.u,.u,.u,.u,.u,.u,.u,.u,.u,.u,.u,.u,.u,.u,.u,.u,.u,.u,.u,.u,.u,.u,.u,.u,.u,.u,.u,.u,.u,.u,.u,.u,.u,.u,.u,.u,.u,.u,.u,.u,.u,.u,.u,.u,.u,.u,.u,.u,.u,.u,.u,.u,.u,.u,.u,.u,.u,.u,.u,.u,.u,.u,.u,.u,.u,.u,.u,.u,.u,.u,.u,.u,.u,.u,.u,.u,.u,.u,.u,.u,.u,.u,.u,.u,.u,.u,.u,.u,.u,.u,.u,.u,.u,.u,.u,.u]) (σ':=lA S a l k2++[gG 0 false (normalize (f++[x])),gG 0 false opn2])
    ((Wk.ej (ys:=[.ptr a 0,.u,.b true,.b true,.u,.u,.u,.u,.u,.own (S.length+(ext.length+1+1+1)) 0,.own (S.length+j) g2',.i .i64 id2,.i .i64 m,.u,.u,.u,.u,.u,.u,.u,.u,.u,.u,.u,.u,.u,.u,.u,.u,.u,.u,.u,.u,.u,.u,.u,.u,.u,.u,.u,.u,.u,.u,.u,.u,.u,.u,.u,.u,.u,.u,.u,.u,.u,.u,.u,.u,.u,.u,.u,.u,.u,.u,.u,.u,.u,.u,.u,.u,.u,.u,.u,.u,.u,.u,.u,.u,.u,.u,.u,.u,.u,.u,.u,.u,.u,.u,.u,.u,.u,.u,.u,.u,.u,.u,.u,.u,.u,.u,.u,.u,.u,.u,.u,.u,.u,.u,.u,.u,.u,.u,.u,.u,.u,.u,.u,.u,.u,.u,.u,.u,.u,.u,.u,.u,.u,.u,.u,.u,.u,.u,.u,.u,.u,.u,.u,.u,.u,.u,.u,.u]) (by repeat' constructor)).trans
     (Qz (i:=ext.length+1+1+1) (j:=j) (g1:=0) (g2:=g2') (nW aQ) iQ (by simp[gG]) hj ?_)) (ih k2 (normalize (f++[x])) opn2 id2 0 0 (by omega) c1 c2 c3 c4 (by omega) (by omega) (by omega) h1))
   repeat first | exact .nil | refine .cons (.forget _) ?_ | refine .cons (.own 0 (ext.length+1+1+1) 76 3 32 0 false ((normalize (f++[x])).map It.cells) rfl (by simp;rfl)) ?_ | refine .cons (.own 1 j 76 3 32 g2' false (opn2.map It.cells) rfl hj) ?_ | refine .cons (.bY _ (by simp only[ha,LW])) ?_
  refine bA.cut fun R5 hR5=>?_;simp only[VV];refine cG (hZ S a ha l k1 (by omega) 8 (by decide) (by decide) _) rfl ?_;rintro _ _ ⟨v,rfl,hv,rfl⟩;simp only[VV];refine hR5 _ (bA.ej (fr':=[.ptr a 0,.u,.b true,.b true,.u,.u,.u,.u,.u,.own S.length g1,.own (S.length+1) g2,.i .i64 id,.i .i64 (m+1:Nat),.ptr (S.length+2) 0,.u,.u,.u,.u,.u,.u,.u,.u,.u,.u,.u,.u,.u,.u,.i .i64 v,.u,.u,.u,.u,.u,.u,.u,.u,.u,.u,.u,.u,.u,.u,.u,.u,.u,.u,.u,.u,.u,.u,.u,.u,.u,.u,.u,.u,.u,.u,.u,.u,.u,.u,.u,.u,.u,.u,.u,.u,.u,.u,.u,.u,.u,.u,.u,.u,.u,.u,.u,.u,.u,.u,.u,.u,.u,.u,.u,.u,.u,.u,.u,.u,.u,.u,.u,.u,.u,.u,.u,.u,.u,.u,.u,.u,.u,.u,.u,.u,.u,.u,.u,.u,.u,.u,.u,.u,.u,.u,.u,.u,.u,.u,.u,.u,.u,.u,.u,.u,.u,.u,.u,.u,.u,.u,.u,.u,.u,.u,.u,.u]) (aj ?_) (by repeat' constructor));clear hR5 R5;have ZG:IntKind.i64.wrap ((id:Int)+1)=((id+1:Nat):Int):=aV (by omega);have ZW:((id+1:Nat):Int)=(id:Int)+1:=by omega
  have ZI:(v=0∨v=1)∨v=2∨(v=3∨v=4)∨(v=5∨v=6)∨v=7:=by omega
  rcases ZI with ZI | rfl | ZI | ZI | rfl
  ·have slot:∀ {w:List UInt8},w∈oQ→BD (normalize (f++[⟨5,w,0⟩])) opn id:=fun h=>hG.slot (u5 _ h).1;rcases ZI with rfl | rfl
   ·simp only[nb,BP,VV,Int.reduceBEq,Nat.reduceAdd,Nat.reduceLeDiff,reduceIte,reduceCtorEq];refine cG (hZ S a ha l (k1+1) (by omega) 3 (by decide) (by decide) _) rfl ?_;rintro _ _ ⟨u,rfl,hu,rfl⟩;obtain⟨w,MI,ew⟩:=mu (ws:=oQ) (n:=u.toNat) (by simp[oQ];omega);simp only[oQ,ay,az]at ew;simp only[ew,nb,BP,VV,Nat.reduceAdd,Nat.reduceLeDiff,reduceIte];refine⟨by omega,?_⟩;exact tail ⟨5,w,0⟩ (gG g2 false opn) [] 1 (k1+1+1) opn id g2 rfl (by simp) (by omega) (by omega) Ox (slot MI) (by have:=(u5 _ MI).2;simp only;omega) (by omega) (by repeat' constructor)
   ·simp only[nb,BP,VV,Int.reduceBEq,Nat.reduceAdd,Nat.reduceLeDiff,reduceIte,reduceCtorEq];refine cG (hZ S a ha l (k1+1) (by omega) 3 (by decide) (by decide) _) rfl ?_;rintro _ _ ⟨u,rfl,hu,rfl⟩;obtain⟨w,MI,ew⟩:=mu (ws:=oQ) (n:=u.toNat) (by simp[oQ];omega);simp only[oQ,ay,az]at ew;simp only[ew,nb,BP,VV,Nat.reduceAdd,Nat.reduceLeDiff,reduceIte];refine⟨by omega,?_⟩;exact tail ⟨5,w,0⟩ (gG g2 false opn) [] 1 (k1+1+1) opn id g2 rfl (by simp) (by omega) (by omega) Ox (slot MI) (by have:=(u5 _ MI).2;simp only;omega) (by omega) (by repeat' constructor)
  ·simp only[nb,BP,ZG,VV,Int.reduceBEq,Nat.reduceAdd,Nat.reduceLeDiff,reduceIte,reduceCtorEq];refine cG (hZ S a ha l (k1+1) (by omega) 2 (by decide) (by decide) _) rfl ?_;rintro _ _ ⟨u,rfl,hu,rfl⟩;obtain⟨w,MI,ew⟩:=mu (ws:=sS) (n:=u.toNat) (by simp[sS];omega);simp only[sS,ay,az]at ew;obtain⟨w1,w3⟩:=E9 _ MI;simp only[ew,nb,BP,VV,Nat.reduceAdd,Nat.reduceLeDiff,reduceIte];refine⟨by omega,?_⟩;have OE:=hG.empty w1 (by omega) (by omega);rw[← ZW]at OE;exact tail ⟨4,w,((id+1:Nat):Int)⟩ (gG g2 false opn) [] 1 (k1+1+1) opn (id+1) g2 rfl (by simp) (by omega) (by omega) Ox OE (by simp only;omega) (by omega) (by repeat' constructor)
  ·rcases ZI with rfl | rfl
   ·simp only[nb,BP,ZG,VV,Int.reduceBEq,Nat.reduceAdd,Nat.reduceLeDiff,reduceIte,reduceCtorEq];refine cG (hZ S a ha l (k1+1) (by omega) 3 (by decide) (by decide) _) rfl ?_;rintro _ _ ⟨u,rfl,hu,rfl⟩;obtain⟨w,MI,ew⟩:=mu (ws:=qq) (n:=u.toNat) (by simp[qq];omega);simp only[qq,ay,az]at ew;obtain⟨w1,w2,w3⟩:=Bo _ MI;simp only[ew,nb,BP,List.length_map,VV,Nat.reduceAdd,Nat.reduceLeDiff,reduceIte];refine⟨by omega,⟨by omega,by simp only[maxLen];omega⟩,?_⟩;have e3:opn.map It.cells++[[V.i .i64 2,.s w,.i .i64 ((id+1:Nat):Int)]]=(opn++[(⟨2,w,((id+1:Nat):Int)⟩:It)]).map It.cells:=by simp[It.cells]
    rw[e3];have OE:=hG.opens w1 w2 (by omega) (by omega);rw[← ZW]at OE
    refine tail ⟨2,w,((id+1:Nat):Int)⟩ (gG (g2+1) false (opn++[⟨2,w,((id+1:Nat):Int)⟩])) [] 1 (k1+1+1) (opn++[⟨2,w,((id+1:Nat):Int)⟩]) (id+1) (g2+1) rfl (by simp) (by omega) (by simp;omega) (fun z hz=>by
     rcases List.mem_append.1 hz with hz | hz
     ·exact Ox z hz
     ·rw[cv]at hz;subst hz;exact w3) OE ?_ ?_ ?_
    ·simp only;omega
    ·omega
    ·repeat' constructor
   ·simp only[nb,BP,ZG,VV,Int.reduceBEq,Nat.reduceAdd,Nat.reduceLeDiff,reduceIte,reduceCtorEq];refine cG (hZ S a ha l (k1+1) (by omega) 3 (by decide) (by decide) _) rfl ?_;rintro _ _ ⟨u,rfl,hu,rfl⟩;obtain⟨w,MI,ew⟩:=mu (ws:=qq) (n:=u.toNat) (by simp[qq];omega);simp only[qq,ay,az]at ew;obtain⟨w1,w2,w3⟩:=Bo _ MI;simp only[ew,nb,BP,List.length_map,VV,Nat.reduceAdd,Nat.reduceLeDiff,reduceIte];refine⟨by omega,⟨by omega,by simp only[maxLen];omega⟩,?_⟩;have e3:opn.map It.cells++[[V.i .i64 2,.s w,.i .i64 ((id+1:Nat):Int)]]=(opn++[(⟨2,w,((id+1:Nat):Int)⟩:It)]).map It.cells:=by simp[It.cells]
    rw[e3];have OE:=hG.opens w1 w2 (by omega) (by omega);rw[← ZW]at OE
    refine tail ⟨2,w,((id+1:Nat):Int)⟩ (gG (g2+1) false (opn++[⟨2,w,((id+1:Nat):Int)⟩])) [] 1 (k1+1+1) (opn++[⟨2,w,((id+1:Nat):Int)⟩]) (id+1) (g2+1) rfl (by simp) (by omega) (by simp;omega) (fun z hz=>by
     rcases List.mem_append.1 hz with hz | hz
     ·exact Ox z hz
     ·rw[cv]at hz;subst hz;exact w3) OE ?_ ?_ ?_
    ·simp only;omega
    ·omega
    ·repeat' constructor
  ·rcases ZI with rfl | rfl
   ·rcases dQ opn with h0 | ⟨opn',y,h0⟩
    ·subst h0;have e1:decide ((0:Int)≤IntKind.i64.wrap (((0:Nat):Int) - 1))=false:=rfl;simp only[nb,BP,az,ah,e1,VV,Int.reduceBEq,Nat.reduceAdd,Nat.reduceLeDiff,reduceIte,reduceCtorEq];exact tail ⟨1,t,0⟩ (gG g2 false []) [] 1 (k1+1) [] id g2 rfl (by simp) (by omega) (by simp;omega) (by simp) (hG.text t) (by simp only;omega) (by omega) (by repeat' constructor)
    ·rw[dt]at h0;subst h0;have Oy:(opn'++[y]).length=opn'.length+1:=by simp
     have Qe:IntKind.i64.wrap (((opn'.length+1:Nat):Int) - 1)=(opn'.length:Int):=by rw[IntWalk.i64_in _ (by omega)];omega
     have FZ:IntKind.i64.wrap ((opn'.length:Int)+1)=((opn'.length+1:Nat):Int):=aV (by omega);have e1:decide ((0:Int)≤(opn'.length:Int))=true:=by simp
     have ZC:=Ox y (by simp);have Wr:=tX y.text;have dY:∀ j,fe (List.map It.cells (opn'++[y])) opn'.length j=y.cells[j]?:=fun j=>lU;have F0:(0:Int)≤(opn'.length:Int)∧(opn'.length:Int)<((opn'.length+1:Nat):Int):=⟨by omega,by omega⟩;obtain⟨OE,hn⟩:=hG.close (by omega);simp only[nb,BP,List.length_map,Oy,Qe,e1,dY,It.cells,an,VV,Int.reduceBEq,Nat.reduceAdd,Nat.reduceLeDiff,reduceIte,reduceCtorEq];refine⟨F0,F0,?_⟩;refine ai (rH y.text _) rfl ?_;simp only[cF,nb,BP,List.length_map,Oy,FZ,dY,It.cells,an,VV,Nat.reduceAdd,Nat.reduceLeDiff,Int.reduceToNat,reduceIte];have e4:List.take opn'.length (List.map It.cells (opn'++[y]))=List.map It.cells opn':=by rw[List.map_append];exact lH (by simp)
     have e5:List.take (opn'.length+1 - (opn'.length+1)) (List.drop (opn'.length+1) (List.map It.cells (opn'++[y])))=[]:=by simp
     simp only[e4,e5,bf,List.length_map,ah,bC];refine⟨F0,by omega,by omega,⟨by omega,by simp only[maxLen];omega⟩,by omega,⟨by omega,by simp only[maxLen];omega⟩,?_⟩;exact tail ⟨3,dm y.text,y.id⟩ (gG g2 false (opn'++[y])) [gG 1 false opn'] 3 (k1+1) opn' id 1 rfl (by simp) (by omega) (by omega) (fun z hz=>Ox z (by simp[hz])) (by rw[hn];exact OE) (by simp only;omega) (by omega) (by repeat' constructor)
   ·rcases dQ opn with h0 | ⟨opn',y,h0⟩
    ·subst h0;have e1:decide ((0:Int)≤IntKind.i64.wrap (((0:Nat):Int) - 1))=false:=rfl;simp only[nb,BP,az,ah,e1,VV,Int.reduceBEq,Nat.reduceAdd,Nat.reduceLeDiff,reduceIte,reduceCtorEq];exact tail ⟨1,t,0⟩ (gG g2 false []) [] 1 (k1+1) [] id g2 rfl (by simp) (by omega) (by simp;omega) (by simp) (hG.text t) (by simp only;omega) (by omega) (by repeat' constructor)
    ·rw[dt]at h0;subst h0;have Oy:(opn'++[y]).length=opn'.length+1:=by simp
     have Qe:IntKind.i64.wrap (((opn'.length+1:Nat):Int) - 1)=(opn'.length:Int):=by rw[IntWalk.i64_in _ (by omega)];omega
     have FZ:IntKind.i64.wrap ((opn'.length:Int)+1)=((opn'.length+1:Nat):Int):=aV (by omega);have e1:decide ((0:Int)≤(opn'.length:Int))=true:=by simp
     have ZC:=Ox y (by simp);have Wr:=tX y.text;have dY:∀ j,fe (List.map It.cells (opn'++[y])) opn'.length j=y.cells[j]?:=fun j=>lU;have F0:(0:Int)≤(opn'.length:Int)∧(opn'.length:Int)<((opn'.length+1:Nat):Int):=⟨by omega,by omega⟩;obtain⟨OE,hn⟩:=hG.close (by omega);simp only[nb,BP,List.length_map,Oy,Qe,e1,dY,It.cells,an,VV,Int.reduceBEq,Nat.reduceAdd,Nat.reduceLeDiff,reduceIte,reduceCtorEq];refine⟨F0,F0,?_⟩;refine ai (rH y.text _) rfl ?_;simp only[cF,nb,BP,List.length_map,Oy,FZ,dY,It.cells,an,VV,Nat.reduceAdd,Nat.reduceLeDiff,Int.reduceToNat,reduceIte];have e4:List.take opn'.length (List.map It.cells (opn'++[y]))=List.map It.cells opn':=by rw[List.map_append];exact lH (by simp)
     have e5:List.take (opn'.length+1 - (opn'.length+1)) (List.drop (opn'.length+1) (List.map It.cells (opn'++[y])))=[]:=by simp
     simp only[e4,e5,bf,List.length_map,ah,bC];refine⟨F0,by omega,by omega,⟨by omega,by simp only[maxLen];omega⟩,by omega,⟨by omega,by simp only[maxLen];omega⟩,?_⟩;exact tail ⟨3,dm y.text,y.id⟩ (gG g2 false (opn'++[y])) [gG 1 false opn'] 3 (k1+1) opn' id 1 rfl (by simp) (by omega) (by omega) (fun z hz=>Ox z (by simp[hz])) (by rw[hn];exact OE) (by simp only;omega) (by omega) (by repeat' constructor)
  ·simp only[nb,BP,VV,Int.reduceBEq,Nat.reduceAdd,Nat.reduceLeDiff,reduceIte,reduceCtorEq];exact tail ⟨1,t,0⟩ (gG g2 false opn) [] 1 (k1+1) opn id g2 rfl (by simp) (by omega) (by omega) Ox (hG.text t) (by simp only;omega) (by omega) (by repeat' constructor)
theorem KP(S:ag)(a:Nat)(ha:a<S.length)(l:List Int)(k:Nat)(hk:k<2^49)(N:Nat)(hN:N≤20):
  PC prog 117 [.ptr a 0,.i .i64 N,.b true,.b true] (lA S a l k) (fun r σ'=>∃ (f:List It) (k':Nat),r=.sl 3 (f.map It.cells)∧bt [] f=0∧f.length≤2*N∧aM f≤23*N∧(k≤k'∧k'≤k+12*N+1)∧σ'=lA S a l k'):=by
 refine PC.intro func117 akF fun aQ cz=>?_;have hw:IntKind.i64.wrap ((N:Int)+1)=((N+1:Nat):Int):=aV (by omega);simp only[adS,SS,seval];refine bA.cut fun R hR=>?_;simp only[cF,VV,seval];refine hR _ ?_;clear hR R;refine bA.cut fun R hR=>?_;simp only[cF,VV,seval];refine hR _ ?_;clear hR R;refine bA.cut fun R hR=>?_;simp only[cF,VV,seval];refine hR _ ?_;clear hR R;refine bA.cut fun R hR=>?_;simp only[cF,hw,VV,seval];refine cG (vN S a ha l k (by omega) ((N+1:Nat):Int) (by omega) (by omega)) rfl ?_;rintro _ _ ⟨v,rfl,hv,rfl⟩;obtain⟨m,rfl⟩:∃ m:Nat,v=m:=⟨v.toNat,by omega⟩;simp only[VV,seval]
 refine bA.wk (((Wk.ej (ys:=[.ptr a 0,.u,.b true,.b true,.u,.u,.u,.u,.u,.nil,.nil,.i .i64 (0:Nat),.i .i64 m,.u,.u,.u,.u,.u,.u,.u,.u,.u,.u,.u,.u,.u,.u,.u,.u,.u,.u,.u,.u,.u,.u,.u,.u,.u,.u,.u,.u,.u,.u,.u,.u,.u,.u,.u,.u,.u,.u,.u,.u,.u,.u,.u,.u,.u,.u,.u,.u,.u,.u,.u,.u,.u,.u,.u,.u,.u,.u,.u,.u,.u,.u,.u,.u,.u,.u,.u,.u,.u,.u,.u,.u,.u,.u,.u,.u,.u,.u,.u,.u,.u,.u,.u,.u,.u,.u,.u,.u,.u,.u,.u,.u,.u,.u,.u,.u,.u,.u,.u,.u,.u,.u,.u,.u,.u,.u,.u,.u,.u,.u,.u,.u,.u,.u,.u,.u,.u,.u,.u,.u,.u,.u,.u,.u,.u,.u,.u,.u]) (by repeat' constructor)).trans (Wk.gZ (P:=prog) (σ:=lA S a l (k+1)) (k:=9) Ji rfl)).trans ((Wk.nV (P:=prog) (σ:=lA S a l (k+1)) [_] (k:=10) Ji rfl).trans (Wk.ej (ys:=[.ptr a 0,.u,.b true,.b true,.u,.u,.u,.u,.u,.own S.length 0,.own (S.length+1) 0,.i .i64 (0:Nat),.i .i64 m,.u,.u,.u,.u,.u,.u,.u,.u,.u,.u,.u,.u,.u,.u,.u,.u,.u,.u,.u,.u,.u,.u,.u,.u,.u,.u,.u,.u,.u,.u,.u,.u,.u,.u,.u,.u,.u,.u,.u,.u,.u,.u,.u,.u,.u,.u,.u,.u,.u,.u,.u,.u,.u,.u,.u,.u,.u,.u,.u,.u,.u,.u,.u,.u,.u,.u,.u,.u,.u,.u,.u,.u,.u,.u,.u,.u,.u,.u,.u,.u,.u,.u,.u,.u,.u,.u,.u,.u,.u,.u,.u,.u,.u,.u,.u,.u,.u,.u,.u,.u,.u,.u,.u,.u,.u,.u,.u,.u,.u,.u,.u,.u,.u,.u,.u,.u,.u,.u,.u,.u,.u,.u,.u,.u,.u,.u,.u,.u]) ?_)))
  (bA.pd (m+1) (P7 S a ha l (k+1) (by omega) (nW aQ) m (by omega) m (k+1) [] [] 0 0 0 (aB _) (by omega) (by simp) (by simp) BD.nil (by simp) (by simp[aM]) (by omega) ?_))
 ·simp only[cF,ab,ah,VV,seval]
  repeat' constructor
 intro k' f opn id g1 g2 c1 c2 c3 c4 c5 c6 c7;intros;simp only[VV,seval];refine hR _ (bA.ej (fr':=[.u,.u,.u,.b true,.u,.u,.u,.u,.u,.own S.length g1,.own (S.length+1) g2,.u,.u,.u,.u,.u,.u,.u,.u,.u,.u,.u,.u,.u,.u,.u,.u,.u,.u,.u,.u,.u,.u,.u,.u,.u,.u,.u,.u,.u,.u,.u,.u,.u,.u,.u,.u,.u,.u,.u,.u,.u,.u,.u,.u,.u,.u,.u,.u,.u,.u,.u,.u,.u,.u,.u,.u,.u,.u,.u,.u,.u,.u,.u,.u,.u,.u,.u,.u,.u,.u,.u,.u,.u,.u,.u,.u,.u,.u,.u,.u,.u,.u,.u,.u,.u,.u,.u,.u,.u,.u,.u,.u,.u,.u,.u,.u,.u,.u,.u,.u,.u,.u,.u,.u,.u,.u,.u,.u,.u,.u,.u,.u,.u,.u,.u,.u,.u,.u,.u,.u,.u,.u,.u,.u,.u,.u,.u,.u,.u,.u]) ?_ (by repeat' constructor));clear hR R;refine bA.cut fun R hR=>?_;simp only[gG,cF,nb,List.length_map,VV,seval];have hwo:IntKind.i64.wrap ((opn.length:Int) - 1)=(opn.length:Int) - 1:=IntWalk.i64_in _ (by omega);rw[hwo];refine bA.aW (fr':=[.u,.u,.u,.b true,.u,.u,.u,.u,.u,.own S.length g1,.own (S.length+1) g2,.u,.u,.u,.u,.i .i64 ((opn.length:Int) - 1),.u,.u,.u,.u,.u,.u,.u,.u,.u,.u,.u,.u,.u,.u,.u,.u,.u,.u,.u,.u,.u,.u,.u,.u,.u,.u,.u,.u,.u,.u,.u,.u,.u,.u,.u,.u,.u,.u,.u,.u,.u,.u,.u,.u,.u,.u,.u,.u,.u,.u,.u,.u,.u,.u,.u,.u,.u,.u,.u,.u,.u,.u,.u,.u,.u,.u,.u,.u,.u,.u,.u,.u,.u,.u,.u,.u,.u,.u,.u,.u,.u,.u,.u,.u,.u,.u,.u,.u,.u,.u,.u,.u,.u,.u,.u,.u,.u,.u,.u,.u,.u,.u,.u,.u,.u,.u,.u,.u,.u,.u,.u,.u,.u,.u,.u,.u,.u,.u,.u,.u,.u,.u,.u,.u,.u]) (by repeat' constructor) (opn.length+1) (P6 S a l k' opn (by omega) c3 id (by omega) g2 opn.length opn f g1 rfl ⟨[],by simp⟩ c4 (by omega) ?_);intro f' g1' q1 q2 q3;intros;simp only[gG,VV,seval];refine hR _ (aj ?_);clear hR R;simp only[cF,VV,seval];refine ed (xs':=[.sl 3 (f'.map It.cells)]) (.inr rfl) rfl ((Wk.fz S.length (E:=76) (sz:=3) (by':=32) (g:=g1') (sh:=false) (rows:=f'.map It.cells) (by rw[Oe];rfl)).trans ?_) ?_ ⟨f',k',rfl,q1,by omega,by omega,by omega,rfl⟩
 ·rw[Kf];simp only[ay,az,aE,aT,dU,fz,kc,and_self,if_true];have:=Wk.Fb (P:=prog) (xs:=[.sl 3 (f'.map It.cells)]) (loc:=[Ob.row 76 3 32 g1' true (f'.map It.cells),Ob.row 76 3 32 g2 false (opn.map It.cells)]) (nW (k':=k') aQ) (by simp only[cF,LW]);rw[cF]at this;exact this
 ·rfl
theorem Xc(S:ag)(a:Nat)(ha:a<S.length)(l:List Int)(k:Nat)(hk:k<2^49)(N:Nat)(hN:N≤20)(loc:ag):
  PC prog 117 [.ptr a 0,.i .i64 N,.b true,.b true] (lA S a l k++loc) (fun r σ'=>∃ (f:List It) (k':Nat),r=.sl 3 (f.map It.cells)∧bt [] f=0∧f.length≤2*N∧aM f≤23*N∧(k≤k'∧k'≤k+12*N+1)∧σ'=lA S a l k'++loc):=by
 rw[ow ha];refine(KP (S++loc) a (by rw[List.length_append];omega) l k hk N hN).mono ?_;rintro r σ' ⟨f,k',h1,h2,h3,h4,h5,h6⟩;exact⟨f,k',h1,h2,h3,h4,h5,by rw[h6,ow ha]⟩
theorem OZ(S:ag)(a:Nat)(ha:a<S.length)(l:List Int)(k:Nat)(hk:k<2^50)(src:List It)(rk:bt [] src=0)(hlen:src.length≤100)(ZJ:aM src≤10000)(loc:ag):
  PC prog 118 [.ptr a 0,.sl 3 (src.map It.cells)] (lA S a l k++loc) (fun r σ'=>∃ (f:List It) (k':Nat),r=.sl 3 (f.map It.cells)∧bt [] f=0∧f.length≤2*src.length∧aM f≤aM src+20*src.length∧(k≤k'∧k'≤k+10*src.length)∧σ'=lA S a l k'++loc):=by
 rw[ow ha];refine(OY (S++loc) a (by rw[List.length_append];omega) l k hk src rk hlen ZJ).mono ?_;rintro r σ' ⟨f,k',h1,h2,h3,h4,h5,h6⟩;exact⟨f,k',h1,h2,h3,h4,h5,by rw[h6,ow ha]⟩
def zo:List (List UInt8):=[[83,97,118,101],[114,101,100,32,99,97,114],[82,101,100,32,99,97,114,115]]
theorem KO:∀ s∈zo,bt [] [⟨1,s,0⟩]=0∧s.length≤8:=by decide +kernel
def zp:List (List UInt8):=[[],[],[83,97,118,101],[114,101,100,32,99,97,114]]
def zq:List (List UInt8):=[[],[],[120],[83,97,118,101]]
def sU:List (List UInt8):=[[],[97,110,110],[98,111,98]]
def qW:List (List UInt8):=[[],[112],[113]]
theorem aao:(∀ s∈zp,s∈DI)∧(∀ s∈zq,s∈DI)∧(∀ s∈sU,s∈u6)∧∀ s∈qW,s∈u6:=by decide +kernel
set_option maxHeartbeats 2000000 in
set_option maxRecDepth 20000 in
theorem TT(S:ag)(a:Nat)(ha:a<S.length)(l:List Int)(k:Nat)(hk:k<2^48):
  PC prog 64 [.ptr a 0] (lA S a l k) (fun r σ'=>∃ (e:En) (k':Nat),r=.agg e.cells∧zK e∧(k≤k'∧k'≤k+200)∧σ'=lA S a l k'):=by
 refine PC.intro func64 c64 fun aQ cz=>?_;simp only[p64,SS,seval];refine bA.cut fun R hR=>?_;simp only[cF,VV,seval];refine hR _ ?_;clear hR R;refine bA.cut fun R hR=>?_;simp only[cF,VV,seval];refine cG (Xc S a ha l k (by omega) 4 (by decide) _) rfl ?_;rintro _ _ ⟨f0,k1,rfl,f1,f2,f3,f4,rfl⟩;simp only[VV,seval];refine hR _ (bA.ej (fr':=[.ptr a 0,.u,.ptr S.length 0,.sl 3 (f0.map It.cells),.u,.u,.u,.u,.u,.u,.u,.u,.u,.u,.u,.u,.u,.u,.u,.u,.u,.u,.u,.u,.u,.u,.u,.u,.u,.u,.u,.u,.u,.u,.u,.u,.u,.u,.u,.u,.u,.u,.u,.u,.u,.u,.u,.u,.u,.u,.u,.u,.u,.u,.u,.u]) ?_ (by repeat' constructor));clear hR R;refine bA.cut fun R hR=>?_
 have tail:∀ (f:List It) (k2:Nat) {fr:List V},bt [] f=0→f≠[]→f.length≤8→aM f≤92→(k≤k2∧k2≤k+50)→pH fr [.ptr a 0,.u,.ptr S.length 0,.sl 3 (f.map It.cells),.u,.u,.u,.u,.u,.u,.u,.u,.u,.u,.u,.u,.u,.u,.u,.u,.u,.u,.u,.u,.u,.u,.u,.u,.u,.u,.u,.u,.u,.u,.u,.u,.u,.u,.u,.u,.u,.u,.u,.u,.u,.u,.u,.u,.u,.u,.u,.u,.u,.u,.u,.u] →
   R ⟨fr,lA S a l k2++[.box 27 [.nil,.nil,.s [],.s [],.s [],.s [],.i .i64 0,.i .i64 0]]⟩:=by
  intro f k2 fr c1 c2 c3 c4 c5 hc;refine hR _ (bA.ej ?_ hc);clear hR R;refine bA.cut fun R hR=>?_;simp only[cF,VV,seval];refine cG (OZ S a ha l k2 (by omega) f c1 (by omega) (by omega) _) rfl ?_;rintro _ _ ⟨t,k3,rfl,t1,t2,t3,t4,rfl⟩;simp only[VV,seval];refine hR _ (bA.ej (fr':=[.ptr a 0,.u,.ptr S.length 0,.sl 3 (f.map It.cells),.sl 3 (t.map It.cells),.u,.u,.u,.u,.u,.u,.u,.u,.u,.u,.u,.u,.u,.u,.u,.u,.u,.u,.u,.u,.u,.u,.u,.u,.u,.u,.u,.u,.u,.u,.u,.u,.u,.u,.u,.u,.u,.u,.u,.u,.u,.u,.u,.u,.u,.u,.u,.u,.u,.u,.u]) ?_ (by repeat' constructor));clear hR R;refine bA.cut fun R hR=>?_;simp only[cF,VV,seval];refine ai (uq f t (by omega) (by omega) (by omega) (by omega) _) rfl ?_;simp only[VV,seval];refine hR _ (bA.ej (fr':=[.ptr a 0,.u,.ptr S.length 0,.u,.u,.sl 3 ((fZ f t).map It.cells),.sl 3 ((gT f t).map It.cells),.u,.u,.u,.u,.u,.u,.u,.u,.u,.u,.u,.u,.u,.u,.u,.u,.u,.u,.u,.u,.u,.u,.u,.u,.u,.u,.u,.u,.u,.u,.u,.u,.u,.u,.u,.u,.u,.u,.u,.u,.u,.u,.u,.u,.u,.u,.u,.u,.u]) (aj ?_) (by repeat' constructor));clear hR R;simp only[cF,VV,seval];refine cG (hZ S a ha l k3 (by omega) 4 (by decide) (by decide) _) rfl ?_;rintro _ _ ⟨v1,rfl,Wp,rfl⟩;obtain⟨w1,Qe,e1⟩:=mu (ws:=zp) (n:=v1.toNat) (by simp[zp];omega);simp only[zp,ay,az]at e1;simp only[e1,VV,seval];refine⟨by omega,?_⟩;refine cG (hZ S a ha l (k3+1) (by omega) 4 (by decide) (by decide) _) rfl ?_;rintro _ _ ⟨v2,rfl,hv2,rfl⟩;obtain⟨w2,FZ,e2⟩:=mu (ws:=zq) (n:=v2.toNat) (by simp[zq];omega);simp only[zq,ay,az]at e2;simp only[e1,e2,VV,seval]
  iterate 3 (try refine And.intro (by omega) ?_)
  refine cG (hZ S a ha l (k3+1+1) (by omega) 3 (by decide) (by decide) _) rfl ?_;rintro _ _ ⟨v3,rfl,hv3,rfl⟩;obtain⟨w3,hw3,e3⟩:=mu (ws:=sU) (n:=v3.toNat) (by simp[sU];omega);simp only[sU,ay,az]at e3;simp only[e1,e2,e3,VV,seval]
  iterate 4 (try refine And.intro (by omega) ?_)
  refine cG (hZ S a ha l (k3+1+1+1) (by omega) 3 (by decide) (by decide) _) rfl ?_;rintro _ _ ⟨v4,rfl,hv4,rfl⟩;obtain⟨w4,hw4,e4⟩:=mu (ws:=qW) (n:=v4.toNat) (by simp[qW];omega);simp only[qW,ay,az]at e4;simp only[e1,e2,e3,e4,VV,seval]
  iterate 6 (try refine And.intro (by omega) ?_)
  refine cG (hZ S a ha l (k3+1+1+1+1) (by omega) 50 (by decide) (by decide) _) rfl ?_;rintro _ _ ⟨v5,rfl,hv5,rfl⟩;simp only[e1,e2,e3,e4,VV,seval]
  iterate 6 (try refine And.intro (by omega) ?_)
  refine cG (hZ S a ha l (k3+1+1+1+1+1) (by omega) 3 (by decide) (by decide) _) rfl ?_;rintro _ _ ⟨v6,rfl,hv6,rfl⟩;have hw6:IntKind.i64.wrap (1+v6)=1+v6:=IntWalk.i64_in _ (by omega);simp only[e1,e2,e3,e4,hw6,Oe,Kf,VV,seval];refine⟨by omega,?_⟩;obtain⟨i1,i2,i3,i4⟩:=aao;have hE:zK ⟨fZ f t,gT f t,w1,w2,w3,w4,v5,1+v6⟩:=Qu c1 t1 c2 (by omega) (by omega) (by omega) (by omega) (i1 _ Qe) (i2 _ FZ) (i3 _ hw3) (i4 _ hw4) (by omega) (by omega);refine ed (xs:=[.agg (En.cells ⟨fZ f t,gT f t,w1,w2,w3,w4,v5,1+v6⟩)]) (xs':=[.agg (En.cells ⟨fZ f t,gT f t,w1,w2,w3,w4,v5,1+v6⟩)]) (.inr rfl) (by simp only[kO,sj,Oe,VV,seval];rfl) ?_ rfl ⟨_,k3+1+1+1+1+1+1,rfl,hE,by omega,rfl⟩;have:=Wk.Fb (P:=prog) (xs:=[.agg (En.cells ⟨fZ f t,gT f t,w1,w2,w3,w4,v5,1+v6⟩)]) (loc:=[Ob.box 27 (En.cells ⟨fZ f t,gT f t,w1,w2,w3,w4,v5,1+v6⟩)]) (nW (k':=k3+1+1+1+1+1+1) aQ) (by simp only[En.cells,cF,LW]);rw[cF]at this;exact this
 simp only[List.length_map,cF,VV,seval];refine⟨fun h=>?_,fun h=>?_⟩
 ·refine cG (hZ S a ha l k1 (by omega) 3 (by decide) (by decide) _) rfl ?_;rintro _ _ ⟨v,rfl,hv,rfl⟩;obtain⟨w,hw,e⟩:=mu (ws:=zo) (n:=v.toNat) (by simp[zo];omega);obtain⟨w1,w2⟩:=KO _ hw;simp only[zo,ay,az]at e;simp only[e,VV,seval];refine⟨by omega,?_⟩;refine tail [⟨1,w,0⟩] (k1+1) w1 (by simp) (by simp) (by simp[aM];omega) (by omega) ?_;simp only[ay,az,It.cells]
  repeat first | exact .nil | refine .cons (.refl _) ?_ | refine .cons (.lit _ _) ?_ | refine .cons (.forget _) ?_
 ·have h:f0≠[]:=by rintro rfl;simp at h
  refine tail f0 k1 f1 h (by omega) (by omega) (by omega) ?_
  repeat' constructor
theorem TU(S:ag)(a:Nat)(ha:a<S.length)(l:List Int)(k:Nat)(hk:k<2^48)(loc:ag):
  PC prog 64 [.ptr a 0] (lA S a l k++loc) (fun r σ'=>∃ (e:En) (k':Nat),r=.agg e.cells∧zK e∧(k≤k'∧k'≤k+200)∧σ'=lA S a l k'++loc):=by
 rw[ow ha];refine(TT (S++loc) a (by rw[List.length_append];omega) l k hk).mono ?_;rintro r σ' ⟨e,k',h1,h2,h3,h4⟩;exact⟨e,k',h1,h2,h3,by rw[h4,ow ha]⟩
set_option maxHeartbeats 2000000 in
set_option maxRecDepth 20000 in
theorem XO(S:ag)(a:Nat)(ha:a<S.length)(l:List Int)(k:Nat)(hk:k<2^47):
  PC prog 20 [.ptr a 0] (lA S a l k) (fun r σ'=>∃ (o:aJ) (k':Nat),r=.agg o.cells∧BC o∧(k≤k'∧k'≤k+300)∧σ'=lA S a l k'):=by
 refine PC.intro func20 c20 fun aQ cz=>?_;simp only[p20,SS,seval];refine bA.cut fun R hR=>?_;simp only[cF,VV,seval];refine hR _ ?_;clear hR R;refine bA.cut fun R hR=>?_;simp only[cF,VV,seval];refine cG (hZ S a ha l k (by omega) 9 (by decide) (by decide) _) rfl ?_;rintro _ _ ⟨v1,rfl,Wp,rfl⟩;have w1:IntKind.i64.wrap (1+v1)=1+v1:=IntWalk.i64_in _ (by omega);simp only[w1,VV,seval];refine cG (hZ S a ha l (k+1) (by omega) 3 (by decide) (by decide) _) rfl ?_;rintro _ _ ⟨v2,rfl,hv2,rfl⟩;simp only[VV,seval];refine cG (hZ S a ha l (k+1+1) (by omega) 3 (by decide) (by decide) _) rfl ?_;rintro _ _ ⟨v3,rfl,hv3,rfl⟩;have w3:IntKind.i64.wrap (1+v3)=1+v3:=IntWalk.i64_in _ (by omega);simp only[w3,VV,seval];refine cG (TU S a ha l (k+1+1+1) (by omega) _) rfl ?_;rintro _ _ ⟨e,k1,rfl,hE,qA,rfl⟩;simp only[En.cells,cF,nb,BP,VV,seval];refine hR _ (bA.ej (fr':=[.ptr a 0,.u,.ptr S.length 0,.ptr (S.length+1) 0,.u,.u,.u,.u,.u,.u,.u,.u,.u,.u,.u,.u,.u,.u,.u,.u,.u,.u,.u,.u,.u,.u,.u,.u,.u,.u,.u,.u,.u,.u,.u,.u,.u,.u,.u,.u,.u,.u,.u,.u,.u,.u,.u,.u,.u,.u,.u,.u]) ?_ (by repeat' constructor));clear hR R;refine bA.cut fun R hR=>?_;simp only[cF,VV,seval];refine cG (hZ S a ha l k1 (by omega) 3 (by decide) (by decide) _) rfl ?_;rintro _ _ ⟨x1,rfl,tC,rfl⟩;simp only[VV,seval];refine cG (hZ S a ha l (k1+1) (by omega) 3 (by decide) (by decide) _) rfl ?_;rintro _ _ ⟨x2,rfl,BR,rfl⟩;simp only[VV,seval];refine cG (hZ S a ha l (k1+1+1) (by omega) 3 (by decide) (by decide) _) rfl ?_;rintro _ _ ⟨x3,rfl,ZF,rfl⟩;simp only[cF,V.pure,VV,seval];refine hR _ (bA.ej (fr':=[.ptr a 0,.u,.ptr S.length 0,.ptr (S.length+1) 0,.own (S.length+2) 0,.u,.u,.u,.u,.u,.u,.u,.u,.u,.u,.u,.u,.u,.u,.u,.u,.u,.u,.u,.u,.u,.u,.u,.u,.u,.u,.u,.u,.u,.u,.u,.u,.u,.u,.u,.u,.u,.u,.u,.u,.u,.u,.u,.u,.u,.u,.u]) ?_ (by repeat' constructor));clear hR R;refine bA.cut fun R hR=>?_
 have tail:∀ (v:List Int) {fr:List V},(∃ x y z:Int,v=[x,y,z]∧(0≤x∧x<3)∧(0≤y∧y<3)∧(0≤z∧z<3))→v.getD v2.toNat 0=v3→pH fr [.ptr a 0,.u,.ptr S.length 0,.ptr (S.length+1) 0,.own (S.length+2) 0,.u,.u,.u,.u,.u,.u,.u,.u,.u,.u,.u,.u,.u,.u,.u,.u,.u,.u,.u,.u,.u,.u,.u,.u,.u,.u,.u,.u,.u,.u,.u,.u,.u,.u,.u,.u,.u,.u,.u,.u,.u,.u,.u,.u,.u,.u,.u] →
   R ⟨fr,lA S a l (k1+1+1+1)++[.box 29 [.i .i64 0,.i .i64 0,.i .i64 0,.i .i64 0,.nil,.nil,.s [],.s [],.s [],.s [],.i .i64 0,.i .i64 0,.nil],
    .box 29 [.i .i64 (1+v1),.i .i64 v2,.i .i64 (1+v3),.i .i64 1,.sl 3 (e.source.map It.cells),.sl 3 (e.target.map It.cells),.s e.bS,.s e.next,.s e.cQ,.s e.cn,.i .i64 e.created,.i .i64 e.origin,.nil],
    .row 3 1 8 0 false (v.map bj)]⟩:=by
  intro v fr hv ZH hc;obtain⟨hO1,hO2⟩:=aan hE (t:=1+v1) (f:=v2) (n:=1+v3) (k:=0) (v:=v) (by omega) hv2 (by omega) hv (by rw[ZH];omega);refine hR _ (bA.ej ?_ hc);clear hR R hc;refine bA.cut fun R hR=>?_;simp only[cF,VV,seval]
  refine OL (zs:=[.sl 1 (v.map bj)]) (σ1:=lA S a l (k1+1+1+1)++[.box 29 [.i .i64 0,.i .i64 0,.i .i64 0,.i .i64 0,.nil,.nil,.s [],.s [],.s [],.s [],.i .i64 0,.i .i64 0,.nil],
    .box 29 [.i .i64 (1+v1),.i .i64 v2,.i .i64 (1+v3),.i .i64 1,.sl 3 (e.source.map It.cells),.sl 3 (e.target.map It.cells),.s e.bS,.s e.next,.s e.cQ,.s e.cn,.i .i64 e.created,.i .i64 e.origin,.nil],
    .row 3 1 8 0 true (v.map bj)]) ?_ (w9 v _) ?_
  ·refine(Wk.fz (S.length+2) (E:=3) (sz:=1) (by':=8) (g:=0) (sh:=false) (rows:=v.map bj) (by rw[nb];rfl)).trans ?_;rw[BP];simp only[ay,az,ev,aE,aT,dU,fb,fz,kc,and_self,if_true];exact Wk.refl _ _
  simp only[nb,BP,VV,seval];refine hR _ (bA.ej (fr':=[.ptr a 0,.u,.ptr S.length 0,.ptr (S.length+1) 0,.u,.u,.u,.u,.u,.u,.u,.u,.u,.u,.u,.u,.u,.u,.u,.u,.u,.u,.u,.u,.u,.u,.u,.u,.u,.u,.u,.u,.u,.u,.u,.u,.u,.u,.u,.u,.u,.u,.u,.u,.u,.u,.u,.u,.u,.u,.u,.u]) (aj ?_) (by repeat' constructor));clear hR R;simp only[cF,VV,seval];refine cG (hZ S a ha l (k1+1+1+1) (by omega) 3 (by decide) (by decide) _) rfl ?_;rintro _ _ ⟨u,rfl,hu,rfl⟩;simp only[Oe,nb,Kf,BP,VV,seval]
  have fin:∀ (o:aJ) {fr:List V} {loc:ag} {cs:List V},BC o→kO ⟨fr,lA S a l (k1+1+1+1+1)++loc⟩ [.c 2 (some 13)]=some [.agg cs]→pH cs o.cells→BI prog S.length [.c 2 (some 13)] (fun r σ'=>∃ (o:aJ) (k':Nat),r=.agg o.cells∧BC o∧(k≤k'∧k'≤k+300)∧σ'=lA S a l k') .ret ⟨fr,lA S a l (k1+1+1+1+1)++loc⟩:=by
   intro o fr loc cs hO hr qV;refine ed (xs':=[.agg o.cells]) (.inr rfl) hr ?_ rfl ⟨o,k1+1+1+1+1,rfl,hO,by omega,rfl⟩;have:=Wk.Fb (P:=prog) (xs:=[.agg o.cells]) (loc:=loc) (nW (k':=k1+1+1+1+1) aQ) (by simp only[aJ.cells,bc.cells,En.cells,aq,ak,cF,LW]);rw[cF]at this;exact(Wk.ej (.cons (Cv.ir qV) .nil)).trans this
  refine⟨fun h=>?_,fun h=>?_⟩
  ·refine fin _ hO2 (by simp only[kO,sj,Oe,VV,seval];rfl) ?_;simp only[aJ.cells,bc.cells,En.cells,gC,aq,ak,az]
   repeat first | exact .nil | refine .cons (.refl _) ?_ | refine .cons (.nil _) ?_
  ·refine fin _ hO1 (by simp only[kO,sj,Oe,VV,seval];rfl) ?_;simp only[aJ.cells,bc.cells,En.cells,aq,ak]
   repeat first | exact .nil | refine .cons (.refl _) ?_ | refine .cons (.nil _) ?_
 have hw3:IntKind.i64.wrap (1+v3 - 1)=v3:=by rw[IntWalk.i64_in _ (by omega)];omega
 have hv2':v2=0∨v2=1∨v2=2:=by omega
 rcases hv2' with rfl | rfl | rfl
 ·simp only[hw3,cF,nb,BP,V.pure,VV,Nat.reduceAdd,Int.reduceToNat,reduceIte];exact⟨by decide,by decide,tail [v3,x2,x3] ⟨v3,x2,x3,rfl,hv3,BR,ZF⟩ rfl (by repeat' constructor)⟩
 ·simp only[hw3,cF,nb,BP,V.pure,VV,Nat.reduceAdd,Int.reduceToNat,reduceIte];exact⟨by decide,by decide,tail [x1,v3,x3] ⟨x1,v3,x3,rfl,tC,hv3,ZF⟩ rfl (by repeat' constructor)⟩
 ·simp only[hw3,cF,nb,BP,V.pure,VV,Nat.reduceAdd,Int.reduceToNat,reduceIte];exact⟨by decide,by decide,tail [x1,x2,v3] ⟨x1,x2,v3,rfl,tC,BR,hv3⟩ rfl (by repeat' constructor)⟩
theorem Cm:Ti prog 29 13 184:=nR (by kernel_rfl)
def dR(g:Nat)(sh:Bool)(f:List aJ):Ob:=.row 29 13 184 g sh (f.map aJ.cells)
theorem PI{o:aJ}(h:cw o=0):cy (looked o)=0:=by
 simp only[cw]at h
 repeat' split at h
 all_goals first | (simp at h;done) | exact h
theorem Ll{o:aJ}(h:o.small):(asked o.entry).small :=
 ⟨h.entry.source,h.entry.gY,h.entry.source,h.entry.gY,h.entry.bS,h.entry.next,fun x hx=>h.entry.ids x (by
  simp only[asked,List.mem_append]at hx ⊢;rcases hx with hx | hx<;>exact .inl hx)⟩
theorem uv(o:aJ)(hs:o.small)(σ:ag):PC prog 193 [.agg o.cells] σ (fun r σ'=>r=.s (bE o)∧σ'=σ):=by
 refine PC.intro func193 ajL fun aQ cz=>aj ?_;simp only[acW,SS,seval];simp only[aJ.cells,bc.cells,En.cells,VV,seval];refine ai (gp o hs _) rfl ?_;simp only[VV,seval];refine⟨fun h=>?_,fun h=>?_⟩
 ·have h:cw o≠0:=by simpa using h
  refine aG aQ (.inr rfl) (by simp only[RS,seval];rfl) (by simp only[LW]) ⟨?_,rfl⟩;simp only[bE,h,ne_eq,not_false_eq_true,if_true];rfl
 ·have h:cw o=0:=by simpa using h
  refine ai (ux o.entry _) rfl ?_;simp only[VV,seval];refine ai (pM (asked o.entry) (Ll hs) _) rfl ?_;simp only[VV,seval];refine aG aQ (.inr rfl) (by simp only[RS,seval];rfl) (by simp only[LW]) ⟨?_,rfl⟩;rw[J7 h (PI h)];rfl
end Go.Proofs.Tryz
namespace Go.Proofs.Tryz
open Go Go.Pm Go.Bt Go.RowKit
set_option maxHeartbeats 1000000 in
theorem Zg{σ:ag}{K:Exit→St→Prop}(m:List En)(hm:wP m)(hs:∀ e∈m,e.small):∀ (rest pre:List En) (last:List UInt8),m=pre++rest→(pre≠[]→∀ y∈rest,fS last (cf y)<0) →
  ((∀ j0 j1 j2 j3 j4 j5 j6 j7 j8 j9 cT cS cX cR cN cM cL cW df dn dx dy dD dI dH dG dX ez eA eH eW fg,K (.exit 0) ⟨[j0,j1,j2,j3,j4,j5,j6,j7,j8,j9,cT,cS,cX,cR,cN,cM,cL,cW,df,dn,dx,dy,dD,dI,dH,dG,dX,ez,eA,eH,eW,fg],σ⟩)) →
  fO σ.length prog NS K (rest.length+1) ⟨[.sl 8 (m.map En.cells),.u,.u,.s last,.u,.u,.u,.u,.u,.u,.i .i64 m.length,.i .i64 pre.length,.u,.u,.u,.u,.u,.u,.u,.u,.u,.u,.u,.u,.u,.u,.u,.u,.u,.u,.u,.u],σ⟩:=by
 intro rest
 induction rest with
 | nil =>
  intro pre last he fk h1;have he:m=pre:=by simpa using he
  subst he;refine ax fun R hR=>?_;simp only[NS,VV,seval];exact⟨fun h=>by simp at h,fun _=>h1 ..⟩
 | cons x rest ih =>
  intro pre last he fk h1;have hl:=hm.len;have hlp:m.length=pre.length+(rest.length+1):=by rw[he];simp
  have hw:IntKind.i64.wrap ((pre.length:Int)+1)=(((pre++[x]).length:Nat):Int):=by
   rw[aV (by omega)];simp
  have hd:decide ((pre.length:Int)<(m.length:Int))=true:=by simp;omega
  have cP:(m.map En.cells).getD pre.length []=x.cells:=by rw[he];simp[List.getD_eq_getElem?_getD]
  have hx:x∈m:=by rw[he];simp
  have fD:=hm.ok x hx;refine ax fun R hR=>?_;simp only[NS,hd,cP,an,List.length_map,VV,seval];have ht:x.cells.take 8=x.cells:=by simp[En.cells]
  have hk:dL x=cf x:=by simp[dL,fD]
  have iQ:cf x≠[]:=by simp[cf]
  refine⟨⟨by omega,by omega⟩,by simp[En.cells],ai (pM x (hs x hx) _) (by simp only[ht,VV,seval]) ?_⟩
  have kR:(cf x==[]||decide ((0:Int)<(pre.length:Int))&&(Op.bytesLess (cf x) last||cf x==last))=false:=by
   have e1:(cf x==[])=false:=by simpa using iQ
   rw[e1,kN]
   by_cases hp:pre=[]
   ·simp[hp]
   ·have h2:=fk hp x (by simp);have h3:=eI.mI (cf x) last;have e2:Op.bytesLess (cf x) last=false:=by rw[gL];simp;omega
    have e3:(cf x==last)=false:=by
     simp only[beq_eq_false_iff_ne];intro h;rw[← h,eI.self]at h2;omega
    rw[e2,e3];simp
  simp only[hk,kR,hw,VV,seval];have Z8:=hm.asc;rw[he]at Z8;simp only[List.map_append,ay,KA,fy,ck]at Z8;refine hR _ (aW (fr':=[.sl 8 (m.map En.cells),.u,.u,.s (cf x),.u,.u,.u,.u,.u,.u,.i .i64 m.length,.i .i64 (pre++[x]).length,.u,.u,.u,.u,.u,.u,.u,.u,.u,.u,.u,.u,.u,.u,.u,.u,.u,.u,.u,.u]) (by repeat' constructor) (ih (pre++[x]) (cf x) (by rw[he];simp) (fun _ y hy=>Z8.2.1.1 (cf y) (List.mem_map_of_mem hy)) h1))
theorem L6(m:List En)(hm:wP m)(hs:∀ e∈m,e.small)(σ:ag):PC prog 71 [.sl 8 (m.map En.cells)] σ (fun r σ'=>r=.b true∧σ'=σ):=by
 refine PC.intro func71 c71 fun aQ cz=>aj ?_;have hl:=hm.len;have hd:decide ((1024:Int)<(m.length:Int))=false:=by simp;omega
 simp only[p71,SS,seval];simp only[List.length_map,hd,VV,seval];refine bA.aW (fr':=[.sl 8 (m.map En.cells),.u,.u,.s [],.u,.u,.u,.u,.u,.u,.i .i64 m.length,.i .i64 (([]:List En).length:Nat),.u,.u,.u,.u,.u,.u,.u,.u,.u,.u,.u,.u,.u,.u,.u,.u,.u,.u,.u,.u]) ?_ (m.length+1) (Zg m hm hs m [] [] rfl (fun h=>(h rfl).elim) ?_)
 ·repeat' constructor
 intros;simp only[VV,seval];exact aO (.inr rfl) (by simp only[RS,seval];rfl) ⟨rfl,rfl⟩
def below(m:List En)(k:List UInt8):Nat:=(m.takeWhile fun e=>Op.bytesLess (cf e) k).length
set_option maxHeartbeats 1000000 in
theorem Zf{σ:ag}{K:Exit→St→Prop}(m:List En)(hm:wP m)(hs:∀ e∈m,e.small)(k:List UInt8):∀ (rest pre:List En),m=pre++rest →
  ((∀ j0 j1 j2 j3 j4 j6 j7 j8 j9 cT cS cX cR cN cM cL cW df dn dx dy,K (.exit 0) ⟨[j0,j1,j2,j3,j4,.i .i64 (pre.length+below rest k:Nat),j6,j7,j8,j9,cT,cS,cX,cR,cN,cM,cL,cW,df,dn,dx,dy],σ⟩)) →
  fO σ.length prog NR K (rest.length+1) ⟨[.sl 8 (m.map En.cells),.s k,.u,.u,.u,.i .i64 pre.length,.u,.u,.u,.u,.u,.u,.u,.u,.u,.u,.u,.u,.u,.u,.u,.u],σ⟩:=by
 intro rest
 induction rest with
 | nil =>
  intro pre he h1;have he:m=pre:=by simpa using he
  subst he;refine ax fun R hR=>?_;simp only[below,List.takeWhile_nil,ah,bC]at h1;have hd:decide ((m.length:Int)<(m.length:Int))=false:=by simp
  simp only[NR,List.length_map,hd,VV,seval];refine⟨fun h=>by simp at h,.u,fun h=>by simp at h,?_⟩;refine bg (c:=false) (v:=.s []) (by simp only[VV,seval]<;>rfl) (fun h=>by simp at h) rfl ?_;simp only[VV,seval];exact h1 ..
 | cons x rest ih =>
  intro pre he h1;have hl:=hm.len;have hlp:m.length=pre.length+(rest.length+1):=by rw[he];simp
  have hw:IntKind.i64.wrap ((pre.length:Int)+1)=(((pre++[x]).length:Nat):Int):=by
   rw[aV (by omega)];simp
  have hd:decide ((pre.length:Int)<(m.length:Int))=true:=by simp;omega
  have cP:(m.map En.cells).getD pre.length []=x.cells:=by rw[he];simp[List.getD_eq_getElem?_getD]
  have hx:x∈m:=by rw[he];simp
  have fD:=hm.ok x hx;have ht:x.cells.take 8=x.cells:=by simp[En.cells]
  have hk:dL x=cf x:=by simp[dL,fD]
  refine ax fun R hR=>?_;simp only[NR,hd,cP,ht,an,List.length_map,VV,seval];refine⟨⟨by omega,by omega⟩,.agg x.cells,⟨rfl,by simp[En.cells]⟩,?_⟩;refine bg (c:=true) (by simp only[VV,seval]<;>rfl) (fun _=>pM x (hs x hx) _) rfl ?_;simp only[hk,hw,VV,seval];refine⟨fun h=>hR _ (aW (fr':=[.sl 8 (m.map En.cells),.s k,.u,.u,.u,.i .i64 (pre++[x]).length,.u,.u,.u,.u,.u,.u,.u,.u,.u,.u,.u,.u,.u,.u,.u,.u]) (by repeat' constructor) (ih (pre++[x]) (by rw[he];simp) ?_)),fun h=>?_⟩
  ·have hb:(pre++[x]).length+below rest k=pre.length+below (x::rest) k:=by
    simp only[below,eg,h,if_true,ab,List.length_append,ah];omega
   rw[hb];exact h1
  ·have hb:pre.length+below (x::rest) k=pre.length:=by
    simp only[below,eg,h,aD,if_false,ah,bC]
   rw[hb]at h1;exact h1 ..
theorem L9(m:List En)(hm:wP m)(hs:∀ e∈m,e.small)(k:List UInt8)(σ:ag):PC prog 72 [.sl 8 (m.map En.cells),.s k] σ (fun r σ'=>r=.i .i64 (below m k:Nat)∧σ'=σ):=by
 refine PC.intro func72 c72 fun aQ cz=>aj ?_;simp only[p72,SS,seval];simp only[VV,seval];refine bA.aW (fr':=[.sl 8 (m.map En.cells),.s k,.u,.u,.u,.i .i64 (([]:List En).length:Nat),.u,.u,.u,.u,.u,.u,.u,.u,.u,.u,.u,.u,.u,.u,.u,.u]) ?_ (m.length+1) (Zf m hm hs k m [] rfl ?_)
 ·repeat' constructor
 intros;simp only[ah,aK,VV,seval];exact aO (.inr rfl) (by simp only[RS,seval];rfl) ⟨rfl,rfl⟩
theorem Uk(m:List En)(k:List UInt8):below m k≤m.length:=akW (akU _)
theorem Bz(k:List UInt8):∀ {m:List En},KA (m.map cf)→below m k=ka k (m.map cf)
 | [],_=>rfl
 | x::r,h=>by
  simp only[ay,KA,ck]at h;have ih:=Bz k (m:=r) h.2;cases hb:Op.bytesLess (cf x) k with
  | true =>
   have h2:decide (cf x<k)=true:=by rw[gL]at hb;simpa[qO]using hb
   simp only[below,eg,hb,if_true,ab,ka,ay,Uz,h2]at ih ⊢;rw[ih]
  | false =>
   have h2:¬ fS (cf x) k<0:=by rw[gL]at hb;simpa using hb
   simp only[below,eg,hb,aD,if_false,ah];refine(we.2 fun y hy=>?_).symm;simp only[decide_eq_true_eq,qO];rcases aU.1 hy with rfl | hy
   ·exact h2
   ·have h3:=h.1 y hy;intro h4;exact h2 (jA h3 h4)
set_option maxHeartbeats 1000000 in
theorem FJ(m:List En)(hm:wP m)(hs:∀ e∈m,e.small)(k:List UInt8)(σ:ag):PC prog 32 [.sl 8 (m.map En.cells),.s k] σ (fun r σ'=>r=.i .i64 (find m k)∧σ'=σ):=by
 refine PC.intro func32 c32 fun aQ cz=>aj ?_;have hle:=Uk m k;have hl:=hm.len;have hbc:=Bz k hm.asc
 have hf:find m k=if below m k=m.length∨(m.map cf).getD (below m k) []≠k then -1 else(below m k:Int):=by
  simp only[find,hm.keys,hbc,List.length_map,lj,false_or]
 rw[hf];simp only[p32,SS,seval];simp only[VV,seval];refine ai (L6 m hm hs _) rfl ?_;simp only[VV,seval];refine ai (L9 m hm hs k _) rfl ?_
 by_cases h:below m k<m.length
 ·have hx:=cK h;have cP:(m.map En.cells).getD (below m k) []=m[below m k].cells:=by simp[List.getD_eq_getElem?_getD,h]
  have hd:decide ((below m k:Int)<(m.length:Int))=true:=by simp;omega
  have ht:m[below m k].cells.take 8=m[below m k].cells:=by simp[En.cells]
  have hk:dL m[below m k]=cf m[below m k]:=by simp[dL,hm.ok _ hx]
  have hg:(m.map cf).getD (below m k) []=cf m[below m k]:=by simp[List.getD_eq_getElem?_getD,h]
  simp only[List.length_map,hd,cP,ht,an,VV,seval];refine⟨⟨by omega,by omega⟩,.agg m[below m k].cells,⟨rfl,by simp[En.cells]⟩,?_⟩;refine bg (c:=true) (by simp only[VV,seval]<;>rfl) (fun _=>pM m[below m k] (hs _ hx) _) rfl ?_;simp only[hk,hg,VV,seval];refine⟨fun h2=>?_,fun h2=>?_⟩
  ·have h2:cf m[below m k]=k:=by simpa using h2
   rw[if_neg (by rw[h2];simp;omega)];exact aO (.inr rfl) (by simp only[RS,seval];rfl) ⟨rfl,rfl⟩
  ·have h2:cf m[below m k]≠k:=by simpa using h2
   rw[if_pos (.inr h2)];exact aO (.inr rfl) (by simp only[RS,seval];rfl) ⟨rfl,rfl⟩
 ·have hd:decide ((below m k:Int)<(m.length:Int))=false:=by simp;omega
  rw[if_pos (.inl (by omega))];simp only[List.length_map,hd,VV,seval];refine⟨fun h=>by simp at h,.u,fun h=>by simp at h,?_⟩;refine bg (c:=false) (v:=.s []) (by simp only[VV,seval]<;>rfl) (fun h=>by simp at h) rfl ?_;simp only[VV,seval];exact aO (.inr rfl) (by simp only[RS,seval];rfl) ⟨rfl,rfl⟩
end Go.Proofs.Tryz

/- A part of the proof of the statement of the last text of this claim; its conditions stand there. -/
import Derived.Test.YtkkjfegefckehaaGreatDoorB42
import Derived.Test.YtkkjfegefckehaaGreatDoorK1
import Derived.Test.YtkkjfegefckehaaGreatDoorK2
set_option linter.all false

namespace Go.Proofs.Tryz
open Go Go.Pm Go.Bt Go.RowKit
open Go.Pm.V(u)
theorem qk{l:List Int}(hl:l.length<2^63)(h:decide (160<nq [l])=false):l.length≤160:=by
 have e:nq [l]=l.length:=by
  simp only[nq,bd,dB,wo];exact ll hl
 rw[e]at h;simp at h;omega
def gy(o:cc):Ob:=.box 36 o.cells
set_option maxRecDepth 4000 in
set_option maxHeartbeats 1000000 in
theorem Vy{σ:ag}{K:Exit→St→Prop}(aQ:bP σ)(s t:Int)(o:cc)(hlen:o.ops.length<2^39)(hO:∀ (pre:List aJ) (x:aJ) (rest:List aJ),o.ops=pre++x::rest→x.aA.aS=o.number→x.aA.number=(sr o.number pre:Int)+1∧je x.seen o.number=sr o.number pre):∀ (rest pre:List aJ),o.ops=pre++rest →
  (∀ j0 j3 j4 j5 j6 j8 j9 cT cS cX cR cN cM cL cW df dn dx dy dD dI dH dG dX ez eA eH eW fg fi ft fw fG fM fL fK fX gi gF gR gQ il ix iV iU iT iS iR jo jn jm jK jY kx ku kt kH lB l9 mD nr nH nG nF pw pt pq po pn pk qD tH uT uS uR uQ uP uO uN uM uL uK uJ xu xt xr xq xp xo xn xl xk xj xi xh xg zb nZ nY qm ql rh sL sK sJ sI sH sG sF sE sD xM xL xK xJ xH xG xF xE xD xC xB xA xz xy xx xw Aw Av Au As Ar,K (.exit 0) ⟨[j0,.i .i64 s,.i .i64 t,j3,j4,j5,j6,.ptr σ.length 0,j8,j9,cT,cS,cX,cR,cN,cM,cL,cW,df,dn,dx,dy,dD,dI,dH,dG,dX,ez,eA,eH,eW,fg,fi,ft,fw,fG,fM,fL,fK,fX,gi,gF,gR,gQ,il,ix,iV,iU,iT,iS,iR,jo,jn,jm,jK,jY,kx,ku,kt,kH,lB,l9,mD,nr,nH,nG,nF,pw,pt,pq,po,pn,pk,qD,tH,uT,uS,uR,uQ,uP,uO,uN,uM,uL,uK,uJ,xu,xt,xr,xq,xp,xo,xn,xl,xk,xj,xi,xh,xg,zb,nZ,nY,qm,ql,rh,sL,sK,sJ,sI,sH,sG,sF,sE,sD,xM,xL,xK,xJ,xH,xG,xF,xE,xD,xC,xB,xA,xz,xy,xx,xw,Aw,Av,Au,As,Ar],σ++[gy o]⟩) →
  fO σ.length prog Vf K (rest.length+1) ⟨[u,.i .i64 s,.i .i64 t,u,u,u,u,.ptr σ.length 0,u,.i .i64 (sr o.number pre:Nat),u,u,u,u,u,u,u,u,u,u,u,u,u,u,u,u,u,u,u,u,u,u,.sl 13 (o.ops.map aJ.cells),.i .i64 o.ops.length,.i .i64 pre.length,u,u,u,u,u,u,u,u,u,u,u,u,u,u,u,u,u,u,u,u,u,u,u,u,u,u,u,u,u,u,u,u,u,u,u,u,u,u,u,u,u,u,u,u,u,u,u,u,u,u,u,u,u,u,u,u,u,u,u,u,u,u,u,u,u,u,u,u,u,u,u,u,u,u,u,u,u,u,u,u,u,u,u,u,u,u,u,u,u,u,u,u,u,u,u,u,u,u,u,u],σ++[gy o]⟩:=by
 intro rest
 induction rest with
 | nil =>
  intro pre he h1;have he:o.ops=pre:=by simpa using he
  refine ax fun R hR=>?_;simp only[Vf,he,VV,seval];exact⟨fun h=>by simp at h,fun _=>h1 ..⟩
 | cons x rest ih =>
  intro pre he h1;have hl:o.ops.length=pre.length+(rest.length+1):=by rw[he];simp
  have hw:IntKind.i64.wrap ((pre.length:Int)+1)=(((pre++[x]).length:Nat):Int):=by
   rw[aV (by omega)];simp
  have dY:(List.map aJ.cells o.ops).getD pre.length []=x.cells:=by rw[he];exact ki
  have hd:decide ((pre.length:Int)<(o.ops.length:Int))=true:=by simp;omega
  have Oy:sr o.number pre≤pre.length:=gS _ _;have Ig:=PB o.number pre x;refine ax fun R hR=>?_;simp only[Vf,gy,cc.cells,an,dY,hd,hw,List.length_map,aJ.cells,bc.cells,En.cells,VV,seval];refine⟨⟨by omega,by omega⟩,fun h=>?_,fun h=>?_⟩
  ·have h:x.aA.aS=o.number:=by simpa using h
   obtain⟨a1,a2⟩:=hO pre x rest he h;have w1:IntKind.i64.wrap ((sr o.number pre:Int)+1)=((sr o.number pre+1:Nat):Int):=aV (by omega);have w2:IntKind.i64.wrap (((sr o.number pre+1:Nat):Int) - 1)=(sr o.number pre:Int):=by rw[IntWalk.i64_in _ (by omega)];omega
   have b1:(x.aA.number != ((sr o.number pre+1:Nat):Int))=false:=by simp;omega
   rw[if_pos h]at Ig;simp only[w1,b1,seval];refine bg (by simp only[VV,seval]<;>rfl) (fun _=>iY x.seen o.number _) rfl ?_;simp only[a2,bne_self_eq_false,w2,hw,VV,seval];refine hR _ (cH [gy o] [_] (bU aQ (by simp only[gy,cc.cells,bV,bD,false_imp_iff,implies_true,LW])) ?_ ?_ (ih (pre++[x]) (by rw[he];simp) h1))
   ·rw[Ig]
    repeat' constructor
   ·simp only[LW,ab,ah,aK];omega
  ·have h:¬ x.aA.aS=o.number:=by simpa using h
   rw[if_neg h]at Ig;refine hR _ (cH [gy o] [_] (bU aQ (by simp only[gy,cc.cells,bV,bD,false_imp_iff,implies_true,LW])) ?_ ?_ (ih (pre++[x]) (by rw[he];simp) h1))
   ·rw[Ig]
    repeat' constructor
   ·simp only[LW,ab,ah,aK];omega
def Mk(x:aJ):Ob:=.box 29 x.cells
theorem cl3{σ:ag}(aQ:bP σ)(o p:cc)(x:aJ):bP (σ++[gy o,gy p,Mk x]) :=
 bU aQ (by simp only[gy,Mk,cc.cells,aJ.cells,bc.cells,En.cells,aq,ak,bV,bD,false_imp_iff,implies_true,LW])
set_option maxRecDepth 4000 in
set_option maxHeartbeats 1000000 in
theorem Vx{σ:ag}{K:Exit→St→Prop}(aQ:bP σ)(s t:Int)(o p:cc)(x:aJ)(hx:x.small)(hlen:o.ops.length<2^39)(hO:∀ y∈o.ops,y.small∧y.aA.time<x.aA.time):∀ (rest pre:List aJ),o.ops=pre++rest →
  (∀ j0 j3 j4 j5 j6 j7 j8 j9 cT cS cR cN cM cL cW df dn dx dy dD dI dH dG dX ez eA eH eW fg fi ft fw fG fM fL fK fX gi gF gR gQ il ix iV iU iT iS iR jo jn jm jK jY kx ku kt kH lB l9 mD nr nH nG nF pw pt pq po pn pk qD tH uT uS uR uQ uP uO uN uM uL uK uJ xu xt xr xq xp xo xn xl xk xj xi xh xg zb nZ nY qm ql rh sL sK sJ sI sH sG sF sE sD xM xL xK xJ xH xG xF xE xD xC xB xA xz xy xx xw Aw Av Au As Ar,K (.exit 2) ⟨[j0,.i .i64 s,.i .i64 t,j3,j4,j5,j6,j7,j8,j9,cT,cS,.ptr (σ.length+1) 0,cR,cN,cM,cL,cW,df,dn,dx,dy,dD,dI,dH,dG,dX,ez,eA,eH,eW,fg,fi,ft,fw,fG,fM,fL,fK,fX,gi,gF,gR,gQ,il,ix,iV,iU,iT,iS,iR,jo,jn,jm,jK,jY,kx,ku,kt,kH,lB,l9,mD,nr,nH,nG,nF,pw,pt,pq,po,pn,pk,qD,tH,uT,uS,uR,uQ,uP,uO,uN,uM,uL,uK,uJ,xu,xt,xr,xq,xp,xo,xn,xl,xk,xj,xi,xh,xg,zb,nZ,nY,qm,ql,rh,sL,sK,sJ,sI,sH,sG,sF,sE,sD,xM,xL,xK,xJ,xH,xG,xF,xE,xD,xC,xB,xA,xz,xy,xx,xw,Aw,Av,Au,As,Ar],σ++[gy o,gy p,Mk x]⟩) →
  fO σ.length prog Ve K (rest.length+1) ⟨[u,.i .i64 s,.i .i64 t,u,u,u,u,u,u,u,u,u,.ptr (σ.length+1) 0,.ptr (σ.length+2) 0,u,u,u,u,u,u,u,u,u,u,u,u,u,u,u,u,u,u,u,u,u,u,u,u,u,u,u,u,u,u,u,u,u,u,u,u,u,u,u,u,u,u,u,u,u,u,u,u,u,u,u,u,u,u,u,u,u,u,u,u,u,u,u,u,u,u,u,u,u,u,u,u,u,u,u,u,u,u,.sl 13 (o.ops.map aJ.cells),.i .i64 o.ops.length,.i .i64 pre.length,u,u,u,u,u,u,u,u,u,u,u,u,u,u,u,u,u,u,u,u,u,u,u,u,u,u,u,u,u,u,u,u,u,u,u,u,u,u,u,u],σ++[gy o,gy p,Mk x]⟩:=by
 intro rest
 induction rest with
 | nil =>
  intro pre he h1;have he:o.ops=pre:=by simpa using he
  refine ax fun R hR=>?_;simp only[Ve,he,VV,seval];exact⟨fun h=>by simp at h,fun _=>h1 ..⟩
 | cons y rest ih =>
  intro pre he h1;have hl:o.ops.length=pre.length+(rest.length+1):=by rw[he];simp
  have hw:IntKind.i64.wrap ((pre.length:Int)+1)=(((pre++[y]).length:Nat):Int):=by
   rw[aV (by omega)];simp
  have dY:(List.map aJ.cells o.ops).getD pre.length []=y.cells:=by rw[he];exact ki
  have hd:decide ((pre.length:Int)<(o.ops.length:Int))=true:=by simp;omega
  obtain⟨hy,ht⟩:=hO y (by rw[he];simp);have b1:decide (x.aA.time≤y.aA.time)=false:=by simp;omega
  have hwn:=CM x y hx hy;have e1:=Fs ht;simp only[aJ.cells,bc.cells,En.cells,aq,ak]at hwn;refine ax fun R hR=>?_;simp only[Ve,gy,Mk,cc.cells,an,dY,hd,b1,List.length_map,aJ.cells,bc.cells,En.cells,VV,seval];refine⟨⟨by omega,by omega⟩,?_⟩;refine bg (by simp only[VV,seval]<;>rfl) (fun _=>hwn _) rfl ?_;simp only[e1,hw,VV,seval];refine hR _ (cH [gy o,gy p,Mk x] [_] (cl3 aQ o p x) ?_ ?_ (ih (pre++[y]) (by rw[he];simp) h1))
  ·repeat' constructor
  ·simp only[LW,ab,ah,aK];omega
theorem TA{m n:Int}{N:Nat}{o:cc}(h:Good m n N o):∀ (pre:List aJ) (x:aJ) (rest:List aJ),o.ops=pre++x::rest→x.aA.aS=o.number→x.aA.number=(sr o.number pre:Int)+1∧je x.seen o.number=sr o.number pre:=by
 intro pre x rest he hx;rcases h with⟨arr,k,hu,rfl⟩ | ⟨arr,tl,hu,h3,h4,rfl⟩
 ·exact YQ hu.base he hx
 ·simp[oL]at he
theorem Fh{m n:Int}{N:Nat}{o:cc}(h:Good m n N o)(hn:0≤n∧n<m∧m≤8)(hN:N≤180)(s t:Int):
  ∃ o' x er,(∀ σ,PC prog 17 [.agg o.cells,.agg (cJ s t).cells] σ (fun r σ'=>r=fp o' x er∧σ'=σ)) ∧
   ((o.down=true∧er=15)∨(o.down=false∧er=3)∨(er=0∧x.small∧o'.small∧o'.down=false∧(∀ y∈o.ops,y.small∧y.aA.time<x.aA.time)∧(∀ y∈o'.ops,cw y=0) ∧
    0≤find (cq o'.ops) (dL (cJ s t))∧find (cq o'.ops) (dL (cJ s t))<(cq o'.ops).length∧(cq o'.ops)[(find (cq o'.ops) (dL (cJ s t))).toNat]?=some (cJ s t))):=by
 rcases h with⟨arr,k,hu,rfl⟩ | ⟨arr,tl,hu,h3,h4,rfl⟩
 all_goals have h1:=hu.base;have h2:=hu.len
 ·have DA:0≤n∧n<8:=by omega
  obtain⟨c,hc,Ej,Cb⟩:=mV h1 DA
  by_cases hl:lq n arr<128∧fh arr<2^30
  ·have hx:=HV h1 DA Ej Cb s t hl.1 hl.2;have hA:=(hu.own hn.2.1 hx rfl rfl).base
   have fk:∀ y∈arr,y.aA.time<(iA n arr 1 (cJ s t) c).aA.time:=fun y hy=>by
    have:=QP hy;simp only[iA];omega
   have hO:∀ y∈dz (arr++[iA n arr 1 (cJ s t) c]),cw y=0∧y.small:=fun y hy=>⟨(hA.op y (dA.1 hy)).ok,(hA.op y (dA.1 hy)).small⟩
   have Ay:=YW (m:=dz (arr++[iA n arr 1 (cJ s t) c])) hO (by rw[nU];simp;omega) (x:=iA n arr 1 (cJ s t) c) (dA.2 (by simp)) rfl (fun y hy=>by
    rcases List.mem_append.1 (dA.1 hy)with hy | hy
    ·exact .inr (Fs (fk y hy))
    ·exact .inl (cv.1 hy))
   refine⟨_,_,_,s6 h1 DA (by omega) hc Cb s t hx hl.1 hl.2,.inr (.inr ⟨rfl,hx.small,fC hA (by simp;omega),rfl,fun y hy=>⟨(h1.op y (dA.1 hy)).small,fk y (dA.1 hy)⟩,fun y hy=>(hO y hy).1,Ay⟩)⟩
  ·exact⟨_,_,_,rm h1 DA (by omega) hc Cb s t (by omega),.inr (.inl ⟨rfl,rfl⟩)⟩
 ·exact⟨_,_,_,sZ _ _ rfl,.inl ⟨rfl,rfl⟩⟩
set_option maxRecDepth 4000 in
set_option maxHeartbeats 2000000 in
theorem Ah(l:List Int)(s t:Int)(σ:ag):PC prog 6 [.sl 1 (l.map bj),.i .i64 s,.i .i64 t] σ (fun r σ'=>r=.b true∧σ'=σ):=by
 refine PC.intro func6 c6 fun aQ cz=>?_;have hlen:=lD (cz 0 _ rfl).1;rw[List.length_map]at hlen;simp only[p6,SS,seval];refine bA.cut fun R hR=>?_;simp only[VV,seval];refine hR _ ?_;clear hR R;refine bA.cut fun R hR=>?_;simp only[V.pure,VV,seval];refine ic (zs:=[.sl 1 ([l].map rQ)]) (.cons (.lit _ _) .nil) (vU [l] _) ?_;simp only[VV,seval];refine⟨fun _=>?_,fun h=>?_⟩
 ·refine ai (gh _) rfl ?_;simp only[VV,seval];exact aO (.inr rfl) (by simp only[RS,seval];rfl) ⟨rfl,rfl⟩
 have hl:=qk hlen (by simpa using h);have rV:=sk l hl eY kT 3 (by decide) (fun h=>by rw[kZ]at h;cases h);refine hR _ (bA.ej (fr':=[.sl 1 (l.map bj),.i .i64 s,.i .i64 t,u,u,u,u,u,u,u,u,u,u,u,u,u,u,u,u,u,u,u,u,u,u,u,u,u,u,u,u,u,u,u,u,u,u,u,u,u,u,u,u,u,u,u,u,u,u,u,u,u,u,u,u,u,u,u,u,u,u,u,u,u,u,u,u,u,u,u,u,u,u,u,u,u,u,u,u,u,u,u,u,u,u,u,u,u,u,u,u,u,u,u,u,u,u,u,u,u,u,u,u,u,u,u,u,u,u,u,u,u,u,u,u,u,u,u,u,u,u,u,u,u,u,u,u,u,u,u,u,u,u,u,u]) ?_ (by repeat' constructor));clear hR R;refine bA.cut fun R hR=>?_;simp only[VV,seval];refine cG (PC.wk (args':=[.sl 1 (l.map bj),.agg eY.cells]) (Wk.ej (.cons (.refl _) (.cons (Cv.ir Ml) .nil))) (rV _)) rfl ?_;rintro _ s' ⟨q,o,hq,hg,rfl,hs'⟩;rw[hs'];clear hs' s' rV;simp only[cc.cells,VV,seval];refine hR _ (bA.ej (fr':=[u,.i .i64 s,.i .i64 t,u,u,u,u,.ptr σ.length 0,.b true,u,u,u,u,u,u,u,u,u,u,u,u,u,u,u,u,u,u,u,u,u,u,u,u,u,u,u,u,u,u,u,u,u,u,u,u,u,u,u,u,u,u,u,u,u,u,u,u,u,u,u,u,u,u,u,u,u,u,u,u,u,u,u,u,u,u,u,u,u,u,u,u,u,u,u,u,u,u,u,u,u,u,u,u,u,u,u,u,u,u,u,u,u,u,u,u,u,u,u,u,u,u,u,u,u,u,u,u,u,u,u,u,u,u,u,u,u,u,u,u,u,u,u,u,u,u]) ?_ (by repeat' constructor));clear hR R;have zO:=hg.small (by decide);have Oy:=zO.len;have gD:=TA hg;obtain⟨p,x,er,c1,c2⟩:=Fh hg ⟨hq.1,hq.2,by decide⟩ (by decide) s t;refine bA.cut fun R hR=>?_;simp only[VV,seval];refine hR _ (bA.ej (fr':=[u,.i .i64 s,.i .i64 t,u,u,u,u,.ptr σ.length 0,u,u,u,u,u,u,u,u,u,u,u,u,u,u,u,u,u,u,u,u,u,u,u,u,u,u,u,u,u,u,u,u,u,u,u,u,u,u,u,u,u,u,u,u,u,u,u,u,u,u,u,u,u,u,u,u,u,u,u,u,u,u,u,u,u,u,u,u,u,u,u,u,u,u,u,u,u,u,u,u,u,u,u,u,u,u,u,u,u,u,u,u,u,u,u,u,u,u,u,u,u,u,u,u,u,u,u,u,u,u,u,u,u,u,u,u,u,u,u,u,u,u,u,u,u,u,u]) ?_ (by repeat' constructor));clear hR R;refine bA.cut fun R hR=>?_;simp only[VV,seval];refine hR _ ?_;clear hR R;refine bA.cut fun R hR=>?_;simp only[List.length_map,VV,seval];refine bA.aW (fr':=[u,.i .i64 s,.i .i64 t,u,u,u,u,.ptr σ.length 0,u,.i .i64 (sr o.number []:Nat),u,u,u,u,u,u,u,u,u,u,u,u,u,u,u,u,u,u,u,u,u,u,.sl 13 (o.ops.map aJ.cells),.i .i64 o.ops.length,.i .i64 (([]:List aJ).length:Nat),u,u,u,u,u,u,u,u,u,u,u,u,u,u,u,u,u,u,u,u,u,u,u,u,u,u,u,u,u,u,u,u,u,u,u,u,u,u,u,u,u,u,u,u,u,u,u,u,u,u,u,u,u,u,u,u,u,u,u,u,u,u,u,u,u,u,u,u,u,u,u,u,u,u,u,u,u,u,u,u,u,u,u,u,u,u,u,u,u,u,u,u,u,u,u,u,u,u,u,u]) (by repeat' constructor) (o.ops.length+1) (Vy aQ s t o (by omega) gD o.ops [] rfl ?_);intros;simp only[gy,VV,seval];refine hR _ (bA.ej (fr':=[u,.i .i64 s,.i .i64 t,u,u,u,u,.ptr σ.length 0,u,u,u,u,u,u,u,u,u,u,u,u,u,u,u,u,u,u,u,u,u,u,u,u,u,u,u,u,u,u,u,u,u,u,u,u,u,u,u,u,u,u,u,u,u,u,u,u,u,u,u,u,u,u,u,u,u,u,u,u,u,u,u,u,u,u,u,u,u,u,u,u,u,u,u,u,u,u,u,u,u,u,u,u,u,u,u,u,u,u,u,u,u,u,u,u,u,u,u,u,u,u,u,u,u,u,u,u,u,u,u,u,u,u,u,u,u,u,u,u,u,u,u,u,u,u,u]) ?_ (by repeat' constructor));clear hR R;refine bA.cut fun R hR=>?_;simp only[cc.cells,VV,seval]at c1 ⊢;intros;refine ai (mH s t _) rfl ?_;simp only[VV,seval];intros;refine ai (c1 _) rfl ?_;simp only[fp,cc.cells,aJ.cells,bc.cells,En.cells,aq,ak,Nat.add_assoc,VV,seval];refine hR _ (bA.ej (fr':=[u,.i .i64 s,.i .i64 t,u,u,u,u,.ptr σ.length 0,u,u,u,u,.ptr (σ.length+1) 0,.ptr (σ.length+2) 0,.i .i64 er,u,u,u,u,u,u,u,u,u,u,u,u,u,u,u,u,u,u,u,u,u,u,u,u,u,u,u,u,u,u,u,u,u,u,u,u,u,u,u,u,u,u,u,u,u,u,u,u,u,u,u,u,u,u,u,u,u,u,u,u,u,u,u,u,u,u,u,u,u,u,u,u,u,u,u,u,u,u,u,u,u,u,u,u,u,u,u,u,u,u,u,u,u,u,u,u,u,u,u,u,u,u,u,u,u,u,u,u,u,u,u,u,u,u,u,u,u,u,u,u]) ?_ (by repeat' constructor));clear hR R;refine bA.cut fun R hR=>?_;rcases c2 with⟨d1,rfl⟩ | ⟨d1,rfl⟩ | ⟨rfl,hx,hp,hpd,hO,fD,k1,k2,k3⟩
 ·simp only[d1,VV,seval];refine bg (by simp only[VV,seval]<;>rfl) (fun _=>gh _) rfl ?_;simp only[VV,seval];exact aG aQ (.inr rfl) (by simp only[RS,seval];rfl) (by simp only[LW]) ⟨rfl,rfl⟩
 ·simp only[d1,VV,seval];refine bg (by simp only[VV,seval]<;>rfl) (fun _=>gh _) rfl ?_;simp only[VV,seval];exact aG aQ (.inr rfl) (by simp only[RS,seval];rfl) (by simp only[LW]) ⟨rfl,rfl⟩
 simp only[VV,seval];refine hR _ (bA.ej (fr':=[u,.i .i64 s,.i .i64 t,u,u,u,u,.ptr σ.length 0,u,u,u,u,.ptr (σ.length+1) 0,.ptr (σ.length+2) 0,u,u,u,u,u,u,u,u,u,u,u,u,u,u,u,u,u,u,u,u,u,u,u,u,u,u,u,u,u,u,u,u,u,u,u,u,u,u,u,u,u,u,u,u,u,u,u,u,u,u,u,u,u,u,u,u,u,u,u,u,u,u,u,u,u,u,u,u,u,u,u,u,u,u,u,u,u,u,u,u,u,u,u,u,u,u,u,u,u,u,u,u,u,u,u,u,u,u,u,u,u,u,u,u,u,u,u,u,u,u,u,u,u,u,u,u,u,u,u,u,u]) ?_ (by repeat' constructor));clear hR R;have hM:=nn fD
 have rA:∀ y∈cq p.ops,y.small:=fun y hy=>by
  simp only[cq,bK,cV]at hy;obtain⟨o',⟨h1,_⟩,rfl⟩:=hy;exact(hp.ops o' (mU h1)).entry
 have rV:=hp.len;refine bA.cut fun R hR=>?_;simp only[List.length_map,VV,seval];refine bA.aW (fr':=[u,.i .i64 s,.i .i64 t,u,u,u,u,u,u,u,u,u,.ptr (σ.length+1) 0,.ptr (σ.length+2) 0,u,u,u,u,u,u,u,u,u,u,u,u,u,u,u,u,u,u,u,u,u,u,u,u,u,u,u,u,u,u,u,u,u,u,u,u,u,u,u,u,u,u,u,u,u,u,u,u,u,u,u,u,u,u,u,u,u,u,u,u,u,u,u,u,u,u,u,u,u,u,u,u,u,u,u,u,u,u,.sl 13 (o.ops.map aJ.cells),.i .i64 o.ops.length,.i .i64 (([]:List aJ).length:Nat),u,u,u,u,u,u,u,u,u,u,u,u,u,u,u,u,u,u,u,u,u,u,u,u,u,u,u,u,u,u,u,u,u,u,u,u,u,u,u,u]) (by repeat' constructor) (o.ops.length+1) (Vx aQ s t o p x hx (by omega) hO o.ops [] rfl ?_);intros;simp only[gy,Mk,VV,seval];refine hR _ (bA.ej (fr':=[u,.i .i64 s,.i .i64 t,u,u,u,u,u,u,u,u,u,.ptr (σ.length+1) 0,u,u,u,u,u,u,u,u,u,u,u,u,u,u,u,u,u,u,u,u,u,u,u,u,u,u,u,u,u,u,u,u,u,u,u,u,u,u,u,u,u,u,u,u,u,u,u,u,u,u,u,u,u,u,u,u,u,u,u,u,u,u,u,u,u,u,u,u,u,u,u,u,u,u,u,u,u,u,u,u,u,u,u,u,u,u,u,u,u,u,u,u,u,u,u,u,u,u,u,u,u,u,u,u,u,u,u,u,u,u,u,u,u,u,u,u,u,u,u,u,u,u]) ?_ (by repeat' constructor));clear hR R;have Ay:=pP p hp hpd;have hfd:=FJ (cq p.ops) hM rA (dL (cJ s t));have hky:=pM (cJ s t) (jt s t);have hse:=oV (cJ s t) (cJ s t);have e1:Iz (cJ s t) (cJ s t)=true:=DV.2 rfl
 have dY:(List.map En.cells (cq p.ops)).getD (find (cq p.ops) (dL (cJ s t))).toNat []=(cJ s t).cells:=by
  rw[List.getD_eq_getElem?_getD,aZ,k3];rfl
 generalize find (cq p.ops) (dL (cJ s t))=k at *;generalize Tf:cq p.ops=mm at *;have hmk:=mH s t;generalize cJ s t=ee at *;rw[e1]at hse;have b1:decide (0≤k)=true:=decide_eq_true k1;simp only[cc.cells,En.cells]at Ay hky hse hmk;refine bA.cut fun R hR=>?_;simp only[cc.cells,VV,seval];refine ai (Ay _) rfl ?_;simp only[VV,seval];refine hR _ (bA.ej (fr':=[u,.i .i64 s,.i .i64 t,u,u,u,u,u,u,u,u,u,u,u,u,u,u,.sl 8 (mm.map En.cells),u,u,u,u,u,u,u,u,u,u,u,u,u,u,u,u,u,u,u,u,u,u,u,u,u,u,u,u,u,u,u,u,u,u,u,u,u,u,u,u,u,u,u,u,u,u,u,u,u,u,u,u,u,u,u,u,u,u,u,u,u,u,u,u,u,u,u,u,u,u,u,u,u,u,u,u,u,u,u,u,u,u,u,u,u,u,u,u,u,u,u,u,u,u,u,u,u,u,u,u,u,u,u,u,u,u,u,u,u,u,u,u,u,u,u,u,u]) ?_ (by repeat' constructor));clear hR R;refine bA.cut fun R hR=>?_;simp only[VV,seval];refine ai (hmk _) rfl ?_;simp only[VV,seval];refine ai (hky _) rfl ?_;simp only[VV,seval];refine ai (hfd _) rfl ?_;simp only[VV,seval];refine hR _ (bA.ej (fr':=[u,.i .i64 s,.i .i64 t,u,u,u,u,u,u,u,u,u,u,u,u,u,u,.sl 8 (mm.map En.cells),.i .i64 k,u,u,u,u,u,u,u,u,u,u,u,u,u,u,u,u,u,u,u,u,u,u,u,u,u,u,u,u,u,u,u,u,u,u,u,u,u,u,u,u,u,u,u,u,u,u,u,u,u,u,u,u,u,u,u,u,u,u,u,u,u,u,u,u,u,u,u,u,u,u,u,u,u,u,u,u,u,u,u,u,u,u,u,u,u,u,u,u,u,u,u,u,u,u,u,u,u,u,u,u,u,u,u,u,u,u,u,u,u,u,u,u,u,u,u,u]) (aj ?_) (by repeat' constructor));clear hR R;simp only[b1,dY,List.length_map,En.cells,VV,seval];refine⟨⟨by omega,by omega⟩,_,rfl,?_⟩;refine bg (by simp only[VV,seval]<;>rfl) (fun _=>hmk _) rfl ?_;simp only[dY,List.length_map,En.cells,VV,seval];refine⟨⟨by omega,by omega⟩,?_⟩;refine bg (by simp only[VV,seval]<;>rfl) (fun _=>hse _) rfl ?_;simp only[VV,seval];refine bg (by simp only[VV,seval]<;>rfl) (fun _=>gh _) rfl ?_;simp only[VV,seval];exact aG aQ (.inr rfl) (by simp only[RS,seval];rfl) (by simp only[LW]) ⟨rfl,rfl⟩
end Go.Proofs.Tryz

/- A part of the proof of the statement of the last text of this claim; its conditions stand there. -/
import Derived.Test.YtkkjfegefckehaaGreatDoorB42
import Derived.Test.YtkkjfegefckehaaGreatDoorS1
import Derived.Test.YtkkjfegefckehaaGreatDoorS2
set_option linter.all false

namespace Go.Proofs.Tryz
open Go Go.Pm Go.Bt Go.RowKit
open Go.Pm.V(u)
theorem qk{l:List Int}(hl:l.length<2^63)(h:decide (160<nq [l])=false):l.length≤160:=by
 have e:nq [l]=l.length:=by
  simp only[nq,bd,dB,wo];exact ll hl
 rw[e]at h;simp at h;omega
def gy(o:cc):Ob:=.box 36 o.cells
theorem rK(n:List aJ)(o:aJ):n.map aJ.cells++[[.i .i64 o.aA.time,.i .i64 o.aA.aS,.i .i64 o.aA.number,.i .i64 o.kind,.sl 3 (o.entry.source.map It.cells),.sl 3 (o.entry.target.map It.cells),.s o.entry.bS,.s o.entry.next,.s o.entry.cQ,.s o.entry.cn,.i .i64 o.entry.created,.i .i64 o.entry.origin,.sl 1 (o.seen.map bj)]]=(n++[o]).map aJ.cells:=by
 simp[aJ.cells,bc.cells,En.cells]
def UX(s:bc):Ob:=.box 24 s.cells
theorem Yd{σ:ag}(aQ:bP σ)(s:bc)(g:Nat)(l:List aJ):bP (σ++[UX s,dR g false l]) :=
 bU aQ (by simp only[UX,dR,bc.cells,bV,bD,false_imp_iff,implies_true,LW])
theorem Zr{σ:ag}{K:Exit→St→Prop}(aQ:bP σ)(l:List aJ)(hlen:l.length<2^39)(s:bc):∀ (rest pre out:List aJ) (g:Nat),l=pre++rest→out.length≤pre.length →
  (∀ g,(∀ j0 j1 j2 j3 j4 j6 j7 j8 j9 cT cS cX cR cN cM cL cW df dn dx dy dD dI dH dG dX ez eA eH eW fg fi ft,K (.exit 0) ⟨[j0,j1,j2,j3,j4,.own (σ.length+1) g,j6,j7,j8,j9,cT,cS,cX,cR,cN,cM,cL,cW,df,dn,dx,dy,dD,dI,dH,dG,dX,ez,eA,eH,eW,fg,fi,ft],σ++[UX s,dR g false (out++o5 rest s)]⟩)) →
  fO σ.length prog N3 K (rest.length+1) ⟨[u,u,u,.ptr σ.length 0,u,.own (σ.length+1) g,u,u,.sl 13 (l.map aJ.cells),.i .i64 l.length,.i .i64 pre.length,u,u,u,u,u,u,u,u,u,u,u,u,u,u,u,u,u,u,u,u,u,u,u],σ++[UX s,dR g false out]⟩:=by
 intro rest
 induction rest with
 | nil =>
  intro pre out g he hm h1;have he:l=pre:=by simpa using he
  subst he;simp only[o5,mZ,bf]at h1;refine ax fun R hR=>?_;simp only[N3,VV,seval];exact⟨fun h=>by simp at h,fun _=>h1 g ..⟩
 | cons x rest ih =>
  intro pre out g he hm h1;have hl:l.length=pre.length+(rest.length+1):=by rw[he];simp
  have hw:IntKind.i64.wrap ((pre.length:Int)+1)=(((pre++[x]).length:Nat):Int):=by
   rw[aV (by omega)];simp
  have dY:(List.map aJ.cells l).getD pre.length []=x.cells:=by rw[he];exact ki
  have hd:decide ((pre.length:Int)<(l.length:Int))=true:=by simp;omega
  refine ax fun R hR=>?_;simp only[N3,dR,UX,an,dY,hd,hw,List.length_map,aJ.cells,bc.cells,En.cells,V.pure,VV,seval];have E1:(out.length+1)*184≤2^47∧out.length+1≤maxLen:=by simp only[maxLen];omega
  refine⟨⟨by omega,by omega⟩,fun h=>?_,fun h=>?_⟩
  ·have e:o5 (x::rest) s=x::o5 rest s:=kf (by simpa using h);rw[e]at h1;refine⟨by simpa using E1,?_⟩;rw[rK];refine hR _ (cH [UX s,dR (g+1) false (out++[x])] [_] (Yd aQ _ _ _) ?_ ?_ (ih (pre++[x]) (out++[x]) (g+1) (by rw[he];simp) (by simp;omega) (by simpa using h1)))
   ·repeat' constructor
   ·simp only[LW,ab,ah,aK];omega
  ·have e:o5 (x::rest) s=o5 rest s:=mf (by simpa using h);rw[e]at h1;refine hR _ (cH [UX s,dR g false out] [_] (Yd aQ _ _ _) ?_ ?_ (ih (pre++[x]) out g (by rw[he];simp) (by simp;omega) h1))
   ·repeat' constructor
   ·simp only[LW,ab,ah,aK];omega
theorem PN(l:List aJ)(hlen:l.length<2^39)(s:bc)(σ:ag):PC prog 29 [.sl 13 (l.map aJ.cells),.agg s.cells] σ (fun r σ'=>r=.sl 13 ((o5 l s).map aJ.cells)∧σ'=σ):=by
 refine PC.intro func29 c29 fun aQ cz=>aj ?_;simp only[p29,SS,seval];simp only[bc.cells,List.length_map,VV,seval]
 refine bA.wk ((Wk.nV (P:=prog) (σ:=σ) [UX s] (k:=5) Cm rfl).trans (Wk.ej (ys:=[u,u,u,.ptr σ.length 0,u,.own (σ.length+1) 0,u,u,.sl 13 (l.map aJ.cells),.i .i64 l.length,.i .i64 (([]:List aJ).length:Nat),u,u,u,u,u,u,u,u,u,u,u,u,u,u,u,u,u,u,u,u,u,u,u]) ?_))
  (bA.pd (l.length+1) (Zr aQ l hlen s l [] [] 0 rfl (aB _) ?_))
 ·simp only[VV,seval]
  repeat' constructor
 intro g;intros;simp only[dR,UX,ak,VV,seval];refine gg 1 aQ (.inr rfl) (by simp only[RS,seval];rfl) rfl ?_ ?_
 ·simp only[ay,az,Pm.fz,kc,and_self,if_true,LW]
 ·simp only[ay,az,Pm.fz,kc,and_self,if_true];exact⟨rfl,trivial⟩
set_option maxRecDepth 4000 in
set_option maxHeartbeats 1000000 in
theorem aek{σ:ag}{K:Exit→St→Prop}(aQ:bP σ)(o p:cc)(hlen:o.ops.length<2^39)(rV:p.ops.length<2^39)(hO:∀ x∈o.ops,x.aA.aS=o.number→o5 p.ops x.aA=[x]):∀ (rest pre:List aJ),o.ops=pre++rest →
  (∀ j0 j1 j2 j3 j4 j5 j6 j7 j8 j9 cT cS cX cR cN cM cL cW df dn dx dy dD dI dH dG dX ez eA eH eW fg fi ft fw fG fM fL fK fX gi gF gR gQ il ix iV iU iT iS iR jo jn jm jK jY kx ku kt kH lB l9 mD nr nH nG nF pw pt pq po pn pk qD tH uT uS uR uQ uP uO uN uM uL uK uJ xu xt xr xq xp xo xn xl xk xj xi xh xg zb nZ nY qm ql rh sL sK sJ sI sH sG sF sE sD xM xL xK xJ xH xG xF xE xD xC xB xA xz xy xx xw,K (.exit 0) ⟨[j0,j1,j2,j3,j4,j5,j6,j7,j8,j9,cT,cS,cX,cR,cN,cM,cL,cW,df,dn,dx,dy,dD,dI,dH,dG,dX,ez,eA,eH,eW,fg,fi,ft,fw,fG,fM,fL,fK,fX,gi,gF,gR,gQ,il,ix,iV,iU,iT,iS,iR,jo,jn,jm,jK,jY,kx,ku,kt,kH,lB,l9,mD,nr,nH,nG,nF,pw,pt,pq,po,pn,pk,qD,tH,uT,uS,uR,uQ,uP,uO,uN,uM,uL,uK,uJ,xu,xt,xr,xq,xp,xo,xn,xl,xk,xj,xi,xh,xg,zb,nZ,nY,qm,ql,rh,sL,sK,sJ,sI,sH,sG,sF,sE,sD,xM,xL,xK,xJ,xH,xG,xF,xE,xD,xC,xB,xA,xz,xy,xx,xw],σ++[gy o,gy p]⟩) →
  fO σ.length prog Vg K (rest.length+1) ⟨[u,u,u,u,u,.ptr σ.length 0,u,.ptr (σ.length+1) 0,u,u,u,u,u,u,u,u,u,u,u,u,u,u,u,u,u,u,u,u,u,u,u,u,u,u,u,u,u,u,u,u,u,u,u,u,u,u,u,u,u,u,u,u,u,u,u,u,u,u,u,u,u,u,u,u,u,u,u,u,u,u,u,u,u,u,u,u,u,u,u,u,u,u,u,u,u,u,u,u,u,u,u,u,u,u,u,u,u,u,u,u,u,u,u,u,u,.sl 13 (o.ops.map aJ.cells),.i .i64 o.ops.length,.i .i64 pre.length,u,u,u,u,u,u,u,u,u,u,u,u,u,u,u,u,u,u,u,u,u,u],σ++[gy o,gy p]⟩:=by
 intro rest
 induction rest with
 | nil =>
  intro pre he h1;have he:o.ops=pre:=by simpa using he
  refine ax fun R hR=>?_;simp only[Vg,he,VV,seval];exact⟨fun h=>by simp at h,fun _=>h1 ..⟩
 | cons x rest ih =>
  intro pre he h1;have hl:o.ops.length=pre.length+(rest.length+1):=by rw[he];simp
  have hw:IntKind.i64.wrap ((pre.length:Int)+1)=(((pre++[x]).length:Nat):Int):=by
   rw[aV (by omega)];simp
  have dY:(List.map aJ.cells o.ops).getD pre.length []=x.cells:=by rw[he];exact ki
  have hd:decide ((pre.length:Int)<(o.ops.length:Int))=true:=by simp;omega
  have hx:x.aA.aS=o.number→o5 p.ops x.aA=[x]:=hO x (by rw[he];simp);have hon:=PN p.ops rV x.aA;have XY:=rf [x] [x];have e1:nm [x] [x]=true:=rJ.2 rfl;simp only[bc.cells]at hon;simp only[ay,az,aJ.cells,bc.cells,En.cells,aq,ak,e1]at XY;refine ax fun R hR=>?_;simp only[Vg,gy,cc.cells,an,dY,hd,List.length_map,aJ.cells,bc.cells,En.cells,V.pure,VV,seval];refine⟨⟨by omega,by omega⟩,?_⟩;refine bg (by simp only[VV,seval]<;>rfl) (fun _=>hon _) rfl ?_;simp only[V.pure,VV,seval];refine bg (v:=.b true) (by simp only[VV,seval]<;>rfl) (fun hc=>?_) rfl ?_
  ·rw[hx (by simpa using hc)];exact PC.wk (Wk.ej (.cons (.refl _) (.cons (.lit _ _) .nil))) (XY _)
  simp only[hw,VV,seval];refine hR _ (cH [gy o,gy p] [_] (bU aQ (by simp only[gy,cc.cells,bV,bD,false_imp_iff,implies_true,LW])) ?_ ?_ (ih (pre++[x]) (by rw[he];simp) h1))
  ·repeat' constructor
  ·simp only[LW,ab,ah,aK];omega
structure Rem (o p:cc) (ps qs:List (List UInt8)):Prop where
 small:p.small
 synced:p.synced=p.log.length
 le:p.log.length≤o.log.length
 pre:o.log.take p.log.length=p.log
 sy0:0≤o.synced∧o.synced≤o.log.length
 rd:o.log.take o.synced.toNat=bM ps
 rd2:p.log=bM qs
 psB:∀ x∈ps,x.length≤65536
 qsB:∀ x∈qs,x.length≤65536
 len:ps.length≤qs.length
 agB:qs.length=p.ops.length
 own:∀ x∈o.ops,x.aA.aS=o.number→o5 p.ops x.aA=[x]
theorem Gd(arr:List aJ)(j:Nat):(eD arr).take (eD (arr.take j)).length=eD (arr.take j):=by
 have:eD arr=eD (arr.take j)++eD (arr.drop j):=by rw[← rY,List.take_append_drop]
 rw[this,mb]
theorem UU{m n:Int}{N:Nat}{o:cc}(h:Good m n N o)(hN:N≤180)(hd:o.down=false)(bY:Int):
  ∃ p ps qs,(∀ σ,PC prog 15 [.agg o.cells,.i .i64 bY] σ (fun r σ'=>r=.agg (jd o bY).cells∧σ'=σ)) ∧
   (∀ σ,PC prog 16 [.agg (jd o bY).cells] σ (fun r σ'=>r=dS p 0∧σ'=σ))∧Rem o p ps qs:=by
 have hc:=(zw h hN bY).1;rcases h with⟨arr,k,hu,rfl⟩ | ⟨arr,tl,hu,h3,h4,rfl⟩
 ·obtain⟨j,tl,h1,h2,h3,h4,h5⟩:=K4 hu bY;have hj:=hu.take j;have hle:=hu.len;have qp:=mR hu.base.op;have hr:=wU hj.base (by rw[aR];omega) h3 (by omega)
  have AA:∀ (k:Nat) (x:List UInt8),x∈(arr.take k).map bX→x.length≤65536:=fun k x hx=>by
   obtain⟨y,hy,rfl⟩:=bK.1 hx;have:=(hu.base.op y (ct hy)).enc;omega
  rw[← h5]at hr;refine⟨_,(arr.take k).map bX,(arr.take j).map bX,hc,hr,fC hj.base (by rw[aR];omega),?_,oB arr j,Gd arr j,?_,Gd arr k,rfl,AA k,AA j,?_,?_,fun x hx ho=>?_⟩
  ·show((eD ((arr.take j).take (arr.take j).length)).length:Int)=_;rw[Uv];rfl
  ·have:=oB arr k;simp only[cp];omega
  ·simp only[List.length_map,aR];omega
  ·simp only[cp,nU,List.length_map]
  ·refine J9 (zZ hj.base.one) (dA.2 ?_);have hx:x∈arr:=dA.1 hx
   have Q5:x∈arr.take k:=by
    rw[← List.take_append_drop k arr]at hx;rcases List.mem_append.1 hx with hx | hx
    ·exact hx
    ·exact absurd ho (hu.syn x hx)
   rw[show arr.take k=(arr.take j).take k by rw[ye,iv h1]]at Q5;exact ct Q5
 ·simp[oL]at hd
set_option maxRecDepth 4000 in
set_option maxHeartbeats 2000000 in
theorem wV(l:List Int)(bY:Int)(σ:ag):PC prog 5 [.sl 1 (l.map bj),.i .i64 bY] σ (fun r σ'=>r=.b true∧σ'=σ):=by
 refine PC.intro func5 c5 fun aQ cz=>?_;have hlen:=lD (cz 0 _ rfl).1;rw[List.length_map]at hlen;simp only[p5,SS,seval];refine bA.cut fun R hR=>?_;simp only[VV,seval];refine hR _ ?_;clear hR R;refine bA.cut fun R hR=>?_;simp only[V.pure,VV,seval];refine ic (zs:=[.sl 1 ([l].map rQ)]) (.cons (.lit _ _) .nil) (vU [l] _) ?_;simp only[VV,seval];refine⟨fun _=>?_,fun h=>?_⟩
 ·refine ai (gh _) rfl ?_;simp only[VV,seval];exact aO (.inr rfl) (by simp only[RS,seval];rfl) ⟨rfl,rfl⟩
 have hl:=qk hlen (by simpa using h);have rV:=sk l hl eY kT 3 (by decide) (fun h=>by rw[kZ]at h;cases h);refine hR _ (bA.ej (fr':=[.sl 1 (l.map bj),.i .i64 bY,u,u,u,u,u,u,u,u,u,u,u,u,u,u,u,u,u,u,u,u,u,u,u,u,u,u,u,u,u,u,u,u,u,u,u,u,u,u,u,u,u,u,u,u,u,u,u,u,u,u,u,u,u,u,u,u,u,u,u,u,u,u,u,u,u,u,u,u,u,u,u,u,u,u,u,u,u,u,u,u,u,u,u,u,u,u,u,u,u,u,u,u,u,u,u,u,u,u,u,u,u,u,u,u,u,u,u,u,u,u,u,u,u,u,u,u,u,u,u,u,u,u,u,u,u,u,u,u]) ?_ (by repeat' constructor));clear hR R;refine bA.cut fun R hR=>?_;simp only[VV,seval];refine cG (PC.wk (args':=[.sl 1 (l.map bj),.agg eY.cells]) (Wk.ej (.cons (.refl _) (.cons (Cv.ir Ml) .nil))) (rV _)) rfl ?_;rintro _ s' ⟨q,o,hq,hg,rfl,hs'⟩;rw[hs'];clear hs' s' rV;simp only[cc.cells,VV,seval];refine hR _ (bA.ej (fr':=[u,.i .i64 bY,u,u,u,.ptr σ.length 0,.b true,u,u,u,u,u,u,u,u,u,u,u,u,u,u,u,u,u,u,u,u,u,u,u,u,u,u,u,u,u,u,u,u,u,u,u,u,u,u,u,u,u,u,u,u,u,u,u,u,u,u,u,u,u,u,u,u,u,u,u,u,u,u,u,u,u,u,u,u,u,u,u,u,u,u,u,u,u,u,u,u,u,u,u,u,u,u,u,u,u,u,u,u,u,u,u,u,u,u,u,u,u,u,u,u,u,u,u,u,u,u,u,u,u,u,u,u,u,u,u,u,u,u,u]) ?_ (by repeat' constructor));clear hR R;have zO:=hg.small (by decide);have Oy:=zO.len;have hlg:=zO.log;refine bA.cut fun R hR=>?_;cases hd:o.down with
 | true =>
  simp only[VV,seval];refine bg (by simp only[VV,seval]<;>rfl) (fun _=>gh _) rfl ?_;simp only[VV,seval];exact aG aQ (.inr rfl) (by simp only[RS,seval];rfl) (by simp only[LW]) ⟨rfl,rfl⟩
 | false =>
  simp only[VV,seval];refine hR _ (bA.ej (fr':=[u,.i .i64 bY,u,u,u,.ptr σ.length 0,u,u,u,u,u,u,u,u,u,u,u,u,u,u,u,u,u,u,u,u,u,u,u,u,u,u,u,u,u,u,u,u,u,u,u,u,u,u,u,u,u,u,u,u,u,u,u,u,u,u,u,u,u,u,u,u,u,u,u,u,u,u,u,u,u,u,u,u,u,u,u,u,u,u,u,u,u,u,u,u,u,u,u,u,u,u,u,u,u,u,u,u,u,u,u,u,u,u,u,u,u,u,u,u,u,u,u,u,u,u,u,u,u,u,u,u,u,u,u,u,u,u,u,u]) ?_ (by repeat' constructor));clear hR R;have KF:=kP (x:=bY) (n:=400) (by decide);have Qe:IntKind.i64.wrap (place bY 400 - 10)=place bY 400 - 10:=IntWalk.i64_in _ (by omega);obtain⟨p,ps,qs,c1,c2,hp⟩:=UU hg (by decide) hd (place bY 400 - 10);have rV:=hp.small.len;have hle:=hp.le;have hsy:=hp.sy0;have IP:=hp.len;have hl3:=hp.agB;simp only[cc.cells,hd]at c1 c2;refine bA.cut fun R hR=>?_;simp only[VV,seval];refine ai (uz bY 400 (by decide) (by decide) _) rfl ?_;simp only[Qe,VV,seval];refine hR _ (bA.ej (fr':=[u,.i .i64 (place bY 400 - 10),u,u,u,.ptr σ.length 0,u,u,u,u,u,u,u,u,u,u,u,u,u,u,u,u,u,u,u,u,u,u,u,u,u,u,u,u,u,u,u,u,u,u,u,u,u,u,u,u,u,u,u,u,u,u,u,u,u,u,u,u,u,u,u,u,u,u,u,u,u,u,u,u,u,u,u,u,u,u,u,u,u,u,u,u,u,u,u,u,u,u,u,u,u,u,u,u,u,u,u,u,u,u,u,u,u,u,u,u,u,u,u,u,u,u,u,u,u,u,u,u,u,u,u,u,u,u,u,u,u,u,u,u]) ?_ (by repeat' constructor));clear hR R;refine bA.cut fun R hR=>?_;simp only[VV,seval];refine ai (c1 _) rfl ?_;simp only[VV,seval];refine ai (c2 _) rfl ?_;simp only[dS,cc.cells,VV,seval];refine hR _ (bA.ej (fr':=[u,u,u,u,u,.ptr σ.length 0,u,.ptr (σ.length+1) 0,.i .i64 0,u,u,u,u,u,u,u,u,u,u,u,u,u,u,u,u,u,u,u,u,u,u,u,u,u,u,u,u,u,u,u,u,u,u,u,u,u,u,u,u,u,u,u,u,u,u,u,u,u,u,u,u,u,u,u,u,u,u,u,u,u,u,u,u,u,u,u,u,u,u,u,u,u,u,u,u,u,u,u,u,u,u,u,u,u,u,u,u,u,u,u,u,u,u,u,u,u,u,u,u,u,u,u,u,u,u,u,u,u,u,u,u,u,u,u,u,u,u,u,u,u]) ?_ (by repeat' constructor));clear hR R;have b1:decide ((o.log.length:Int)<(p.log.length:Int))=false:=by simp;omega
  have b2:(p.synced != (p.log.length:Int))=false:=by simp[hp.synced]
  have t1:(al o.log).take p.log.length=al p.log:=by
   have:al (o.log.take p.log.length)=al p.log:=by rw[hp.pre]
   rw[← this];simp[al,List.map_take]
  have t2:(al o.log).take o.synced.toNat=al (bM ps++[]):=by
   have:al (o.log.take o.synced.toNat)=al (bM ps):=by rw[hp.rd]
   rw[bf,← this];simp[al,List.map_take]
  have t3:al p.log=al (bM qs++[]):=by rw[bf,hp.rd2]
  have n1:(bM ps++[]).length<2^30:=by
   rw[bf,← hp.rd,aR];omega
  have n2:(bM qs++[]).length<2^30:=by
   rw[bf,← hp.rd2];omega
  refine bA.cut fun R hR=>?_;simp only[aL,b1,t1,an,VV,seval];refine⟨⟨by omega,by omega⟩,?_⟩;refine bg (by simp only[VV,seval]<;>rfl) (fun _=>wB p.log p.log _) rfl ?_;simp only[beq_self_eq_true,aL,b2,VV,seval];refine hR _ (bA.ej (fr':=[u,u,u,u,u,.ptr σ.length 0,u,.ptr (σ.length+1) 0,u,u,u,u,u,u,u,u,u,u,u,u,u,u,u,u,u,u,u,u,u,u,u,u,u,u,u,u,u,u,u,u,u,u,u,u,u,u,u,u,u,u,u,u,u,u,u,u,u,u,u,u,u,u,u,u,u,u,u,u,u,u,u,u,u,u,u,u,u,u,u,u,u,u,u,u,u,u,u,u,u,u,u,u,u,u,u,u,u,u,u,u,u,u,u,u,u,u,u,u,u,u,u,u,u,u,u,u,u,u,u,u,u,u,u,u,u,u,u,u,u,u]) ?_ (by repeat' constructor));clear hR R;refine bA.cut fun R hR=>?_;simp only[aL,t2,VV,seval];refine⟨⟨by omega,by omega⟩,?_⟩;refine ai (yJ ps [] n1 hp.psB rfl _) (by simp only[VV,seval]) ?_;simp only[VV,seval];refine hR _ (bA.ej (fr':=[u,u,u,u,u,.ptr σ.length 0,u,.ptr (σ.length+1) 0,u,.sl 1 (ps.map tc),u,u,u,u,u,u,u,u,u,u,u,u,u,u,u,u,u,u,u,u,u,u,u,u,u,u,u,u,u,u,u,u,u,u,u,u,u,u,u,u,u,u,u,u,u,u,u,u,u,u,u,u,u,u,u,u,u,u,u,u,u,u,u,u,u,u,u,u,u,u,u,u,u,u,u,u,u,u,u,u,u,u,u,u,u,u,u,u,u,u,u,u,u,u,u,u,u,u,u,u,u,u,u,u,u,u,u,u,u,u,u,u,u,u,u,u,u,u,u,u]) ?_ (by repeat' constructor));clear hR R;refine bA.cut fun R hR=>?_;simp only[VV,seval];refine ai (yJ qs [] n2 hp.qsB rfl _) (by simp only[t3,VV,seval]) ?_;simp only[VV,seval];refine hR _ (bA.ej (fr':=[u,u,u,u,u,.ptr σ.length 0,u,.ptr (σ.length+1) 0,u,.sl 1 (ps.map tc),u,.sl 1 (qs.map tc),u,u,u,u,u,u,u,u,u,u,u,u,u,u,u,u,u,u,u,u,u,u,u,u,u,u,u,u,u,u,u,u,u,u,u,u,u,u,u,u,u,u,u,u,u,u,u,u,u,u,u,u,u,u,u,u,u,u,u,u,u,u,u,u,u,u,u,u,u,u,u,u,u,u,u,u,u,u,u,u,u,u,u,u,u,u,u,u,u,u,u,u,u,u,u,u,u,u,u,u,u,u,u,u,u,u,u,u,u,u,u,u,u,u,u,u,u,u]) ?_ (by repeat' constructor));clear hR R;have b3:decide ((qs.length:Int)<(ps.length:Int))=false:=by simp;omega
  have b4:((qs.length:Int) != (p.ops.length:Int))=false:=by simp;omega
  refine bA.cut fun R hR=>?_;simp only[List.length_map,b3,b4,VV,seval];refine hR _ (bA.ej (fr':=[u,u,u,u,u,.ptr σ.length 0,u,.ptr (σ.length+1) 0,u,u,u,u,u,u,u,u,u,u,u,u,u,u,u,u,u,u,u,u,u,u,u,u,u,u,u,u,u,u,u,u,u,u,u,u,u,u,u,u,u,u,u,u,u,u,u,u,u,u,u,u,u,u,u,u,u,u,u,u,u,u,u,u,u,u,u,u,u,u,u,u,u,u,u,u,u,u,u,u,u,u,u,u,u,u,u,u,u,u,u,u,u,u,u,u,u,u,u,u,u,u,u,u,u,u,u,u,u,u,u,u,u,u,u,u,u,u,u,u,u,u]) ?_ (by repeat' constructor));clear hR R;have ff:Ob.box 36 [.i .i64 o.number,.i .i64 o.clock,.sl 13 (o.ops.map aJ.cells),.sl 1 (al o.log),.i .i64 o.synced,.b false]=gy o:=by rw[gy,cc.cells,hd]
  refine bA.cut fun R hR=>?_;simp only[List.length_map,VV,seval];rw[ff];refine bA.aW (fr':=[u,u,u,u,u,.ptr σ.length 0,u,.ptr (σ.length+1) 0,u,u,u,u,u,u,u,u,u,u,u,u,u,u,u,u,u,u,u,u,u,u,u,u,u,u,u,u,u,u,u,u,u,u,u,u,u,u,u,u,u,u,u,u,u,u,u,u,u,u,u,u,u,u,u,u,u,u,u,u,u,u,u,u,u,u,u,u,u,u,u,u,u,u,u,u,u,u,u,u,u,u,u,u,u,u,u,u,u,u,u,u,u,u,u,u,u,.sl 13 (o.ops.map aJ.cells),.i .i64 o.ops.length,.i .i64 (([]:List aJ).length:Nat),u,u,u,u,u,u,u,u,u,u,u,u,u,u,u,u,u,u,u,u,u,u]) (by repeat' constructor) (o.ops.length+1) (aek aQ o p (by omega) (by omega) hp.own o.ops [] rfl ?_);intros;simp only[VV,seval];refine hR _ (aj ?_);clear hR R;simp only[VV,seval];refine ai (gh _) rfl ?_;simp only[gy,cc.cells,VV,seval];exact aG aQ (.inr rfl) (by simp only[RS,seval];rfl) (by simp only[LW]) ⟨rfl,rfl⟩
end Go.Proofs.Tryz

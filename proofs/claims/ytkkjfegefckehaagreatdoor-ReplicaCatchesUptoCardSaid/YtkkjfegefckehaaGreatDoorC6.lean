/- A part of the proof of the statement of the last text of this claim; its conditions stand there. -/
import Derived.Test.YtkkjfegefckehaaGreatDoorB42
import Derived.Test.YtkkjfegefckehaaGreatDoorC2
import Derived.Test.YtkkjfegefckehaaGreatDoorC3
import Derived.Test.YtkkjfegefckehaaGreatDoorC4
set_option linter.all false

namespace Go.Proofs.Tryz
open Go Go.Pm Go.Bt Go.RowKit
open Go.Pm.V(u)
def gy(o:cc):Ob:=.box 36 o.cells
theorem rK(n:List aJ)(o:aJ):n.map aJ.cells++[[.i .i64 o.aA.time,.i .i64 o.aA.aS,.i .i64 o.aA.number,.i .i64 o.kind,.sl 3 (o.entry.source.map It.cells),.sl 3 (o.entry.target.map It.cells),.s o.entry.bS,.s o.entry.next,.s o.entry.cQ,.s o.entry.cn,.i .i64 o.entry.created,.i .i64 o.entry.origin,.sl 1 (o.seen.map bj)]]=(n++[o]).map aJ.cells:=by
 simp[aJ.cells,bc.cells,En.cells]
theorem Mw{σ:ag}{K:Exit→St→Prop}(aQ:bP σ)(l:List aJ)(hs:∀ x∈l,x.small)(hlen:l.length<2^39)(v:List Int):∀ (rest pre out:List aJ) (g:Nat),l=pre++rest→out.length≤pre.length →
  (∀ g,(∀ j0 j2 j3 j4 j6 j7 j8 j9 cT cS cX cR cN cM cL cW df dn dx dy dD dI dH dG dX ez eA,K (.exit 0) ⟨[j0,.sl 1 (v.map bj),j2,j3,j4,.own σ.length g,j6,j7,j8,j9,cT,cS,cX,cR,cN,cM,cL,cW,df,dn,dx,dy,dD,dI,dH,dG,dX,ez,eA],σ++[dR g false (out++gw rest v)]⟩)) →
  fO σ.length prog yQ K (rest.length+1) ⟨[u,.sl 1 (v.map bj),u,u,u,.own σ.length g,u,u,u,u,u,.sl 13 (l.map aJ.cells),.i .i64 l.length,.i .i64 pre.length,u,u,u,u,u,u,u,u,u,u,u,u,u,u,u],σ++[dR g false out]⟩:=by
 intro rest
 induction rest with
 | nil =>
  intro pre out g he hm h1;have he:l=pre:=by simpa using he
  subst he;simp only[gw,mZ,bf]at h1;refine ax fun R hR=>?_;simp only[yQ,VV,seval];exact⟨fun h=>by simp at h,fun _=>h1 g ..⟩
 | cons x rest ih =>
  intro pre out g he hm h1;have hl:l.length=pre.length+(rest.length+1):=by rw[he];simp
  have hx:x.small:=hs x (by rw[he];simp)
  have hw:IntKind.i64.wrap ((pre.length:Int)+1)=(((pre++[x]).length:Nat):Int):=by
   rw[aV (by omega)];simp
  have dY:(List.map aJ.cells l).getD pre.length []=x.cells:=by rw[he];exact ki
  have hd:decide ((pre.length:Int)<(l.length:Int))=true:=by simp;omega
  have UH:=AH v x.aA;have Wn:=nQ x hx;simp only[aJ.cells,bc.cells,En.cells,aq,ak]at UH Wn;refine ax fun R hR=>?_;simp only[yQ,dR,an,dY,hd,List.length_map,aJ.cells,bc.cells,En.cells,VV,seval];refine⟨⟨by omega,by omega⟩,?_⟩;refine ai (UH _) rfl ?_;simp only[hw,VV,seval];have E1:(out.length+1)*184≤2^47∧out.length+1≤maxLen:=by simp only[maxLen];omega
  refine⟨fun h=>?_,fun h=>?_⟩
  ·have e:gw (x::rest) v=x::gw rest v:=kf (by simpa using h);rw[e]at h1;refine ai (Wn _) rfl ?_;simp only[List.length_map,hw,V.pure,VV,seval];refine⟨by simpa using E1,?_⟩;rw[rK];refine hR _ (cH [dR (g+1) false (out++[x])] [_] (bU aQ (by simp[dR])) ?_ ?_ (ih (pre++[x]) (out++[x]) (g+1) (by rw[he];simp) (by simp;omega) (by simpa using h1)))
   ·repeat' constructor
   ·simp only[LW,ab,ah,aK];omega
  ·have e:gw (x::rest) v=gw rest v:=mf (by simpa using h);rw[e]at h1;refine hR _ (cH [dR g false out] [_] (bU aQ (by simp[dR])) ?_ ?_ (ih (pre++[x]) out g (by rw[he];simp) (by simp;omega) h1))
   ·repeat' constructor
   ·simp only[LW,ab,ah,aK];omega
theorem Dl(o:cc)(ho:o.small)(hd:o.down=false)(v:List Int)(σ:ag):PC prog 39 [.agg o.cells,.sl 1 (v.map bj)] σ (fun r σ'=>r=.sl 13 ((gw o.ops v).map aJ.cells)∧σ'=σ):=by
 refine PC.intro func39 c39 fun aQ cz=>?_;have hlen:=ho.len;simp only[p39,SS,seval];refine bA.cut fun R hR=>?_;simp only[cc.cells,hd,VV,seval];refine hR _ ?_;clear hR R;refine bA.cut fun R hR=>?_;simp only[VV,seval];refine hR _ ?_;clear hR R;refine bA.cut fun R hR=>?_;simp only[VV,seval];refine hR _ (aj ?_);clear hR R;simp only[List.length_map,VV,seval];have KJ:gM σ.length [u,.sl 1 (v.map bj),u,u,u,.nil,u,u,u,u,u,.sl 13 (o.ops.map aJ.cells),.i .i64 o.ops.length,.i .i64 (([]:List aJ).length:Nat),u,u,u,u,u,u,u,u,u,u,u,u,u,u,u]:=by simp only[LW]
 refine bA.wk ((((Wk.ej (ys:=[u,.sl 1 (v.map bj),u,u,u,.nil,u,u,u,u,u,.sl 13 (o.ops.map aJ.cells),.i .i64 o.ops.length,.i .i64 (([]:List aJ).length:Nat),u,u,u,u,u,u,u,u,u,u,u,u,u,u,u]) (by repeat' constructor)).trans (Wk.r3 (aB _) aQ (eX.1 KJ))).trans (Wk.gZ (P:=prog) (k:=5) Cm rfl)).trans (Wk.ej (ys:=[u,.sl 1 (v.map bj),u,u,u,.own σ.length 0,u,u,u,u,u,.sl 13 (o.ops.map aJ.cells),.i .i64 o.ops.length,.i .i64 (([]:List aJ).length:Nat),u,u,u,u,u,u,u,u,u,u,u,u,u,u,u]) ?_))
  (bA.pd (o.ops.length+1) (Mw aQ o.ops ho.ops (by omega) v o.ops [] [] 0 rfl (aB _) ?_))
 ·simp only[VV,seval]
  repeat' constructor
 intro g;intros;simp only[dR,ak,VV,seval];refine gg 0 aQ (.inr rfl) (by simp only[RS,seval];rfl) rfl ?_ ?_
 ·simp only[ay,az,bC,Pm.fz,kc,and_self,if_true,LW]
 ·simp only[ay,az,bC,Pm.fz,kc,and_self,if_true];exact⟨rfl,trivial⟩
theorem xW(o:cc)(bY:Int):(jd o bY).down=true:=by
 rw[jd];split<;>first | assumption | rfl
theorem Dk{l k:List Int}(hl:l.length<2^62)(hk:k.length<2^62)(h:decide (160<nq [l,k])=false):l.length≤160∧k.length≤160:=by
 have e:nq [l,k]=((l.length+k.length:Nat):Int):=by
  simp only[nq,bd,dB,wo];rw[ll (by omega),IntWalk.i64_in _ (by omega)];omega
 rw[e]at h;simp at h;omega
theorem Zn{σ:ag}{K:Exit→St→Prop}(aQ:bP σ)(a b:List Int)(h:∀ i:Nat,i<8→je b i≤je a i)(N:Nat)(hN:N≤8):∀ (k n:Nat),n+k=N →
  (∀ j0 j1 j2 j3 j4 j5 j6 j7 j8 j9 cT cS cX cR cN cM cL cW df dn,K (.exit 0) ⟨[j0,j1,j2,j3,j4,j5,j6,j7,j8,j9,cT,cS,cX,cR,cN,cM,cL,cW,df,dn],σ⟩) →
  fO σ.length prog NY K (k+1) ⟨[.sl 1 (a.map bj),.sl 1 (b.map bj),u,u,u,u,u,u,.i .i64 N,.i .i64 n,u,u,u,u,u,u,u,u,u,u],σ⟩:=by
 intro k
 induction k with
 | zero =>
  intro n he h1;have hd:decide ((n:Int)<(N:Int))=false:=by simp;omega
  refine ax fun R hR=>?_;simp only[NY,hd,VV,seval];exact h1 ..
 | succ k ih =>
  intro n he h1;have hd:decide ((n:Int)<(N:Int))=true:=by simp;omega
  have hw:=aV (n:=n) (by omega);have hv:decide (je a n<je b n)=false:=by have:=h n (by omega);simp;omega
  refine ax fun R hR=>?_;simp only[NY,hd,VV,seval];refine ai (iY a n _) rfl ?_;simp only[VV,seval];refine ai (iY b n _) rfl ?_;simp only[hv,hw,VV,seval];refine hR _ (aW ?_ (ih (n+1) (by omega) h1))
  repeat' constructor
theorem Fg(a b:List Int)(h:∀ i:Nat,i<8→je b i≤je a i)(σ:ag):PC prog 41 [.sl 1 (a.map bj),.sl 1 (b.map bj)] σ (fun r σ'=>r=.b true∧σ'=σ):=by
 refine PC.intro func41 c41 fun aQ cz=>aj ?_;have hm:(if(8:Int)<(b.length:Int)then 8 else(b.length:Int))=((min b.length 8:Nat):Int):=by split<;>omega
 simp only[p41,SS,seval];simp only[List.length_map,VV,seval];refine bA.aW (fr':=[.sl 1 (a.map bj),.sl 1 (b.map bj),u,u,u,u,u,u,.i .i64 (min b.length 8:Nat),.i .i64 (0:Nat),u,u,u,u,u,u,u,u,u,u]) ?_ (min b.length 8+1) (Zn aQ a b h (min b.length 8) (by omega) (min b.length 8) 0 (by omega) ?_)
 ·rw[hm]
  repeat' constructor
 intros;simp only[VV,seval];exact aO (.inr rfl) (by simp only[RS,seval];rfl) ⟨rfl,rfl⟩
structure Nl (arr:List aJ):Prop where
 up:Up 4 3 8 arr arr.length
 own:∀ x∈arr,x.aA.aS=3
theorem HP{arr:List aJ}(h:Nl arr)(s t:Int):
  ∃ o' x er,(∀ σ,PC prog 17 [.agg (cp 3 arr arr.length).cells,.agg (cJ s t).cells] σ (fun r σ'=>r=fp o' x er∧σ'=σ)) ∧
   (er=0→arr.length<8→∃ arr',Nl arr'∧o'=cp 3 arr' arr'.length):=by
 have hu:=h.up;have h1:=hu.base;have hle:=hu.len;have DA:(0:Int)≤3∧(3:Int)<8:=by decide
 obtain⟨c,hc,Ej,Cb⟩:=mV h1 DA
 by_cases hl:lq 3 arr<128∧fh arr<2^30
 ·have hx:=HV h1 DA Ej Cb s t hl.1 hl.2;refine⟨_,_,_,s6 h1 DA (by omega) hc Cb s t hx hl.1 hl.2,fun _ h8=>⟨arr++[iA 3 arr 1 (cJ s t) c],⟨?_,fun y hy=>?_⟩,by simp⟩⟩
  ·have hq:=hu.own (by decide) hx rfl rfl;refine⟨hq.base,by simp;omega,aB _,hq.Yc,by simp⟩
  ·rcases List.mem_append.1 hy with hy | hy
   ·exact h.own y hy
   ·rw[cv.1 hy];rfl
 ·exact⟨_,_,_,rm h1 DA (by omega) hc Cb s t (by omega),fun h=>by simp at h⟩
theorem JD{n:Int}{arr:List aJ}{k:Nat}(h1:yd n arr)(hk:k≤arr.length)(hl:arr.length≤190){x:aJ}(hg:Ln x)(iQ:x.aA.aS≠n)(qT:∀ y∈arr,da y x≠0)(σ:ag):
  PC prog 19 [.agg (cp n arr k).cells,.agg x.cells] σ (fun r σ'=>r=dS (cp n (arr++[x]) k) 0∧σ'=σ):=by
 have ho:=fC (k:=k) h1 (by omega);have hp:=yN h1 x;have qp:=mR h1.op;have hle:(cp n arr k).log.length≤4000000:=by simp only[cp];omega
 have Wx:∀ y,(cp n arr k).ops[k9 (dz arr) x]?=some y→da y x≠0:=fun y hy=>qT y (dA.1 (bh hy));have:=wW (cp n arr k) x _ ho hg.small rfl hg.ok (bZ hg.enc (by decide)) hle hp.1 hp.2 Wx iQ σ
 rwa [FM hk x]at this
theorem K5{l m:List aJ}{c d:Nat→Nat}(hc:jR l c)(hd:jR m d)(h:∀ x∈l,x∈m)(i:Nat)(hi:i<8):c i≤d i:=by
 by_cases fk:d i<c i
 ·obtain⟨x,hx,he⟩:=hc.has i hi (d i) fk;exact absurd he (hd.no i hi x (h x hx))
 ·omega
theorem Qa{arr:List aJ}(h:Nl arr){c:Nat→Nat}(hc:jR (dz arr) c){l:List aJ}(hl:∀ x∈l,0≤x.aA.aS∧x.aA.aS<3∧1≤x.aA.number):gw l (jU c)=l:=by
 refine List.filter_eq_self.2 fun x hx=>?_;obtain⟨h1,h2,h3⟩:=hl x hx
 have h0:c x.aA.aS.toNat=0:=by
  rcases Nat.eq_zero_or_pos (c x.aA.aS.toNat)with h0 | h0
  ·exact h0
  ·obtain⟨y,hy,he⟩:=hc.has x.aA.aS.toNat (by omega) 0 h0;have ho:=h.own y (dA.1 hy);simp only[kG,aI]at he;omega
 have hv:je (jU c) x.aA.aS=0:=by rw[lM c (by omega),h0];rfl
 simp only[xX,hv];simp;omega
def a3(arr:List aJ):Ob:=gy (cp 3 arr arr.length)
theorem afl{σ:ag}(aQ:bP σ)(o:cc):bP (σ++[gy o]) :=
 bU aQ (by simp only[gy,cc.cells,bV,bD,false_imp_iff,implies_true,LW])
set_option maxRecDepth 4000 in
set_option maxHeartbeats 1000000 in
theorem Vw{σ:ag}{K:Exit→St→Prop}(aQ:bP σ)(l:List Int)(bY:Int)(ks:List Int)(hlen:ks.length<2^62):∀ (rest pre:List Int) (arr:List aJ),ks=pre++rest→Nl arr →
  (∀ arr,Nl arr→(∀ j1 j3 j4 j5 j6 j8 j9 cT cS cX cR cN cM cL cW df dn dx dy dD dI dH dG dX ez eA eH eW fg fi ft fw fG fM fL fK fX gi gF gR gQ il ix iV iU iT iS iR jo jn jm jK jY kx ku kt kH lB l9 mD nr nH nG nF pw pt pq po pn pk qD tH uT uS uR uQ uP uO uN uM uL uK uJ xu xt xr xq xp xo xn xl xk xj xi xh xg zb nZ nY,K (.exit 0) ⟨[.sl 1 (l.map bj),j1,.i .i64 bY,j3,j4,j5,j6,.ptr σ.length 0,j8,j9,cT,cS,cX,cR,cN,cM,cL,cW,df,dn,dx,dy,dD,dI,dH,dG,dX,ez,eA,eH,eW,fg,fi,ft,fw,fG,fM,fL,fK,fX,gi,gF,gR,gQ,il,ix,iV,iU,iT,iS,iR,jo,jn,jm,jK,jY,kx,ku,kt,kH,lB,l9,mD,nr,nH,nG,nF,pw,pt,pq,po,pn,pk,qD,tH,uT,uS,uR,uQ,uP,uO,uN,uM,uL,uK,uJ,xu,xt,xr,xq,xp,xo,xn,xl,xk,xj,xi,xh,xg,zb,nZ,nY],σ++[gy (cp 3 arr arr.length)]⟩)) →
  fO σ.length prog Vc K (rest.length+1) ⟨[.sl 1 (l.map bj),u,.i .i64 bY,u,u,u,u,.ptr σ.length 0,u,u,u,u,u,u,u,u,u,u,u,u,u,u,u,u,u,u,u,u,u,u,u,.sl 1 (ks.map bj),.i .i64 ks.length,.i .i64 pre.length,u,u,u,u,u,u,u,u,u,u,u,u,u,u,u,u,u,u,u,u,u,u,u,u,u,u,u,u,u,u,u,u,u,u,u,u,u,u,u,u,u,u,u,u,u,u,u,u,u,u,u,u,u,u,u,u,u,u,u,u,u,u,u,u,u,u,u,u],σ++[gy (cp 3 arr arr.length)]⟩:=by
 intro rest
 induction rest with
 | nil =>
  intro pre arr he ha h1;have he:ks=pre:=by simpa using he
  subst he;refine ax fun R hR=>?_;simp only[Vc,VV,seval];exact⟨fun h=>by simp at h,fun _=>h1 arr ha ..⟩
 | cons v rest ih =>
  intro pre arr he ha h1;have hl:ks.length=pre.length+(rest.length+1):=by rw[he];simp
  have hw:IntKind.i64.wrap ((pre.length:Int)+1)=(((pre++[v]).length:Nat):Int):=by
   rw[aV (by omega)];simp
  have dY:fe (List.map bj ks) pre.length 0=some (.i .i64 v):=by rw[he];exact lU
  have hd:decide ((pre.length:Int)<(ks.length:Int))=true:=by simp;omega
  refine ax fun R hR=>?_
  have tail:∀ (arr2:List aJ) (fr:List V) (ext:ag),Nl arr2→pH fr [.sl 1 (l.map bj),u,.i .i64 bY,u,u,u,u,.ptr σ.length 0,u,u,u,u,u,u,u,u,u,u,u,u,u,u,u,u,u,u,u,u,u,u,u,.sl 1 (ks.map bj),.i .i64 ks.length,.i .i64 (pre++[v]).length,u,u,u,u,u,u,u,u,u,u,u,u,u,u,u,u,u,u,u,u,u,u,u,u,u,u,u,u,u,u,u,u,u,u,u,u,u,u,u,u,u,u,u,u,u,u,u,u,u,u,u,u,u,u,u,u,u,u,u,u,u,u,u,u,u,u,u,u]→R ⟨fr,σ++(gy (cp 3 arr2 arr2.length)::ext)⟩:=by
   intro arr2 fr ext h2 hc;refine hR _ (cH [gy (cp 3 arr2 arr2.length)] ext (afl aQ _) hc ?_ (ih (pre++[v]) arr2 (by rw[he];simp) h2 h1));simp only[LW,ab,ah,aK];omega
  have WJ:=HP ha v;have X3:(cp 3 arr arr.length).ops.length=arr.length:=nU arr;generalize ho:cp 3 arr arr.length=o at *;simp only[Vc,gy,cc.cells,an,dY,hd,List.length_map,VV,seval];refine⟨⟨by omega,by omega⟩,?_⟩;intros;refine ai (mH _ _ _) rfl ?_;simp only[VV,seval];intros;obtain⟨o',x,er,c1,c2⟩:=WJ (IntKind.i64.wrap (v.tdiv 3));simp only[cc.cells]at c1;refine ai (c1 _) rfl ?_;simp only[fp,cc.cells,aJ.cells,bc.cells,En.cells,aq,ak,Nat.add_assoc,List.length_map,X3,hw,VV,seval];refine⟨fun h=>?_,fun h=>?_⟩
  ·simp only[aC,beq_iff_eq,decide_eq_true_eq]at h;obtain⟨arr2,h2,rfl⟩:=c2 h.1 (by omega);exact tail arr2 _ _ h2 (by repeat' constructor)
  ·have:=tail arr;rw[ho]at this;exact this _ _ ha (by repeat' constructor)
set_option maxRecDepth 4000 in
set_option maxHeartbeats 1000000 in
theorem Vv{σ:ag}{K:Exit→St→Prop}(aQ:bP σ){arr:List aJ}{k:Nat}(ha:yd 3 arr)(hk:k≤arr.length)(h3:∀ y∈arr,y.aA.aS=3)(o:cc)(L:List aJ)(hl:arr.length+L.length≤190)(hg:∀ x∈L,Ln x∧x.aA.aS<3)(hp:L.Pairwise fun a b=>da a b≠0):∀ (rest pre:List aJ),L=pre++rest→yd 3 (arr++pre) →
  (yd 3 (arr++L)→(∀ j0 j1 j2 j3 j4 j5 j6 j8 j9 cT cS cX cR cM cL cW df dn dx dy dD dI dH dG dX ez eA eH eW fg fi ft fw fG fM fL fK fX gi gF gR gQ il ix iV iU iT iS iR jo jn jm jK jY kx ku kt kH lB l9 mD nr nH nG nF pw pt pq po pn pk qD tH uT uS uR uQ uP uO uN uM uL uK uJ xu xt xr xq xp xo xn xl xk xj xi xh xg zb nZ nY,K (.exit 2) ⟨[j0,j1,j2,j3,j4,j5,j6,.ptr σ.length 0,j8,j9,cT,cS,cX,cR,.ptr (σ.length+1) 0,cM,cL,cW,df,dn,dx,dy,dD,dI,dH,dG,dX,ez,eA,eH,eW,fg,fi,ft,fw,fG,fM,fL,fK,fX,gi,gF,gR,gQ,il,ix,iV,iU,iT,iS,iR,jo,jn,jm,jK,jY,kx,ku,kt,kH,lB,l9,mD,nr,nH,nG,nF,pw,pt,pq,po,pn,pk,qD,tH,uT,uS,uR,uQ,uP,uO,uN,uM,uL,uK,uJ,xu,xt,xr,xq,xp,xo,xn,xl,xk,xj,xi,xh,xg,zb,nZ,nY],σ++[gy (cp 3 (arr++L) k),gy o]⟩)) →
  fO σ.length prog Vb K (rest.length+1) ⟨[u,u,u,u,u,u,u,.ptr σ.length 0,u,u,u,u,u,u,.ptr (σ.length+1) 0,u,u,u,u,u,u,u,u,u,u,u,u,u,u,u,u,u,u,u,u,u,u,u,u,u,u,u,u,u,u,u,u,u,u,u,u,u,u,u,u,u,u,u,u,u,u,u,u,u,u,u,u,u,u,u,u,u,u,u,u,u,u,u,.sl 13 (L.map aJ.cells),.i .i64 L.length,.i .i64 pre.length,u,u,u,u,u,u,u,u,u,u,u,u,u,u,u,u,u,u,u,u,u],σ++[gy (cp 3 (arr++pre) k),gy o]⟩:=by
 intro rest
 induction rest with
 | nil =>
  intro pre he hA h1;have he:L=pre:=by simpa using he
  subst he;refine ax fun R hR=>?_;simp only[Vb,VV,seval];exact⟨fun h=>by simp at h,fun _=>h1 hA ..⟩
 | cons x rest ih =>
  intro pre he hA h1;have hlL:L.length=pre.length+(rest.length+1):=by rw[he];simp
  have hw:IntKind.i64.wrap ((pre.length:Int)+1)=(((pre++[x]).length:Nat):Int):=by
   rw[aV (by omega)];simp
  have dY:(List.map aJ.cells L).getD pre.length []=x.cells:=by rw[he];exact ki
  have hd:decide ((pre.length:Int)<(L.length:Int))=true:=by simp;omega
  obtain⟨hx,ZF⟩:=hg x (by rw[he];simp)
  have qT:∀ y∈arr++pre,da y x≠0:=fun y hy=>by
   rcases List.mem_append.1 hy with hy | hy
   ·intro h0;have:=(ja.1 h0).1;have:=h3 y hy;omega
   ·rw[he,fy]at hp;exact hp.2.2 y hy x (by simp)
  have iQ:x.aA.aS≠3:=by omega
  have Q8:(arr++pre).length≤190:=by simp;omega
  have c1:=JD (n:=3) hA (k:=k) (by simp;omega) Q8 hx iQ qT;have hA2:=hA.ym hx iQ qT;rw[List.append_assoc]at c1 hA2;generalize cp 3 (arr++pre) k=a at *;generalize WO:cp 3 (arr++(pre++[x])) k=a2 at *;have next:=ih (pre++[x]) (by rw[he];simp) hA2 h1
  rw[WO]at next
  have qG:bP (σ++[gy a2,gy o]):=bU aQ (by simp only[gy,cc.cells,bV,bD,false_imp_iff,implies_true,LW]);simp only[cc.cells,aJ.cells,bc.cells,En.cells,aq,ak]at c1;refine ax fun R hR=>?_;simp only[Vb,gy,cc.cells,an,dY,hd,List.length_map,aJ.cells,bc.cells,En.cells,VV,seval];refine⟨⟨by omega,by omega⟩,?_⟩;refine ai (c1 _) rfl ?_;simp only[dS,cc.cells,hw,VV,seval];refine hR _ (cH [gy a2,gy o] [_,_] qG ?_ ?_ next)
  ·repeat' constructor
  ·simp only[LW,ab,ah,aK];omega
theorem WR{m n:Int}{N:Nat}{o:cc}(h:Good m n N o)(hN:N≤180)(bY:Int):∃ arr k,Up m n N arr k ∧
  (∀ σ,PC prog 15 [.agg o.cells,.i .i64 bY] σ (fun r σ'=>r=.agg (jd o bY).cells∧σ'=σ)) ∧
  (∀ σ,PC prog 16 [.agg (jd o bY).cells] σ (fun r σ'=>r=dS (cp n arr k) 0∧σ'=σ)):=by
 obtain⟨c1,-,c3⟩:=zw h hN bY;have hd:=xW o bY;rcases c3 with⟨arr,k,hu,e⟩ | ⟨arr,tl,hu,h3,h4,e⟩
 ·rw[e]at hd;simp[cp]at hd
 ·have:=hu.len;refine⟨arr,arr.length,hu,c1,?_⟩;rw[e];exact wU hu.base (by omega) h3 (by omega)
set_option maxRecDepth 4000 in
set_option maxHeartbeats 2000000 in
theorem yB(l ks:List Int)(h1:l.length<2^62)(h2:ks.length<2^62)(bY:Int)(σ:ag):PC prog 8 [.sl 1 (l.map bj),.sl 1 (ks.map bj),.i .i64 bY] σ (fun r σ'=>r=.b true∧σ'=σ):=by
 refine PC.intro func8 c8 fun aQ cz=>?_;simp only[p8,SS,seval];refine bA.cut fun R hR=>?_;simp only[VV,seval];refine hR _ ?_;clear hR R;refine bA.cut fun R hR=>?_;simp only[V.pure,VV,seval];refine ic (zs:=[.sl 1 ([l,ks].map rQ)]) (.cons (.lit _ _) .nil) (vU [l,ks] _) ?_;simp only[VV,seval];refine⟨fun _=>?_,fun h=>?_⟩
 ·refine ai (gh _) rfl ?_;simp only[VV,seval];exact aO (.inr rfl) (by simp only[RS,seval];rfl) ⟨rfl,rfl⟩
 have hl:=(Dk h1 h2 (by simpa using h)).1;have rV:=sk l hl eY kT 3 (by decide) (fun h=>by rw[kZ]at h;cases h);refine hR _ (bA.ej (fr':=[.sl 1 (l.map bj),.sl 1 (ks.map bj),.i .i64 bY,u,u,u,u,u,u,u,u,u,u,u,u,u,u,u,u,u,u,u,u,u,u,u,u,u,u,u,u,u,u,u,u,u,u,u,u,u,u,u,u,u,u,u,u,u,u,u,u,u,u,u,u,u,u,u,u,u,u,u,u,u,u,u,u,u,u,u,u,u,u,u,u,u,u,u,u,u,u,u,u,u,u,u,u,u,u,u,u,u,u,u,u,u,u,u,u,u,u,u]) ?_ (by repeat' constructor));clear hR R;refine bA.cut fun R hR=>?_;simp only[VV,seval];refine ai (Vo 3 (by decide) (by decide) _) rfl ?_;simp only[cc.cells,VV,seval];refine hR _ (bA.ej (fr':=[.sl 1 (l.map bj),.sl 1 (ks.map bj),.i .i64 bY,u,u,u,u,.ptr σ.length 0,u,u,u,u,u,u,u,u,u,u,u,u,u,u,u,u,u,u,u,u,u,u,u,u,u,u,u,u,u,u,u,u,u,u,u,u,u,u,u,u,u,u,u,u,u,u,u,u,u,u,u,u,u,u,u,u,u,u,u,u,u,u,u,u,u,u,u,u,u,u,u,u,u,u,u,u,u,u,u,u,u,u,u,u,u,u,u,u,u,u,u,u,u,u]) ?_ (by repeat' constructor));clear hR R;have h0:Nl []:=⟨⟨OO 3,by simp,by simp,by simp,by simp⟩,by simp⟩;refine bA.cut fun R hR=>?_;simp only[List.length_map,VV,seval];refine bA.aW (fr':=[.sl 1 (l.map bj),u,.i .i64 bY,u,u,u,u,.ptr σ.length 0,u,u,u,u,u,u,u,u,u,u,u,u,u,u,u,u,u,u,u,u,u,u,u,.sl 1 (ks.map bj),.i .i64 ks.length,.i .i64 (([]:List Int).length:Nat),u,u,u,u,u,u,u,u,u,u,u,u,u,u,u,u,u,u,u,u,u,u,u,u,u,u,u,u,u,u,u,u,u,u,u,u,u,u,u,u,u,u,u,u,u,u,u,u,u,u,u,u,u,u,u,u,u,u,u,u,u,u,u,u,u,u,u,u]) (by repeat' constructor) (ks.length+1) (Vw aQ l bY ks h2 ks [] [] rfl h0 ?_);intro arr ha;intros;simp only[VV,seval];refine hR _ (bA.ej (fr':=[.sl 1 (l.map bj),u,.i .i64 bY,u,u,u,u,.ptr σ.length 0,u,u,u,u,u,u,u,u,u,u,u,u,u,u,u,u,u,u,u,u,u,u,u,u,u,u,u,u,u,u,u,u,u,u,u,u,u,u,u,u,u,u,u,u,u,u,u,u,u,u,u,u,u,u,u,u,u,u,u,u,u,u,u,u,u,u,u,u,u,u,u,u,u,u,u,u,u,u,u,u,u,u,u,u,u,u,u,u,u,u,u,u,u,u]) ?_ (by repeat' constructor));clear hR R;refine bA.cut fun R hR=>?_;simp only[VV,seval];refine cG (PC.wk (args':=[.sl 1 (l.map bj),.agg eY.cells]) (Wk.ej (.cons (.refl _) (.cons (Cv.ir Ml) .nil))) (rV _)) rfl ?_;rintro _ s' ⟨q,o,hq,hg,rfl,hs'⟩;rw[hs'];clear hs' s' rV;simp only[cc.cells,VV,seval];refine hR _ (bA.ej (fr':=[u,u,.i .i64 bY,u,u,u,u,.ptr σ.length 0,u,u,u,u,u,u,.ptr (σ.length+1) 0,.b true,u,u,u,u,u,u,u,u,u,u,u,u,u,u,u,u,u,u,u,u,u,u,u,u,u,u,u,u,u,u,u,u,u,u,u,u,u,u,u,u,u,u,u,u,u,u,u,u,u,u,u,u,u,u,u,u,u,u,u,u,u,u,u,u,u,u,u,u,u,u,u,u,u,u,u,u,u,u,u,u,u,u,u,u,u,u]) ?_ (by repeat' constructor));clear hR R;obtain⟨arr2,k2,hu,c1,c2⟩:=WR hg (by decide) bY;have DA:0≤q∧q<8:=by omega
 have hul:=hu.len;have zO:=fC (k:=k2) hu.base (by omega);have F3:=ha.up.len;have has:=fC (k:=arr.length) ha.up.base (by omega);obtain⟨c,hc,Ej,-⟩:=mV hu.base DA;obtain⟨d,hd,hd8,-⟩:=mV ha.up.base (n:=3) (by decide);have s1:=o9 (cp q arr2 k2) zO rfl c hc;have s2:=o9 (cp 3 arr arr.length) has rfl d hd
 have hL:=Qa ha hd (l:=dz arr2) fun x hx=>by
  have hx:=dA.1 hx;have:=mi (hu.base.op x hx).ok;exact⟨this.aS.1,hu.Yc x hx,this.number.1⟩
 have s3:=Dl (cp q arr2 k2) zO rfl (jU d);rw[show(cp q arr2 k2).ops=dz arr2 from rfl,hL]at s3;refine bA.cut fun R hR=>?_;simp only[VV,seval];refine hR _ (bA.ej (fr':=[u,u,.i .i64 bY,u,u,u,u,.ptr σ.length 0,u,u,u,u,u,u,.ptr (σ.length+1) 0,u,u,u,u,u,u,u,u,u,u,u,u,u,u,u,u,u,u,u,u,u,u,u,u,u,u,u,u,u,u,u,u,u,u,u,u,u,u,u,u,u,u,u,u,u,u,u,u,u,u,u,u,u,u,u,u,u,u,u,u,u,u,u,u,u,u,u,u,u,u,u,u,u,u,u,u,u,u,u,u,u,u,u,u,u,u,u]) ?_ (by repeat' constructor));clear hR R;generalize hp:cp q arr2 k2=p at *;simp only[cc.cells]at c1 c2;refine bA.cut fun R hR=>?_;simp only[VV,seval];refine ai (c1 _) rfl ?_;simp only[VV,seval];refine ai (c2 _) rfl ?_;simp only[dS,cc.cells,VV,seval];refine hR _ (bA.ej (fr':=[u,u,u,u,u,u,u,.ptr σ.length 0,u,u,u,u,u,u,.ptr (σ.length+1) 0,u,u,u,u,u,u,u,u,u,u,u,u,u,u,u,u,u,u,u,u,u,u,u,u,u,u,u,u,u,u,u,u,u,u,u,u,u,u,u,u,u,u,u,u,u,u,u,u,u,u,u,u,u,u,u,u,u,u,u,u,u,u,u,u,u,u,u,u,u,u,u,u,u,u,u,u,u,u,u,u,u,u,u,u,u,u,u]) ?_ (by repeat' constructor));clear hR R;refine bA.drop [gy (cp 3 arr arr.length),gy p] [gy p] (by simp) (bU aQ (by simp only[gy,cc.cells,bV,bD,false_imp_iff,implies_true,LW])) (pH.refl _) (by simp only[LW,ab,ah,aK];omega) ?_;have hpp:(dz arr2).Pairwise fun a b=>da a b≠0:=zZ hu.base.one;have IN:=nU arr2;have hgl:∀ x∈dz arr2,Ln x∧x.aA.aS<3:=fun x hx=>⟨hu.base.op x (dA.1 hx),hu.Yc x (dA.1 hx)⟩;have ea:cp 3 (arr++[]) arr.length=cp 3 arr arr.length:=by rw[bf]
 refine bA.cut fun R hR=>?_;generalize hao:cp 3 arr arr.length=a at *;simp only[cc.cells]at s1 s2 s3;simp only[gy,cc.cells,VV,seval];refine ai (s2 _) rfl ?_;simp only[VV,seval];refine ai (s3 _) rfl ?_;simp only[List.length_map,VV,seval];have lp:=fun K=>Vv (K:=K) aQ ha.up.base (k:=arr.length) (aB _) ha.own p (dz arr2) (by omega) hgl hpp (dz arr2) [] rfl (by rw[bf];exact ha.up.base);rw[ea]at lp;refine bA.aW (fr':=[u,u,u,u,u,u,u,.ptr σ.length 0,u,u,u,u,u,u,.ptr (σ.length+1) 0,u,u,u,u,u,u,u,u,u,u,u,u,u,u,u,u,u,u,u,u,u,u,u,u,u,u,u,u,u,u,u,u,u,u,u,u,u,u,u,u,u,u,u,u,u,u,u,u,u,u,u,u,u,u,u,u,u,u,u,u,u,u,u,.sl 13 ((dz arr2).map aJ.cells),.i .i64 (dz arr2).length,.i .i64 (([]:List aJ).length:Nat),u,u,u,u,u,u,u,u,u,u,u,u,u,u,u,u,u,u,u,u,u]) (by repeat' constructor) ((dz arr2).length+1) (lp _ ?_);intro hA;intros;have anQ:(arr++dz arr2).length≤190:=by simp;omega
 have hes:=fC (k:=arr.length) hA (by omega);obtain⟨e,he,he8,-⟩:=mV hA (n:=3) (by decide);have s4:=o9 (cp 3 (arr++dz arr2) arr.length) hes rfl e he
 have s5:=Fg (jU e) (jU c) fun i hi=>by
  rw[lM e (by omega),lM c (by omega)];have:=K5 hc he (fun x hx=>dA.2 (List.mem_append_right _ hx)) i hi;simp only[an];omega
 generalize cp 3 (arr++dz arr2) arr.length=b at *;simp only[cc.cells]at s4;simp only[gy,cc.cells,VV,seval];refine hR _ (aj ?_);clear hR R;simp only[VV,seval];refine ai (s4 _) rfl ?_;simp only[VV,seval];refine ai (s1 _) rfl ?_;simp only[VV,seval];refine ai (s5 _) rfl ?_;simp only[VV,seval];refine bg (by simp only[VV,seval]<;>rfl) (fun _=>gh _) rfl ?_;simp only[VV,seval];exact aG aQ (.inr rfl) (by simp only[RS,seval];rfl) (by simp only[LW]) ⟨rfl,rfl⟩
end Go.Proofs.Tryz

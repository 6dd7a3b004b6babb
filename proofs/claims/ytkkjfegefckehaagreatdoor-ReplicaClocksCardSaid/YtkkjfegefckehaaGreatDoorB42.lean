/- A part of the proof of the statement of the last text of this claim; its conditions stand there. -/
import Derived.Test.YtkkjfegefckehaaGreatDoorB37
import Derived.Test.YtkkjfegefckehaaGreatDoorB41
set_option linter.all false

namespace Go.Proofs.Tryz
open Go Go.Pm Go.Bt Go.RowKit
open Go.Pm.V(u)
def rO(o:cc)(kd:Int)(e:En)(sn:List Int):aJ:=⟨⟨o.clock+1,o.number,je sn o.number+1⟩,kd,e,sn⟩
theorem PR(o:cc)(kd:Int)(e:En)(he:e.small)(ho:o.small)(hd:o.down=false)(c:Nat→Nat)(hc:jR o.ops c)(sn:List Int)(Ig:nc (gj c) []=sn)(hl:128≤je sn o.number∨2^30≤o.clock)(σ:ag):
  PC prog 59 [.agg o.cells,.i .i64 kd,.agg e.cells] σ (fun r σ'=>r=.iK [.agg cc.zero.cells,.agg eY.cells,.i .i64 3]∧σ'=σ):=by
 refine PC.intro func59 c59 fun aQ cz=>aj ?_;simp only[p59,SS,seval];simp only[cc.cells,En.cells,VV,seval];refine ai (o9 o ho hd c hc _) (by simp only[cc.cells,VV,seval]) ?_;simp only[Ig,VV,seval];refine ai (iY sn o.number _) rfl ?_;simp only[VV,seval];have hb:(decide (128≤je sn o.number)||decide (1073741824≤o.clock))=true:=by simp;omega
 exact⟨fun _=>dv aQ (.inr rfl) (by simp only[kO,sj,VV,seval]) (.cons (Cv.ir (pg 0)) (.cons (Cv.ir Ml) (.cons (.refl _) .nil))) (by simp only[cc.cells,aJ.cells,bc.cells,En.cells,aq,ak,LW]) ⟨rfl,rfl⟩,fun h=>by rw[hb]at h;cases h⟩
set_option maxHeartbeats 1000000 in
theorem Sw(o:cc)(kd:Int)(e:En)(he:e.small)(ho:o.small)(hd:o.down=false)(c:Nat→Nat)(hc:jR o.ops c)(sn:List Int)(Ig:nc (gj c) []=sn)(hl:je sn o.number<128)(h0:0≤o.clock)(aQ:o.clock<2^30)(m:Nat)
  (hx:(rO o kd e sn).small) (fD:cw (rO o kd e sn)=0) (hp:(bX (rO o kd e sn)).length≤60000) (qp:o.log.length≤4000000) (hm:m≤o.ops.length) (h1:∀ (k:Nat) (y:aJ),o.ops[k]?=some y→(0≤da y (rO o kd e sn)↔m≤k)) (σ:ag) :
  PC prog 59 [.agg o.cells,.i .i64 kd,.agg e.cells] σ (fun r σ'=>r=.iK [.agg (k7 o (rO o kd e sn) m).cells,.agg (rO o kd e sn).cells,.i .i64 0]∧σ'=σ):=by
 refine PC.intro func59 c59 fun aQ cz=>aj ?_;have hv:=Ns sn o.number;have e1:IntKind.i64.wrap (o.clock+1)=o.clock+1:=IntWalk.i64_in _ (by omega);have e2:IntKind.i64.wrap (je sn o.number+1)=je sn o.number+1:=IntWalk.i64_in _ (by omega);have hb:(decide (128≤je sn o.number)||decide (1073741824≤o.clock))=false:=by simp;omega
 have hlen:(fR o (rO o kd e sn) m).log.length<2^40:=by simp only[fR,List.length_append,ig];omega
 simp only[p59,SS,seval];simp only[cc.cells,En.cells,VV,seval];refine ai (o9 o ho hd c hc _) (by simp only[cc.cells,VV,seval]) ?_;simp only[Ig,VV,seval];refine ai (iY sn o.number _) rfl ?_;simp only[e1,e2,VV,seval];refine⟨fun h=>(by rw[hb]at h;cases h),fun _=>?_⟩;refine ai (Am o (rO o kd e sn) m ho hx fD hp qp hm h1 _) (by simp only[cc.cells,aJ.cells,bc.cells,En.cells,rO,VV,seval]) ?_;simp only[cc.cells,VV,seval];refine ai (nQ (rO o kd e sn) hx _) (by simp only[aJ.cells,bc.cells,En.cells,rO,VV,seval]) ?_;simp only[aJ.cells,bc.cells,En.cells,aL,VV,seval];refine aG aQ (.inr rfl) (by simp only[RS,seval];rfl) (by simp only[LW]) ⟨rfl,rfl⟩
theorem GQ(o:cc)(e:En)(hd:o.down=true)(σ:ag):PC prog 45 [.agg o.cells,.agg e.cells] σ (fun r σ'=>r=fp cc.zero eY 15∧σ'=σ):=by
 refine PC.intro func45 c45 fun aQ cz=>aj ?_;simp only[p45,SS,seval];simp only[cc.cells,En.cells,hd,VV,seval];exact dv aQ (.inr rfl) (by simp only[RS,seval]) (.cons (Cv.ir (pg 0)) (.cons (Cv.ir Ml) (.cons (.refl _) .nil))) (by simp only[cc.cells,aJ.cells,bc.cells,En.cells,aq,ak,LW]) ⟨rfl,rfl⟩
theorem EG(o:cc)(e:En)(hd:o.down=true)(σ:ag):PC prog 46 [.agg o.cells,.agg e.cells] σ (fun r σ'=>r=fp cc.zero eY 15∧σ'=σ):=by
 refine PC.intro func46 c46 fun aQ cz=>aj ?_;simp only[p46,SS,seval];simp only[cc.cells,En.cells,hd,VV,seval];exact dv aQ (.inr rfl) (by simp only[RS,seval]) (.cons (Cv.ir (pg 0)) (.cons (Cv.ir Ml) (.cons (.refl _) .nil))) (by simp only[cc.cells,aJ.cells,bc.cells,En.cells,aq,ak,LW]) ⟨rfl,rfl⟩
theorem wT(o:cc)(e:En)(ho:o.small)(gl:∀ x∈o.ops,cw x=0)(hs:(asked e).small)(fD:cy (asked e)=0)(hd:o.down=false){o':cc}{x:aJ}{er:Int}
  (h0:find (cq o.ops) (dL (asked e))<0→o'=cc.zero∧x=eY∧er=6)
  (hm:0≤find (cq o.ops) (dL (asked e))→∀ σ,PC prog 59 [.agg o.cells,.i .i64 2,.agg (gC e).cells] σ (fun r σ'=>r=fp o' x er∧σ'=σ)) (σ:ag) :
  PC prog 45 [.agg o.cells,.agg e.cells] σ (fun r σ'=>r=fp o' x er∧σ'=σ):=by
 refine PC.intro func45 c45 fun aQ cz=>aj ?_;have hM:=nn gl
 have rA:∀ y∈cq o.ops,y.small:=fun y hy=>by
  simp only[cq,bK,cV]at hy;obtain⟨o',⟨h1,_⟩,rfl⟩:=hy;exact(ho.ops o' (mU h1)).entry
 simp only[p45,SS,seval];have Ay:=pP o ho hd;simp only[cc.cells,En.cells,hd,VV,seval]at hm Ay ⊢;refine ai (kF (asked e) hs _) (by simp only[asked,En.cells,VV,seval]) ?_;simp only[fD,VV,seval];refine ai (Ay _) rfl ?_;simp only[VV,seval];refine ai (FP (asked e) hs _) (by simp only[asked,En.cells,VV,seval]) ?_;simp only[VV,seval];refine ai (Mr _ rA _ _) rfl ?_;simp only[VV,seval];refine⟨fun h=>?_,fun h=>?_⟩
 ·obtain⟨rfl,rfl,rfl⟩:=h0 (by simpa using h);exact dv aQ (.inr rfl) (by simp only[RS,seval]) (.cons (Cv.ir (pg 0)) (.cons (Cv.ir Ml) (.cons (.refl _) .nil))) (by simp only[cc.cells,aJ.cells,bc.cells,En.cells,aq,ak,LW]) ⟨rfl,rfl⟩
 ·have hm:=hm (by simpa using h);simp only[gC,az]at hm;refine ic (.cons (.refl _) (.cons (.refl _) (.cons (Cv.ir (.cons (.refl _) (.cons (.nil 3) (.cons (.refl _) (.cons (.refl _) (.cons (.refl _) (.cons (.refl _) (.cons (.refl _) (.cons (.refl _) .nil))))))))) .nil))) (hm _) ?_;simp only[fp,cc.cells,aJ.cells,bc.cells,En.cells,aq,ak,VV,seval];exact aG aQ (.inr rfl) (by simp only[RS,seval];rfl) (by simp only[LW]) ⟨rfl,rfl⟩
theorem um(o:cc)(e:En)(ho:o.small)(gl:∀ x∈o.ops,cw x=0)(hs:(asked e).small)(fD:cy (asked e)=0)(hd:o.down=false){o':cc}{x:aJ}{er:Int}
  (h0:find (cq o.ops) (dL (asked e))<0→o'=cc.zero∧x=eY∧er=6)
  (hm:0≤find (cq o.ops) (dL (asked e))→∀ σ,PC prog 81 [.agg o.cells,.i .i64 2,.agg (gC e).cells] σ (fun r σ'=>r=fp o' x er∧σ'=σ)) (σ:ag) :
  PC prog 46 [.agg o.cells,.agg e.cells] σ (fun r σ'=>r=fp o' x er∧σ'=σ):=by
 refine PC.intro func46 c46 fun aQ cz=>aj ?_;have hM:=nn gl
 have rA:∀ y∈cq o.ops,y.small:=fun y hy=>by
  simp only[cq,bK,cV]at hy;obtain⟨o',⟨h1,_⟩,rfl⟩:=hy;exact(ho.ops o' (mU h1)).entry
 have Z7:=ux e;simp only[p46,SS,seval];simp only[cc.cells,En.cells,hd,VV,seval]at hm Z7 ⊢;refine ai (Z7 _) rfl ?_;simp only[VV,seval];refine ai (lO (asked e) hs _) (by simp only[En.cells,VV,seval]) ?_;simp only[fD,VV,seval];refine ai (uu o.ops ho.ops _) rfl ?_;simp only[VV,seval];refine ai (Z7 _) rfl ?_;simp only[VV,seval];refine ai (pM (asked e) hs _) (by simp only[En.cells,VV,seval]) ?_;simp only[VV,seval];refine ai (FJ _ hM rA _ _) rfl ?_;simp only[VV,seval];refine⟨fun h=>?_,fun h=>?_⟩
 ·obtain⟨rfl,rfl,rfl⟩:=h0 (by simpa using h);exact dv aQ (.inr rfl) (by simp only[RS,seval]) (.cons (Cv.ir (pg 0)) (.cons (Cv.ir Ml) (.cons (.refl _) .nil))) (by simp only[cc.cells,aJ.cells,bc.cells,En.cells,aq,ak,LW]) ⟨rfl,rfl⟩
 ·have hm:=hm (by simpa using h);simp only[gC,az]at hm;refine ic (.cons (.refl _) (.cons (.refl _) (.cons (Cv.ir (.cons (.refl _) (.cons (.nil 3) (.cons (.refl _) (.cons (.refl _) (.cons (.refl _) (.cons (.refl _) (.cons (.refl _) (.cons (.refl _) .nil))))))))) .nil))) (hm _) ?_;simp only[fp,cc.cells,aJ.cells,bc.cells,En.cells,aq,ak,VV,seval];exact aG aQ (.inr rfl) (by simp only[RS,seval];rfl) (by simp only[LW]) ⟨rfl,rfl⟩
theorem U3{n:Int}{arr:List aJ}(h:yd n arr)(hn:0≤n∧n<8){c:Nat→Nat}(Ej:∀ o:Nat,o<8→c o≤128)(Cb:c n.toNat=lq n arr)(s t:Int)(ho:lq n arr<128)(DD:fh arr<2^30):Ln (iA n arr 2 (gC (cJ s t)) c):=by
 obtain⟨s1,s2,s3⟩:=Jt c Ej;have h0:=(nz fun x hx=>(h.op x hx).ok).1;have rA:=jt s t
 have e3:(jU c).any (fun n=>decide (128<n))=false:=by
  rw[Q2];intro n hn;have:=s2 n hn;simp;omega
 have EZ:gf ⟨fh arr+1,n,(lq n arr:Int)+1⟩=true:=by simp only[gf,decide_eq_true_eq];omega
 have hv:je (jU c) n=(lq n arr:Int)+1 - 1:=by rw[lM c hn,Cb];omega
 have ha:=zI (mS s t);refine⟨?_,?_,?_⟩
 ·simp only[cw,iA,EZ,s1,e3,hv,looked];simpa[lT,gC,asked]using ha
 ·refine⟨⟨rA.source,rA.gY,by simp[iA,gC],by simp[iA,gC,aM],rA.bS,rA.next,fun x hx=>rA.ids x (by simp only[iA,gC,bf]at hx;exact oo _ hx)⟩,by simp[iA,gC],by simp[iA,gC],by simp only[iA];omega⟩
 ·obtain⟨_,h1,h2,_,_⟩:=Cf _ (mT s t).1 _ (mT s t).2
  have h3:((jU c).flatMap qu).length=2*(jU c).length:=by
   generalize jU c=sn
   induction sn with
   | nil=>rfl
   | cons a r ih=>simp only[cZ,List.length_append,eu,ih,ab];omega
  simp only[bX,iA,gC,cJ,AG,de,List.length_append,dF,eu,ab,ah,h3];simp only[show((2:Int)=1)=False by simp,if_false,ah];omega
theorem akS(s t:Int):cy (asked (cJ s t))=0∧(asked (cJ s t)).small:=by
 have rA:=jt s t;refine⟨zI (mS s t),⟨rA.source,rA.gY,rA.source,rA.gY,rA.bS,rA.next,fun x hx=>rA.ids x ?_⟩⟩;simp only[asked,List.mem_append,or_self]at hx;exact oo _ hx
theorem Vr{n:Int}{arr:List aJ}{k:Nat}(h:yd n arr)(hn:0≤n∧n<8)(hl:arr.length≤180){c:Nat→Nat}(hc:jR (dz arr) c)(Cb:c n.toNat=lq n arr)(kd:Int)(e:En)(he:e.small)(hx:Ln (iA n arr kd e c))(ho:lq n arr<128)(DD:fh arr<2^30)(σ:ag):
  PC prog 59 [.agg (cp n arr k).cells,.i .i64 kd,.agg e.cells] σ (fun r σ'=>r=fp (cp n (arr++[iA n arr kd e c]) (arr.length+1)) (iA n arr kd e c) 0∧σ'=σ):=by
 have e1:rO (cp n arr k) kd e (jU c)=iA n arr kd e c:=by
  simp only[rO,iA,cp,lM c hn,Cb]
 have qp:=mR h.op;have hp:=yN h (iA n arr kd e c)
 have:=Sw (cp n arr k) kd e he (fC h (by omega)) rfl c hc (jU c) rfl (by simp only[cp];rw[lM c hn];omega) (nz fun x hx=>(h.op x hx).ok).1 DD (k9 (dz arr) (iA n arr kd e c))
  (by rw[e1];exact hx.small) (by rw[e1];exact hx.ok) (by rw[e1];exact bZ hx.enc (by decide)) (by simp only[cp];omega) hp.1 (by rw[e1];exact hp.2) σ
 rw[e1]at this
 rwa [k7,xd]at this
theorem MW{m n:Int}{N:Nat}{o:cc}(h:Good m n N o)(hn:0≤n∧n<m∧m≤8)(hN:N≤180)(s t:Int):
  ∃ o' x er,(∀ σ,PC prog 45 [.agg o.cells,.agg (cJ s t).cells] σ (fun r σ'=>r=fp o' x er∧σ'=σ)) ∧
   (∀ σ,PC prog 46 [.agg o.cells,.agg (cJ s t).cells] σ (fun r σ'=>r=fp o' x er∧σ'=σ))∧(er=0→Good m n (N+1) o'):=by
 have DA:0≤n∧n<8:=by omega
 rcases h with⟨arr,k,hu,rfl⟩ | ⟨arr,tl,hu,h3,h4,rfl⟩
 all_goals have h1:=hu.base;have h2:=hu.len
 ·obtain⟨c,hc,Ej,Cb⟩:=mV h1 DA;have zO:=fC (k:=k) h1 (by omega);have gl:∀ x∈(cp n arr k).ops,cw x=0:=fun x hx=>(h1.op x (dA.1 hx)).ok;obtain⟨ha,hs⟩:=akS s t
  by_cases hf:find (cq (cp n arr k).ops) (dL (asked (cJ s t)))<0
  ·exact⟨cc.zero,eY,6,wT _ _ zO gl hs ha rfl (fun _=>⟨rfl,rfl,rfl⟩) (fun h=>by omega),um _ _ zO gl hs ha rfl (fun _=>⟨rfl,rfl,rfl⟩) (fun h=>by omega),fun h=>by simp at h⟩
  by_cases hl:lq n arr<128∧fh arr<2^30
  ·have hx:=U3 h1 DA Ej Cb s t hl.1 hl.2;have hb:=hx.small.entry;exact⟨_,_,_,wT _ _ zO gl hs ha rfl (fun h=>(hf h).elim) (fun _=>Vr h1 DA (by omega) hc Cb 2 _ hb hx hl.1 hl.2),um _ _ zO gl hs ha rfl (fun h=>(hf h).elim) (fun _=>Su h1 DA (by omega) hc Ej 2 _ hx hl.1 hl.2),fun _=>.inl ⟨_,_,hu.own hn.2.1 hx rfl rfl,rfl⟩⟩
  ·have hl:128≤lq n arr∨2^30≤fh arr:=by omega
   have gD:lI (cp n arr k)=lq n arr:=(mh arr n).symm;refine⟨cc.zero,eY,3,wT _ _ zO gl hs ha rfl (fun h=>(hf h).elim) (fun _=>PR _ 2 _ ?_ zO rfl c hc (jU c) rfl (by simp only[cp];rw[lM c DA];omega)),um _ _ zO gl hs ha rfl (fun h=>(hf h).elim) (fun _=>A4 _ _ _ zO (by rw[gD];exact hl)),fun h=>by simp at h⟩;exact⟨hs.source,hs.gY,by simp[gC],by simp[gC,aM],hs.bS,hs.next,fun x hx=>hs.ids x (by simp only[gC,bf]at hx;exact oo _ hx)⟩
 ·exact⟨_,_,_,GQ _ _ rfl,EG _ _ rfl,fun h=>by simp at h⟩
def UB(raw:aJ)(l:List Int)(k:Nat)(o:cc):ag :=
 [.box 29 raw.cells,.box 36 [.i .i64 0,.i .i64 0,.nil,.nil,.i .i64 0,.b false],.box 79 [.sl 1 (l.map bj),.i .i64 k],.box 36 o.cells,.box 36 o.cells]
def plS(σ:ag)(raw:aJ)(l:List Int)(k:Nat)(o:cc):ag:=σ++UB raw l k o
theorem uD(σ:ag)(b1 b2:Ob)(loc:ag)(l:List Int)(k:Nat)(hk:k<2^60)(n:Int)(hn:0<n)(Wy:n<2^62):
  PC prog 42 [.ptr (σ.length+2) 0,.i .i64 n] (σ++(b1::b2::.box 79 [.sl 1 (l.map bj),.i .i64 k]::loc)) (fun r σ'=>∃ v:Int,r=.i .i64 v∧(0≤v∧v<n)∧σ'=σ++(b1::b2::.box 79 [.sl 1 (l.map bj),.i .i64 (k+1:Nat)]::loc)):=by
 have:=vN (σ++(b1::b2::.dead::loc)) (σ.length+2) (by simp) l k hk n hn Wy;simpa[lA]using this
theorem agy(σ:ag)(b1 b2:Ob)(loc:ag)(l:List Int)(k:Nat)(hk:k<2^47):
  PC prog 20 [.ptr (σ.length+2) 0] (σ++(b1::b2::.box 79 [.sl 1 (l.map bj),.i .i64 k]::loc)) (fun r σ'=>∃ (o:aJ) (k':Nat),r=.agg o.cells∧BC o∧(k≤k'∧k'≤k+300)∧σ'=σ++(b1::b2::.box 79 [.sl 1 (l.map bj),.i .i64 k']::loc)):=by
 have:=XO (σ++(b1::b2::.dead::loc)) (σ.length+2) (by simp) l k (by omega);simpa[lA]using this
set_option maxRecDepth 4000 in
set_option maxHeartbeats 4000000 in
theorem Zv{σ:ag}{K:Exit→St→Prop}(aQ:bP σ)(l:List Int)(hl:l.length≤160)(raw:aJ)(Qh:raw.small)(m' n:Int)(ZM:cw raw=0→(bX raw).length≤20000∧raw.aA.aS<m')(hn:0≤n∧n<m'∧m'≤8)(hm3:3≤m'):∀ (m k N:Nat) (o:cc),l.length≤k+m→k+1000*m<2^40→N+m≤170→Good m' n N o →
  (∀ k o,Good m' n 180 o→(∀ j0 j1 j2 j3 j5 j6 j7 j9 cT cS cX cR cN cM cL cW df dn dx dy dD dI dH dG dX ez eA eH eW fg fi ft fw fG fM fL fK fX gi gF gR gQ il ix iV iU iT iS iR jo jn jm jK jY kx ku kt kH lB l9 mD nr nH nG nF pw pt pq po pn pk qD tH uT uS uR uQ uP uO uN uM uL uK uJ xu xt xr xq xp xo xn xl xk xj xi xh xg zb nZ nY qm ql rh sL sK sJ sI sH sG sF sE sD xM xL xK xJ xH xG xF xE xD xC xB xA xz xy xx xw Aw Av Au As Ar H5 H4 H3 H2 SR SQ ahY ahX ahW ahV ahU ahT ahS ahR ahQ ahP ahO ahN ahM ahL ahK ahJ ahI ahH ahG ahF ahE ahD ahC ahB ahA ahz ahy ahx ahw ahv ahu aht ahs ahr ahq ahp aho ahn ahm ahl ahk ahj ahi ahh ahg ahf ahe ahd ahc ahb aha ag9 ag8 ag7 ag6 ag5 ag4 ag3 ag2 ag1 ag0 agZ agY agX agW agV agU agT agS agR agQ agP agO agN agM agL agK agJ agI agH agG agF agE agD agC,K (.exit 0) ⟨[j0,j1,j2,j3,.ptr (σ.length+1) 0,j5,j6,j7,.ptr (σ.length+3) 0,j9,cT,cS,cX,cR,cN,cM,cL,cW,df,dn,dx,dy,dD,dI,dH,dG,dX,ez,eA,eH,eW,fg,fi,ft,fw,fG,fM,fL,fK,fX,gi,gF,gR,gQ,il,ix,iV,iU,iT,iS,iR,jo,jn,jm,jK,jY,kx,ku,kt,kH,lB,l9,mD,nr,nH,nG,nF,pw,pt,pq,po,pn,pk,qD,tH,uT,uS,uR,uQ,uP,uO,uN,uM,uL,uK,uJ,xu,xt,xr,xq,xp,xo,xn,xl,xk,xj,xi,xh,xg,zb,nZ,nY,qm,ql,rh,sL,sK,sJ,sI,sH,sG,sF,sE,sD,xM,xL,xK,xJ,xH,xG,xF,xE,xD,xC,xB,xA,xz,xy,xx,xw,Aw,Av,Au,As,Ar,H5,H4,H3,H2,SR,SQ,ahY,ahX,ahW,ahV,ahU,ahT,ahS,ahR,ahQ,ahP,ahO,ahN,ahM,ahL,ahK,ahJ,ahI,ahH,ahG,ahF,ahE,ahD,ahC,ahB,ahA,ahz,ahy,ahx,ahw,ahv,ahu,aht,ahs,ahr,ahq,ahp,aho,ahn,ahm,ahl,ahk,ahj,ahi,ahh,ahg,ahf,ahe,ahd,ahc,ahb,aha,ag9,ag8,ag7,ag6,ag5,ag4,ag3,ag2,ag1,ag0,agZ,agY,agX,agW,agV,agU,agT,agS,agR,agQ,agP,agO,agN,agM,agL,agK,agJ,agI,agH,agG,agF,agE,agD,agC],plS σ raw l k o⟩)) →
  fO σ.length prog J3 K (m+1) ⟨[.sl 1 (l.map bj),u,u,.ptr σ.length 0,.ptr (σ.length+1) 0,u,.ptr (σ.length+2) 0,u,.ptr (σ.length+3) 0,u,.ptr (σ.length+4) 0,u,u,u,u,u,u,u,u,u,u,u,u,u,u,u,u,u,u,u,u,u,u,u,u,u,u,u,u,u,u,u,u,u,u,u,u,u,u,u,u,u,u,u,u,u,u,u,u,u,u,u,u,u,u,u,u,u,u,u,u,u,u,u,u,u,u,u,u,u,u,u,u,u,u,u,u,u,u,u,u,u,u,u,u,u,u,u,u,u,u,u,u,u,u,u,u,u,u,u,u,u,u,u,u,u,u,u,u,u,u,u,u,u,u,u,u,u,u,u,u,u,u,u,u,u,u,u,u,u,u,u,u,u,u,u,u,u,u,u,u,u,u,u,u,u,u,u,u,u,u,u,u,u,u,u,u,u,u,u,u,u,u,u,u,u,u,u,u,u,u,u,u,u,u,u,u,u,u,u,u,u,u,u,u,u,u,u,u,u,u,u,u,u,u,u,u,u,u,u,u,u,u,u,u,u,u,u,u,u,u,u,u,u,u,u],plS σ raw l k o⟩:=by
 intro m
 induction m with
 | zero =>
  intro k N o h1 h2 h3 hg hK;have hd:decide ((k:Int)<(l.length:Int))=false:=by simp;omega
  refine ax fun R hR=>?_;simp only[J3,plS,UB,List.length_map,hd,VV,seval];exact hK k o (hg.mono (by omega)) ..
 | succ m ih =>
  intro k N o h1 h2 h3 hg hK;refine ax fun R hR=>?_;have zO:=hg.small (by omega)
  by_cases tJ:k<l.length
  ·have hd:decide ((k:Int)<(l.length:Int))=true:=by simp;omega
   have tail:∀ (k2:Nat) (o2:cc) (fr:List V) (ext:ag),k<k2→k2≤k+1000→Good m' n (N+1) o2 →
     pH fr [.sl 1 (l.map bj),u,u,.ptr σ.length 0,.ptr (σ.length+1) 0,u,.ptr (σ.length+2) 0,u,.ptr (σ.length+3) 0,u,.ptr (σ.length+4) 0,u,u,u,u,u,u,u,u,u,u,u,u,u,u,u,u,u,u,u,u,u,u,u,u,u,u,u,u,u,u,u,u,u,u,u,u,u,u,u,u,u,u,u,u,u,u,u,u,u,u,u,u,u,u,u,u,u,u,u,u,u,u,u,u,u,u,u,u,u,u,u,u,u,u,u,u,u,u,u,u,u,u,u,u,u,u,u,u,u,u,u,u,u,u,u,u,u,u,u,u,u,u,u,u,u,u,u,u,u,u,u,u,u,u,u,u,u,u,u,u,u,u,u,u,u,u,u,u,u,u,u,u,u,u,u,u,u,u,u,u,u,u,u,u,u,u,u,u,u,u,u,u,u,u,u,u,u,u,u,u,u,u,u,u,u,u,u,u,u,u,u,u,u,u,u,u,u,u,u,u,u,u,u,u,u,u,u,u,u,u,u,u,u,u,u,u,u,u,u,u,u,u,u,u,u,u,u,u,u,u,u,u,u,u,u] →
     R ⟨fr,σ++(UB raw l k2 o2++ext)⟩:=by
    intro k2 o2 fr ext qA tK ZX hc;have qG:bP (σ++UB raw l k2 o2):=bU aQ (by simp only[UB,aJ.cells,bc.cells,En.cells,cc.cells,aq,ak,bV,bD,false_imp_iff,implies_true,LW]);have IP:(UB raw l k2 o2).length=5:=rfl;refine hR _ (cH (UB raw l k2 o2) ext qG hc ?_ (ih k2 (N+1) o2 (by omega) (by omega) (by omega) ZX hK));simp only[IP,LW];omega
   simp only[J3,plS,UB,List.length_map,hd,VV,seval];refine cG (uD σ _ _ _ l k (by omega) 9 (by decide) (by decide)) rfl ?_;rintro _ _ ⟨v,rfl,hv,rfl⟩;rcases(by omega:(v=0∨v=1∨v=2)∨v=3∨(v=4∨v=5)∨v=6∨v=7∨v=8)with h | h | h | h | h | h
   ·rcases h with rfl | rfl | rfl
    all_goals
     simp only[VV,seval];refine cG (uD σ _ _ _ l (k+1) (by omega) 3 (by decide) (by decide)) rfl ?_;rintro _ _ ⟨a,rfl,ha,rfl⟩;simp only[VV,seval];refine cG (uD σ _ _ _ l (k+1+1) (by omega) 4 (by decide) (by decide)) rfl ?_;rintro _ _ ⟨b,rfl,hb,rfl⟩;simp only[VV,seval];refine ai (mH a b _) rfl ?_;obtain⟨o',x,er,c1,c2,c3⟩:=MX hg hn (by omega) a b;generalize cJ a b=e at c1 c2;simp only[cc.cells,En.cells,VV,seval]at c1 c2 ⊢;refine ai (c1 _) rfl ?_;simp only[fp,cc.cells,aJ.cells,bc.cells,En.cells,aq,ak,VV,seval];refine ai (c2 _) rfl ?_;simp only[fp,cc.cells,aJ.cells,bc.cells,En.cells,aq,ak,bne_self_eq_false,VV,seval];refine bg (c:=true) (by simp only[VV,seval]<;>rfl) (fun _=>nj x x _) (by simp only[aJ.cells,bc.cells,En.cells,VV,seval]) ?_;simp only[uA.2,VV,seval];refine⟨fun h=>?_,fun h=>?_⟩
     ·have h:er=0:=by simpa using h
      refine ai (eO o' ((c3 h).small (by omega)) _) (by simp only[cc.cells,VV,seval]) ?_;simp only[VV,seval];exact tail (k+1+1+1) o' _ _ (by omega) (by omega) (c3 h) (by repeat' constructor)
     ·refine ai (eO o zO _) (by simp only[cc.cells,VV,seval]) ?_;simp only[VV,seval];exact tail (k+1+1+1) o _ _ (by omega) (by omega) (hg.mono (by omega)) (by repeat' constructor)
   ·subst h;simp only[VV,seval];refine cG (uD σ _ _ _ l (k+1) (by omega) 3 (by decide) (by decide)) rfl ?_;rintro _ _ ⟨a,rfl,ha,rfl⟩;simp only[VV,seval];refine cG (uD σ _ _ _ l (k+1+1) (by omega) 4 (by decide) (by decide)) rfl ?_;rintro _ _ ⟨b,rfl,hb,rfl⟩;simp only[VV,seval];refine ai (mH a b _) rfl ?_;obtain⟨o',x,er,c1,c2,c3⟩:=MW hg hn (by omega) a b;generalize cJ a b=e at c1 c2;simp only[cc.cells,En.cells,VV,seval]at c1 c2 ⊢;refine ai (c1 _) rfl ?_;simp only[fp,cc.cells,aJ.cells,bc.cells,En.cells,aq,ak,VV,seval];refine ai (c2 _) rfl ?_;simp only[fp,cc.cells,aJ.cells,bc.cells,En.cells,aq,ak,bne_self_eq_false,VV,seval];refine bg (c:=true) (by simp only[VV,seval]<;>rfl) (fun _=>nj x x _) (by simp only[aJ.cells,bc.cells,En.cells,VV,seval]) ?_;simp only[uA.2,VV,seval];refine⟨fun h=>?_,fun h=>?_⟩
    ·have h:er=0:=by simpa using h
     refine ai (eO o' ((c3 h).small (by omega)) _) (by simp only[cc.cells,VV,seval]) ?_;simp only[VV,seval];exact tail (k+1+1+1) o' _ _ (by omega) (by omega) (c3 h) (by repeat' constructor)
    ·refine ai (eO o zO _) (by simp only[cc.cells,VV,seval]) ?_;simp only[VV,seval];exact tail (k+1+1+1) o _ _ (by omega) (by omega) (hg.mono (by omega)) (by repeat' constructor)
   ·rcases h with rfl | rfl
    all_goals
     simp only[VV,seval];refine cG (agy σ _ _ _ l (k+1) (by omega)) rfl ?_;rintro _ _ ⟨y,k',rfl,hy,hk',rfl⟩;simp only[aJ.cells,bc.cells,En.cells,aq,ak,VV,seval];refine cG (uD σ _ _ _ l k' (by omega) 9 (by decide) (by decide)) rfl ?_;rintro _ _ ⟨w,rfl,hw,rfl⟩;simp only[VV,seval];refine⟨fun h=>?_,fun h=>?_⟩
     ·obtain⟨o',er,c1,c2,c3,c4⟩:=DT hg (by omega) raw Qh ZM;simp only[cc.cells,aJ.cells,bc.cells,En.cells,aq,ak,VV,seval]at c1 c2 ⊢;refine ai (c1 _) rfl ?_;simp only[dS,cc.cells,VV,seval];refine ai (c2 _) rfl ?_;simp only[dS,cc.cells,bne_self_eq_false,VV,seval];refine⟨fun h=>?_,fun h=>?_⟩
      ·have h:er=0:=by simpa using h
       refine ai (eO o' ((c3 h).small (by omega)) _) (by simp only[cc.cells,VV,seval]) ?_;simp only[VV,seval];exact tail (k'+1) o' _ _ (by omega) (by omega) (c3 h) (by repeat' constructor)
      ·refine ai (eO o zO _) (by simp only[cc.cells,VV,seval]) ?_;simp only[VV,seval];exact tail (k'+1) o _ _ (by omega) (by omega) (hg.mono (by omega)) (by repeat' constructor)
     ·obtain⟨o',er,c1,c2,c3,c4⟩:=DT hg (by omega) y hy.small (fun _=>⟨WZ hy,by have:=hy.off;omega⟩);simp only[cc.cells,aJ.cells,bc.cells,En.cells,aq,ak,VV,seval]at c1 c2 ⊢;refine ai (c1 _) rfl ?_;simp only[dS,cc.cells,VV,seval];refine ai (c2 _) rfl ?_;simp only[dS,cc.cells,bne_self_eq_false,VV,seval];refine⟨fun h=>?_,fun h=>?_⟩
      ·have h:er=0:=by simpa using h
       refine ai (eO o' ((c3 h).small (by omega)) _) (by simp only[cc.cells,VV,seval]) ?_;simp only[VV,seval];exact tail (k'+1) o' _ _ (by omega) (by omega) (c3 h) (by repeat' constructor)
      ·refine ai (eO o zO _) (by simp only[cc.cells,VV,seval]) ?_;simp only[VV,seval];exact tail (k'+1) o _ _ (by omega) (by omega) (hg.mono (by omega)) (by repeat' constructor)
   ·subst h;simp only[VV,seval];obtain⟨o',er,c1,c2,c3⟩:=Xf hg (by omega);simp only[cc.cells,VV,seval]at c1 c2 ⊢;refine ai (c1 _) rfl ?_;simp only[dS,cc.cells,VV,seval];refine ai (c2 _) rfl ?_;simp only[dS,cc.cells,bne_self_eq_false,VV,seval];refine⟨fun h=>?_,fun h=>?_⟩
    ·have h:er=0:=by simpa using h
     refine ai (eO o' ((c3 h).small (by omega)) _) (by simp only[cc.cells,VV,seval]) ?_;simp only[VV,seval];exact tail (k+1) o' _ _ (by omega) (by omega) (c3 h) (by repeat' constructor)
    ·refine ai (eO o zO _) (by simp only[cc.cells,VV,seval]) ?_;simp only[VV,seval];exact tail (k+1) o _ _ (by omega) (by omega) (hg.mono (by omega)) (by repeat' constructor)
   ·subst h;simp only[VV,seval];refine cG (uD σ _ _ _ l (k+1) (by omega) 300 (by decide) (by decide)) rfl ?_;rintro _ _ ⟨a,rfl,ha,rfl⟩;simp only[VV,seval];have hw:IntKind.i64.wrap (a - 20)=a - 20:=IntWalk.i64_in _ (by omega);simp only[hw,seval];obtain⟨c1,c2,c3⟩:=zw hg (by omega) (a - 20);simp only[cc.cells,VV,seval]at c1 c2 ⊢;refine ai (c1 _) rfl ?_;simp only[VV,seval];refine ai (c2 _) rfl ?_;simp only[VV,seval];refine ai (eO (jd o (a - 20)) (c3.small (by omega)) _) (by simp only[cc.cells,VV,seval]) ?_;simp only[VV,seval];exact tail (k+1+1) (jd o (a - 20)) _ _ (by omega) (by omega) (c3.mono (by omega)) (by repeat' constructor)
   ·subst h;simp only[VV,seval];obtain⟨o',er,c1,c2,c3,c4⟩:=DS hg (by omega);simp only[cc.cells,VV,seval]at c1 c2 ⊢;refine ai (c1 _) rfl ?_;simp only[dS,cc.cells,VV,seval];refine ai (c2 _) rfl ?_;simp only[dS,cc.cells,bne_self_eq_false,VV,seval];refine⟨fun h=>?_,fun h=>?_⟩
    ·have h:er=0:=by simpa using h
     refine ai (eO o' ((c3 h).small (by omega)) _) (by simp only[cc.cells,VV,seval]) ?_;simp only[VV,seval];exact tail (k+1) o' _ _ (by omega) (by omega) (c3 h) (by repeat' constructor)
    ·refine ai (eO o zO _) (by simp only[cc.cells,VV,seval]) ?_;simp only[VV,seval];exact tail (k+1) o _ _ (by omega) (by omega) (hg.mono (by omega)) (by repeat' constructor)
  ·have hd:decide ((k:Int)<(l.length:Int))=false:=by simp;omega
   simp only[J3,plS,UB,List.length_map,hd,VV,seval];exact hK k o (hg.mono (by omega)) ..
theorem Qy(l:List Int)(σ:ag):PC prog 21 [.sl 1 (l.map bj)] σ (fun r σ'=>r=.ptr σ.length 0∧σ'=σ++[.box 79 [.sl 1 (l.map bj),.i .i64 ((0:Nat):Int)]]):=by
 refine PC.intro func21 c21 fun aQ cz=>aj ?_;simp only[p21,SS,seval];simp only[VV,seval];exact ed (.inr rfl) rfl (Wk.refl _ _) rfl ⟨rfl,rfl⟩
theorem TB(m n:Int):Good m n 0 ⟨n,0,[],[],0,false⟩:=.inl ⟨[],0,⟨OO n,by simp,by simp,by simp,by simp⟩,rfl⟩
set_option maxRecDepth 4000 in
set_option maxHeartbeats 4000000 in
theorem sk(l:List Int)(hl:l.length≤160)(raw:aJ)(Qh:raw.small)(m:Int)(hm:3≤m∧m≤8)(ZM:cw raw=0→(bX raw).length≤20000∧raw.aA.aS<m)(σ:ag):
  PC prog 12 [.sl 1 (l.map bj),.agg raw.cells] σ (fun r σ'=>∃ n o,(0≤n∧n<3)∧Good m n 180 o∧r=.iK [.agg o.cells,.b true]∧σ'=σ):=by
 refine PC.intro func12 Rc fun aQ cz=>?_;simp only[p12,SS,seval];refine bA.cutAt (.more (.more (.more (.more (.more (.one _ _)))))) fun R hR=>?_;simp only[aJ.cells,bc.cells,En.cells,aq,ak,VV,seval];refine ai (Qy l _) rfl ?_;simp only[VV,seval];refine cG (uD σ _ _ [] l 0 (by decide) 3 (by decide) (by decide)) rfl ?_;rintro _ _ ⟨n,rfl,hn,rfl⟩;simp only[VV,seval];refine ai (Vo n hn.1 (by omega) _) rfl ?_;simp only[cc.cells,VV,seval];refine ai (NF n hn.1 (by omega) _) rfl ?_;simp only[cc.cells,az,VV,seval];refine hR _ (aj ?_);simp only[VV,seval];refine bA.aW (fr':=[.sl 1 (l.map bj),u,u,.ptr σ.length 0,.ptr (σ.length+1) 0,u,.ptr (σ.length+2) 0,u,.ptr (σ.length+3) 0,u,.ptr (σ.length+4) 0,u,u,u,u,u,u,u,u,u,u,u,u,u,u,u,u,u,u,u,u,u,u,u,u,u,u,u,u,u,u,u,u,u,u,u,u,u,u,u,u,u,u,u,u,u,u,u,u,u,u,u,u,u,u,u,u,u,u,u,u,u,u,u,u,u,u,u,u,u,u,u,u,u,u,u,u,u,u,u,u,u,u,u,u,u,u,u,u,u,u,u,u,u,u,u,u,u,u,u,u,u,u,u,u,u,u,u,u,u,u,u,u,u,u,u,u,u,u,u,u,u,u,u,u,u,u,u,u,u,u,u,u,u,u,u,u,u,u,u,u,u,u,u,u,u,u,u,u,u,u,u,u,u,u,u,u,u,u,u,u,u,u,u,u,u,u,u,u,u,u,u,u,u,u,u,u,u,u,u,u,u,u,u,u,u,u,u,u,u,u,u,u,u,u,u,u,u,u,u,u,u,u,u,u,u,u,u,u,u,u,u,u,u,u,u]) ?_ (l.length+1) (Zv aQ l hl raw Qh m n ZM ⟨hn.1,by omega,hm.2⟩ hm.1 l.length 1 0 ⟨n,0,[],[],0,false⟩ (by omega) (by omega) (by omega) ((TB m n).mono (by decide)) ?_)
 ·repeat' constructor
 intro k o hg;intros;simp only[plS,UB,aJ.cells,bc.cells,En.cells,cc.cells,aq,ak,VV,seval];exact aG aQ (.inr rfl) (by simp only[RS,seval];rfl) (by simp only[LW]) ⟨n,o,hn,hg,rfl,rfl⟩
end Go.Proofs.Tryz

/- A part of the proof of the statement of the last text of this claim; its conditions stand there. -/
import Derived.Test.YtkkjfegefckehaaGreatDoorB42
import Derived.Test.YtkkjfegefckehaaGreatDoorR3
import Derived.Test.YtkkjfegefckehaaGreatDoorR4
import Derived.Test.YtkkjfegefckehaaGreatDoorR5
set_option linter.all false

namespace Go.Proofs.Tryz
open Go Go.Pm Go.Bt Go.RowKit
open Go.Pm.V(u)
def gy(o:cc):Ob:=.box 36 o.cells
theorem z7(o:cc)(hd:o.down=true)(σ:ag):PC prog 23 [.agg o.cells] σ (fun r σ'=>r=.sl 1 (([]:List Int).map bj)∧σ'=σ):=by
 refine PC.intro func23 c23 fun aQ cz=>?_;simp only[p23,SS,seval];refine bA.cut fun R hR=>?_;simp only[cc.cells,hd,VV,seval];refine hR _ ?_;clear hR R;refine bA.cut fun R hR=>?_;simp only[VV,seval];exact dv aQ (.inr rfl) (by simp only[RS,seval]) (.cons (.nil 1) .nil) (by simp only[LW]) ⟨rfl,rfl⟩
theorem uF(o:cc)(hd:o.down=true)(σ:ag):PC prog 24 [.agg o.cells] σ (fun r σ'=>r=.sl 8 (([]:List En).map En.cells)∧σ'=σ):=by
 refine PC.intro func24 c24 fun aQ cz=>aj ?_;simp only[p24,SS,seval];simp only[cc.cells,hd,VV,seval];exact dv aQ (.inr rfl) (by simp only[RS,seval]) (.cons (.nil 8) .nil) (by simp only[LW]) ⟨rfl,rfl⟩
theorem Mb(o:cc)(ho:o.small)(σ:ag):PC prog 38 [.agg o.cells] σ (fun r σ'=>r=.sl 8 ((cq o.ops).map En.cells)∧σ'=σ):=by
 refine PC.intro func38 c38 fun aQ cz=>aj ?_;simp only[p38,SS,seval];simp only[cc.cells,VV,seval];refine ai (uu o.ops ho.ops _) rfl ?_;simp only[VV,seval];exact aG aQ (.inr rfl) (by simp only[RS,seval];rfl) (by simp only[LW]) ⟨rfl,rfl⟩
theorem rK(n:List aJ)(o:aJ):n.map aJ.cells++[[.i .i64 o.aA.time,.i .i64 o.aA.aS,.i .i64 o.aA.number,.i .i64 o.kind,.sl 3 (o.entry.source.map It.cells),.sl 3 (o.entry.target.map It.cells),.s o.entry.bS,.s o.entry.next,.s o.entry.cQ,.s o.entry.cn,.i .i64 o.entry.created,.i .i64 o.entry.origin,.sl 1 (o.seen.map bj)]]=(n++[o]).map aJ.cells:=by
 simp[aJ.cells,bc.cells,En.cells]
theorem Mw{σ:ag}{K:Exit→St→Prop}(aQ:bP σ)(l:List aJ)(hs:∀ x∈l,x.small)(hlen:l.length<2^39)(v:List Int):∀ (rest pre out:List aJ) (g:Nat),l=pre++rest→out.length≤pre.length →
  (∀ g,(∀ j0 j2 j3 j4 j6 j7 j8 j9 cT cS cX cR cN cM cL cW df dn dx dy dD dI dH dG dX ez eA,K (.exit 0) ⟨[j0,.sl 1 (v.map bj),j2,j3,j4,.own σ.length g,j6,j7,j8,j9,cT,cS,cX,cR,cN,cM,cL,cW,df,dn,dx,dy,dD,dI,dH,dG,dX,ez,eA],σ++[dR g false (out++gw rest v)]⟩)) →
  fO σ.length prog yQ K (rest.length+1) ⟨[u,.sl 1 (v.map bj),u,u,u,.own σ.length g,u,u,u,u,u,.sl 13 (l.map aJ.cells),.i .i64 l.length,.i .i64 pre.length,u,u,u,u,u,u,u,u,u,u,u,u,u,u,u],σ++[dR g false out]⟩:=by
 intro rest
 induction rest with
 | nil =>
  intro pre out g he hm h1;have he:l=pre:=by simpa using he
  subst he;simp only[gw,mZ,bf]at h1;refine ax fun R hR=>?_;simp only[yQ,VV,seval];exact⟨fun h=>by simp at h,fun _=>h1 g ..⟩
 | cons x rest ih =>
  intro pre out g he hm h1;have hl:l.length=pre.length+(rest.length+1):=by rw[he];simp
  have hx:x.small:=hs x (by rw[he];simp)
  have hw:IntKind.i64.wrap ((pre.length:Int)+1)=(((pre++[x]).length:Nat):Int):=by
   rw[aV (by omega)];simp
  have dY:(List.map aJ.cells l).getD pre.length []=x.cells:=by rw[he];exact ki
  have hd:decide ((pre.length:Int)<(l.length:Int))=true:=by simp;omega
  have UH:=AH v x.aA;have Wn:=nQ x hx;simp only[aJ.cells,bc.cells,En.cells,aq,ak]at UH Wn;refine ax fun R hR=>?_;simp only[yQ,dR,an,dY,hd,List.length_map,aJ.cells,bc.cells,En.cells,VV,seval];refine⟨⟨by omega,by omega⟩,?_⟩;refine ai (UH _) rfl ?_;simp only[hw,VV,seval];have E1:(out.length+1)*184≤2^47∧out.length+1≤maxLen:=by simp only[maxLen];omega
  refine⟨fun h=>?_,fun h=>?_⟩
  ·have e:gw (x::rest) v=x::gw rest v:=kf (by simpa using h);rw[e]at h1;refine ai (Wn _) rfl ?_;simp only[List.length_map,hw,V.pure,VV,seval];refine⟨by simpa using E1,?_⟩;rw[rK];refine hR _ (cH [dR (g+1) false (out++[x])] [_] (bU aQ (by simp[dR])) ?_ ?_ (ih (pre++[x]) (out++[x]) (g+1) (by rw[he];simp) (by simp;omega) (by simpa using h1)))
   ·repeat' constructor
   ·simp only[LW,ab,ah,aK];omega
  ·have e:gw (x::rest) v=gw rest v:=mf (by simpa using h);rw[e]at h1;refine hR _ (cH [dR g false out] [_] (bU aQ (by simp[dR])) ?_ ?_ (ih (pre++[x]) out g (by rw[he];simp) (by simp;omega) h1))
   ·repeat' constructor
   ·simp only[LW,ab,ah,aK];omega
theorem My(o:cc)(v:List Int)(hd:o.down=true)(σ:ag):PC prog 39 [.agg o.cells,.sl 1 (v.map bj)] σ (fun r σ'=>r=.sl 13 (([]:List aJ).map aJ.cells)∧σ'=σ):=by
 refine PC.intro func39 c39 fun aQ cz=>?_;simp only[p39,SS,seval];refine bA.cut fun R hR=>?_;simp only[cc.cells,hd,VV,seval];refine hR _ ?_;clear hR R;refine bA.cut fun R hR=>?_;simp only[VV,seval];exact dv aQ (.inr rfl) (by simp only[RS,seval]) (.cons (.nil 13) .nil) (by simp only[LW]) ⟨rfl,rfl⟩
theorem Dl(o:cc)(ho:o.small)(hd:o.down=false)(v:List Int)(σ:ag):PC prog 39 [.agg o.cells,.sl 1 (v.map bj)] σ (fun r σ'=>r=.sl 13 ((gw o.ops v).map aJ.cells)∧σ'=σ):=by
 refine PC.intro func39 c39 fun aQ cz=>?_;have hlen:=ho.len;simp only[p39,SS,seval];refine bA.cut fun R hR=>?_;simp only[cc.cells,hd,VV,seval];refine hR _ ?_;clear hR R;refine bA.cut fun R hR=>?_;simp only[VV,seval];refine hR _ ?_;clear hR R;refine bA.cut fun R hR=>?_;simp only[VV,seval];refine hR _ (aj ?_);clear hR R;simp only[List.length_map,VV,seval];have KJ:gM σ.length [u,.sl 1 (v.map bj),u,u,u,.nil,u,u,u,u,u,.sl 13 (o.ops.map aJ.cells),.i .i64 o.ops.length,.i .i64 (([]:List aJ).length:Nat),u,u,u,u,u,u,u,u,u,u,u,u,u,u,u]:=by simp only[LW]
 refine bA.wk ((((Wk.ej (ys:=[u,.sl 1 (v.map bj),u,u,u,.nil,u,u,u,u,u,.sl 13 (o.ops.map aJ.cells),.i .i64 o.ops.length,.i .i64 (([]:List aJ).length:Nat),u,u,u,u,u,u,u,u,u,u,u,u,u,u,u]) (by repeat' constructor)).trans (Wk.r3 (aB _) aQ (eX.1 KJ))).trans (Wk.gZ (P:=prog) (k:=5) Cm rfl)).trans (Wk.ej (ys:=[u,.sl 1 (v.map bj),u,u,u,.own σ.length 0,u,u,u,u,u,.sl 13 (o.ops.map aJ.cells),.i .i64 o.ops.length,.i .i64 (([]:List aJ).length:Nat),u,u,u,u,u,u,u,u,u,u,u,u,u,u,u]) ?_))
  (bA.pd (o.ops.length+1) (Mw aQ o.ops ho.ops (by omega) v o.ops [] [] 0 rfl (aB _) ?_))
 ·simp only[VV,seval]
  repeat' constructor
 intro g;intros;simp only[dR,ak,VV,seval];refine gg 0 aQ (.inr rfl) (by simp only[RS,seval];rfl) rfl ?_ ?_
 ·simp only[ay,az,bC,Pm.fz,kc,and_self,if_true,LW]
 ·simp only[ay,az,bC,Pm.fz,kc,and_self,if_true];exact⟨rfl,trivial⟩
theorem Zo{σ:ag}{K:Exit→St→Prop}(aQ:bP σ)(l:List aJ)(hlen:l.length<2^39)(v:List Int):∀ (rest pre out:List aJ) (g:Nat),l=pre++rest→out.length≤pre.length →
  (∀ g,(∀ j0 j2 j3 j4 j6 j7 j8 j9 cT cS cX cR cN cM cL cW df dn dx dy dD dI dH dG,K (.exit 0) ⟨[j0,.sl 1 (v.map bj),j2,j3,j4,.own σ.length g,j6,j7,j8,j9,cT,cS,cX,cR,cN,cM,cL,cW,df,dn,dx,dy,dD,dI,dH,dG],σ++[dR g false (out++gw rest v)]⟩)) →
  fO σ.length prog NZ K (rest.length+1) ⟨[u,.sl 1 (v.map bj),u,u,u,.own σ.length g,u,u,u,.sl 13 (l.map aJ.cells),.i .i64 l.length,.i .i64 pre.length,u,u,u,u,u,u,u,u,u,u,u,u,u,u],σ++[dR g false out]⟩:=by
 intro rest
 induction rest with
 | nil =>
  intro pre out g he hm h1;have he:l=pre:=by simpa using he
  subst he;simp only[gw,mZ,bf]at h1;refine ax fun R hR=>?_;simp only[NZ,VV,seval];exact⟨fun h=>by simp at h,fun _=>h1 g ..⟩
 | cons x rest ih =>
  intro pre out g he hm h1;have hl:l.length=pre.length+(rest.length+1):=by rw[he];simp
  have hw:IntKind.i64.wrap ((pre.length:Int)+1)=(((pre++[x]).length:Nat):Int):=by
   rw[aV (by omega)];simp
  have dY:(List.map aJ.cells l).getD pre.length []=x.cells:=by rw[he];exact ki
  have hd:decide ((pre.length:Int)<(l.length:Int))=true:=by simp;omega
  have UH:=G4 v x.aA;simp only[bc.cells]at UH;refine ax fun R hR=>?_;simp only[NZ,dR,an,dY,hd,List.length_map,aJ.cells,bc.cells,En.cells,VV,seval];refine⟨⟨by omega,by omega⟩,?_⟩;refine ai (UH _) rfl ?_;simp only[hw,VV,seval];have E1:(out.length+1)*184≤2^47∧out.length+1≤maxLen:=by simp only[maxLen];omega
  refine⟨fun h=>?_,fun h=>?_⟩
  ·have e:gw (x::rest) v=x::gw rest v:=kf (by simpa using h);rw[e]at h1;simp only[List.length_map,seval];refine⟨by simpa using E1,?_⟩;rw[rK];refine hR _ (cH [dR (g+1) false (out++[x])] [_] (bU aQ (by simp[dR])) ?_ ?_ (ih (pre++[x]) (out++[x]) (g+1) (by rw[he];simp) (by simp;omega) (by simpa using h1)))
   ·repeat' constructor
   ·simp only[LW,ab,ah,aK];omega
  ·have e:gw (x::rest) v=gw rest v:=mf (by simpa using h);rw[e]at h1;refine hR _ (cH [dR g false out] [_] (bU aQ (by simp[dR])) ?_ ?_ (ih (pre++[x]) out g (by rw[he];simp) (by simp;omega) h1))
   ·repeat' constructor
   ·simp only[LW,ab,ah,aK];omega
theorem Pn(o:cc)(ho:o.small)(v:List Int)(σ:ag):PC prog 40 [.agg o.cells,.sl 1 (v.map bj)] σ (fun r σ'=>r=.sl 13 ((gw o.ops v).map aJ.cells)∧σ'=σ):=by
 refine PC.intro func40 c40 fun aQ cz=>aj ?_;have hlen:=ho.len;simp only[p40,SS,seval];simp only[cc.cells,List.length_map,VV,seval];have KJ:gM σ.length [u,.sl 1 (v.map bj),u,u,u,.nil,u,u,u,.sl 13 (o.ops.map aJ.cells),.i .i64 o.ops.length,.i .i64 (([]:List aJ).length:Nat),u,u,u,u,u,u,u,u,u,u,u,u,u,u]:=by simp only[LW]
 refine bA.wk ((((Wk.ej (ys:=[u,.sl 1 (v.map bj),u,u,u,.nil,u,u,u,.sl 13 (o.ops.map aJ.cells),.i .i64 o.ops.length,.i .i64 (([]:List aJ).length:Nat),u,u,u,u,u,u,u,u,u,u,u,u,u,u]) (by repeat' constructor)).trans (Wk.r3 (aB _) aQ (eX.1 KJ))).trans (Wk.gZ (P:=prog) (k:=5) Cm rfl)).trans (Wk.ej (ys:=[u,.sl 1 (v.map bj),u,u,u,.own σ.length 0,u,u,u,.sl 13 (o.ops.map aJ.cells),.i .i64 o.ops.length,.i .i64 (([]:List aJ).length:Nat),u,u,u,u,u,u,u,u,u,u,u,u,u,u]) ?_))
  (bA.pd (o.ops.length+1) (Zo aQ o.ops (by omega) v o.ops [] [] 0 rfl (aB _) ?_))
 ·simp only[VV,seval]
  repeat' constructor
 intro g;intros;simp only[dR,ak,VV,seval];refine gg 0 aQ (.inr rfl) (by simp only[RS,seval];rfl) rfl ?_ ?_
 ·simp only[ay,az,bC,Pm.fz,kc,and_self,if_true,LW]
 ·simp only[ay,az,bC,Pm.fz,kc,and_self,if_true];exact⟨rfl,trivial⟩
theorem Qq{m n:Int}{N:Nat}{o:cc}(h:Good m n N o)(hn:0≤n∧n<8)(hN:N≤180):
  ∃ sn:List Int,(∀ σ,PC prog 23 [.agg o.cells] σ (fun r σ'=>r=.sl 1 (sn.map bj)∧σ'=σ)) ∧
   (∀ σ,PC prog 36 [.agg o.cells] σ (fun r σ'=>r=.sl 1 (sn.map bj)∧σ'=σ)):=by
 have hs:=h.small hN;rcases h with⟨arr,k,hu,rfl⟩ | ⟨arr,tl,hu,h3,h4,rfl⟩
 ·obtain⟨c,hc,Ej,Cb⟩:=mV hu.base hn;exact⟨jU c,o9 _ hs rfl c hc,CI _ hs c hc Ej⟩
 ·refine⟨[],z7 _ rfl,?_⟩;have hc:jR (oL n arr tl).ops fun _=>0:=⟨fun _ _=>by decide,fun _ _ j hj=>by omega,fun _ _ x hx=>by simp[oL]at hx⟩;have e:jU (fun _=>0)=[]:=by decide +kernel
  have:=CI _ hs (fun _=>0) hc (fun _ _=>by decide)
  rwa [e]at this
theorem KM{m n:Int}{N:Nat}{o:cc}(h:Good m n N o)(hN:N≤180):
  ∃ es:List En,(∀ σ,PC prog 24 [.agg o.cells] σ (fun r σ'=>r=.sl 8 (es.map En.cells)∧σ'=σ)) ∧
   (∀ σ,PC prog 38 [.agg o.cells] σ (fun r σ'=>r=.sl 8 (es.map En.cells)∧σ'=σ)):=by
 have hs:=h.small hN;have hr:=Mb o hs;cases hd:o.down with
 | false=>exact⟨cq o.ops,pP o hs hd,hr⟩
 | true =>
  have e:o.ops=[]:=by
   rcases h with⟨arr,k,hu,rfl⟩ | ⟨arr,tl,hu,h3,h4,rfl⟩
   ·simp[cp]at hd
   ·rfl
  rw[e,show cq []=[]from aen]at hr;exact⟨[],uF o hd,hr⟩
theorem MP{m n:Int}{N:Nat}{o:cc}(h:Good m n N o)(hN:N≤180)(v:List Int):
  ∃ ls:List aJ,(∀ σ,PC prog 39 [.agg o.cells,.sl 1 (v.map bj)] σ (fun r σ'=>r=.sl 13 (ls.map aJ.cells)∧σ'=σ)) ∧
   (∀ σ,PC prog 40 [.agg o.cells,.sl 1 (v.map bj)] σ (fun r σ'=>r=.sl 13 (ls.map aJ.cells)∧σ'=σ)):=by
 have hs:=h.small hN;have hr:=Pn o hs v;cases hd:o.down with
 | false=>exact⟨gw o.ops v,Dl o hs hd v,hr⟩
 | true =>
  have e:o.ops=[]:=by
   rcases h with⟨arr,k,hu,rfl⟩ | ⟨arr,tl,hu,h3,h4,rfl⟩
   ·simp[cp]at hd
   ·rfl
  rw[e]at hr;exact⟨[],My o v hd,hr⟩
theorem Dk{l k:List Int}(hl:l.length<2^62)(hk:k.length<2^62)(h:decide (160<nq [l,k])=false):l.length≤160∧k.length≤160:=by
 have e:nq [l,k]=((l.length+k.length:Nat):Int):=by
  simp only[nq,bd,dB,wo];rw[ll (by omega),IntWalk.i64_in _ (by omega)];omega
 rw[e]at h;simp at h;omega
theorem aej{σ:ag}{K:Exit→St→Prop}(aQ:bP σ){m n:Int}{N:Nat}{o:cc}(hg:Good m n N o)(hN:N≤180)(vs:List (List Int))(hlen:vs.length<2^62):∀ (rest pre:List (List Int)),vs=pre++rest →
  (∀ j0 j1 j2 j3 j4 j6 j7 j8 j9 cT cS cX cR cN cM cL cW df dn dx dy dD dI dH dG dX ez eA eH eW fg fi ft fw fG fM fL fK fX gi gF gR gQ il ix iV iU iT iS iR jo jn jm jK jY kx ku kt,K (.exit 0) ⟨[j0,j1,j2,j3,j4,.ptr σ.length 0,j6,j7,j8,j9,cT,cS,cX,cR,cN,cM,cL,cW,df,dn,dx,dy,dD,dI,dH,dG,dX,ez,eA,eH,eW,fg,fi,ft,fw,fG,fM,fL,fK,fX,gi,gF,gR,gQ,il,ix,iV,iU,iT,iS,iR,jo,jn,jm,jK,jY,kx,ku,kt],σ++[gy o]⟩) →
  fO σ.length prog Vd K (rest.length+1) ⟨[u,u,u,u,u,.ptr σ.length 0,u,u,u,u,u,u,u,u,u,u,u,u,u,u,u,u,u,u,u,u,u,u,u,u,u,u,u,u,u,u,u,u,u,u,u,u,u,.sl 1 (vs.map rQ),.i .i64 vs.length,.i .i64 pre.length,u,u,u,u,u,u,u,u,u,u,u,u,u],σ++[gy o]⟩:=by
 intro rest
 induction rest with
 | nil =>
  intro pre he h1;have he:vs=pre:=by simpa using he
  subst he;refine ax fun R hR=>?_;simp only[Vd,VV,seval];exact⟨fun h=>by simp at h,fun _=>h1 ..⟩
 | cons v rest ih =>
  intro pre he h1;have hl:vs.length=pre.length+(rest.length+1):=by rw[he];simp
  have hw:IntKind.i64.wrap ((pre.length:Int)+1)=(((pre++[v]).length:Nat):Int):=by
   rw[aV (by omega)];simp
  have dY:fe (List.map rQ vs) pre.length 0=some (.sl 1 (v.map bj)):=by rw[he];exact lU
  have hd:decide ((pre.length:Int)<(vs.length:Int))=true:=by simp;omega
  obtain⟨ls,c1,c2⟩:=MP hg hN v;have e1:nm ls ls=true:=rJ.2 rfl;simp only[cc.cells]at c1 c2;refine ax fun R hR=>?_;simp only[Vd,gy,cc.cells,an,dY,hd,List.length_map,VV,seval];refine⟨⟨by omega,by omega⟩,?_⟩;refine ai (c1 _) rfl ?_;simp only[VV,seval];refine ai (c2 _) rfl ?_;simp only[VV,seval];refine ai (rf ls ls _) rfl ?_;simp only[e1,hw,VV,seval];refine hR _ (aW ?_ (ih (pre++[v]) (by rw[he];simp) h1))
  repeat' constructor
set_option maxRecDepth 4000 in
set_option maxHeartbeats 1000000 in
theorem BJ(l seen:List Int)(h1:l.length<2^62)(h2:seen.length<2^62)(σ:ag):PC prog 7 [.sl 1 (l.map bj),.sl 1 (seen.map bj)] σ (fun r σ'=>r=.b true∧σ'=σ):=by
 refine PC.intro func7 c7 fun aQ cz=>?_;simp only[p7,SS,seval];refine bA.cut fun R hR=>?_;simp only[VV,seval];refine hR _ ?_;clear hR R;refine bA.cut fun R hR=>?_;simp only[V.pure,VV,seval];refine ic (zs:=[.sl 1 ([l,seen].map rQ)]) (.cons (.lit _ _) .nil) (vU [l,seen] _) ?_;simp only[VV,seval];refine⟨fun _=>?_,fun h=>?_⟩
 ·refine ai (gh _) rfl ?_;simp only[VV,seval];exact aO (.inr rfl) (by simp only[RS,seval];rfl) ⟨rfl,rfl⟩
 have hl:=(Dk h1 h2 (by simpa using h)).1;have rV:=sk l hl eY kT 3 (by decide) (fun h=>by rw[kZ]at h;cases h);refine hR _ (bA.ej (fr':=[.sl 1 (l.map bj),.sl 1 (seen.map bj),u,u,u,u,u,u,u,u,u,u,u,u,u,u,u,u,u,u,u,u,u,u,u,u,u,u,u,u,u,u,u,u,u,u,u,u,u,u,u,u,u,u,u,u,u,u,u,u,u,u,u,u,u,u,u,u,u]) ?_ (by repeat' constructor));clear hR R;refine bA.cut fun R hR=>?_;simp only[VV,seval];refine cG (PC.wk (args':=[.sl 1 (l.map bj),.agg eY.cells]) (Wk.ej (.cons (.refl _) (.cons (Cv.ir Ml) .nil))) (rV _)) rfl ?_;rintro _ s' ⟨q,o,hq,hg,rfl,hs'⟩;rw[hs'];simp only[cc.cells,VV,seval];refine hR _ (bA.ej (fr':=[u,.sl 1 (seen.map bj),u,u,u,.ptr σ.length 0,.b true,u,u,u,u,u,u,u,u,u,u,u,u,u,u,u,u,u,u,u,u,u,u,u,u,u,u,u,u,u,u,u,u,u,u,u,u,u,u,u,u,u,u,u,u,u,u,u,u,u,u,u,u]) ?_ (by repeat' constructor));clear hR R;obtain⟨sn,s1,s2⟩:=Qq hg (by omega) (by decide);obtain⟨es,m1,m2⟩:=KM hg (by decide);have e1:(sn==sn)=true:=beq_self_eq_true _;have e2:nP es es=true:=v7.2 rfl;have s3:=s1;simp only[cc.cells]at s1 s2 m1 m2;refine bA.cut fun R hR=>?_;simp only[VV,seval];refine bg (by simp only[VV,seval]<;>rfl) (fun _=>s1 _) rfl ?_;simp only[VV,seval];refine bg (by simp only[VV,seval]<;>rfl) (fun _=>s2 _) rfl ?_;simp only[VV,seval];refine bg (by simp only[VV,seval]<;>rfl) (fun _=>ov sn sn _) rfl ?_;simp only[e1,VV,seval];refine bg (by simp only[VV,seval]<;>rfl) (fun _=>m1 _) rfl ?_;simp only[VV,seval];refine bg (by simp only[VV,seval]<;>rfl) (fun _=>m2 _) rfl ?_;simp only[VV,seval];refine bg (by simp only[VV,seval]<;>rfl) (fun _=>qL es es _) rfl ?_;simp only[e2,VV,seval];refine hR _ (bA.ej (fr':=[u,.sl 1 (seen.map bj),u,u,u,.ptr σ.length 0,u,u,u,u,u,u,u,u,u,u,u,u,u,u,u,u,u,u,u,u,u,u,u,u,u,u,u,u,u,u,u,u,u,u,u,u,u,u,u,u,u,u,u,u,u,u,u,u,u,u,u,u,u]) ?_ (by repeat' constructor));clear hR R;refine bA.cut fun R hR=>?_;simp only[VV,seval];refine ai (s1 _) rfl ?_;simp only[V.pure,VV,seval];have hls:([[seen,[],[1],[0,2,1],sn].map rQ]).length=1:=rfl;refine bA.aW (fr':=[u,u,u,u,u,.ptr σ.length 0,u,u,u,u,u,u,u,u,u,u,u,u,u,u,u,u,u,u,u,u,u,u,u,u,u,u,u,u,u,u,u,u,u,u,u,u,u,.sl 1 ([seen,[],[1],[0,2,1],sn].map rQ),.i .i64 ([seen,[],[1],[0,2,1],sn]:List (List Int)).length,.i .i64 (([]:List (List Int)).length:Nat),u,u,u,u,u,u,u,u,u,u,u,u,u]) ?_ 6 (aej aQ hg (by decide) [seen,[],[1],[0,2,1],sn] (by simp) [seen,[],[1],[0,2,1],sn] [] rfl ?_)
 ·repeat' constructor
 intros;simp only[VV,seval];refine hR _ (aj ?_);clear hR R;simp only[VV,seval];refine ai (gh _) rfl ?_;simp only[gy,VV,seval];exact aG aQ (.inr rfl) (by simp only[RS,seval];rfl) (by simp only[LW]) ⟨rfl,rfl⟩
end Go.Proofs.Tryz

/- A part of the proof that for every input the law NetworkLimits returns true and leaves its argument as it was. -/
import Derived.Test.YtgihcpilgfbggaaGreatDoorL3
import Derived.Test.YtgihcpilgfbggaaGreatDoorL14
import Derived.Test.YtgihcpilgfbggaaGreatDoorL21
import Derived.Test.YtgihcpilgfbggaaGreatDoorL23
import Derived.Test.YtgihcpilgfbggaaGreatDoorL24
import Derived.Test.YtgihcpilgfbggaaGreatDoorL28
import Derived.Test.YtgihcpilgfbggaaGreatDoorL37
import Derived.Test.YtgihcpilgfbggaaGreatDoorL38
set_option linter.all false

namespace Go.Proofs.Tryz
open Go Go.Pm Go.Bt Go.RowKit
open Go.Pm.V(u)
def Ku(k n:Nat):Nat→Nat:=fun o=>if o=k then n else 0
theorem AM{l:List bc}{k n:Nat}(hn:n<2^40)(h1:∀ j:Nat,j<n→∃ x∈l,nu x=((k:Int),(j:Int)+1))(h2:∀ x∈l,∃ j:Nat,j<n∧nu x=((k:Int),(j:Int)+1)):uX l (Ku k n):=by
 refine⟨fun o _=>?_,fun o _ j hj=>?_,fun o _ x hx he=>?_⟩
 ·unfold Ku;split<;>omega
 ·unfold Ku at hj;split at hj
  ·rename_i h;subst h;exact h1 j hj
  ·omega
 ·obtain⟨j,hj,h3⟩:=h2 x hx;rw[h3]at he;simp only[aA]at he;obtain⟨h4,h5⟩:=he;have:k=o:=by omega
  subst this;simp only[Ku,if_true]at h5;omega
def o2:cp:=⟨2,0,[],[],0,false⟩
def o1:cp:=⟨1,0,[],[],0,false⟩
theorem tm:uX [] (Ku 0 0):=AM (by decide) (fun j hj=>by omega) (by simp)
theorem Af{o:cp}{x:bc}{m:Nat}(ho:o.small)(hx:x.small)(h1:o.ops.length<1000)(h2:o.log.length<1000000)(h3:(dV x).length≤60000)(hm:m≤o.ops.length):(gJ o x m).small:=by
 refine⟨fun y hy=>?_,?_,?_⟩
 ·simp only[gJ,List.mem_append,aY]at hy;rcases hy with hy | rfl | hy
  ·exact ho.ops y (dd hy)
  ·exact hx
  ·exact ho.ops y (ff hy)
 ·simp only[gJ,List.length_append,ba,ag,bB];omega
 ·simp only[gJ,List.length_append,sH];omega
theorem oP{o:cp}{x:bc}{m:Nat}(ho:o.small)(hx:x.small)(h1:o.ops.length<1000)(h2:o.log.length<1000000)(h3:(dV x).length≤60000)(hm:m≤o.ops.length):(kC o x m).small :=
 let h:=Af ho hx h1 h2 h3 hm
 ⟨h.ops,h.len,h.log⟩
theorem Yt(n:Int)(h:0≤n)(h8:n<8)(σ:ah):PC prog 8 [.i .i64 n] σ (fun r σ'=>r=.gZ [.agg (cp.cells ⟨n,0,[],[],0,false⟩),.i .i64 0]∧σ'=σ):=by
 have:=RM n σ
 rwa [show uc n=(⟨n,0,[],[],0,false⟩,0)from by rw[uc,if_neg (by omega)]]at this
end Go.Proofs.Tryz
namespace Go.Proofs.Tryz
open Go Go.Pm Go.Bt
open Go.Pm.V(u)
def jC(i:Nat):cp:=⟨i,0,[],[],0,false⟩
def oh(n:Nat):List cp:=(List.range n).map jC
theorem F6(n:Nat):(oh n).map cp.cells++[[.i .i64 n,.i .i64 0,.sl 13 [],.sl 1 [],.i .i64 0,.b false]]=(oh (n+1)).map cp.cells:=by
 simp[oh,mw,jC,cp.cells,aQ]
set_option maxHeartbeats 1000000 in
theorem Wr{σ:ah}{K:Exit→St→Prop}(aU:bG σ)(n:Nat)(hn:n≤8):∀ (k i:Nat),n=i+k →
  ((∀ j0 j1 j3 j5 j6 j7 j8 j9 cC cH cG cF cB cE cD cI cQ db de dh dm dv du dt dN dR dU dX ej eD,K (.exit 0) ⟨[j0,j1,.ptr σ.length 0,j3,.ptr (σ.length+1) 0,j5,j6,j7,j8,j9,cC,cH,cG,cF,cB,cE,cD,cI,cQ,db,de,dh,dm,dv,du,dt,dN,dR,dU,dX,ej,eD],σ++[.box 26 [.nil,.nil,.nil],dB (.own (σ.length+2) n) .nil .nil,bJ n (oh n)]⟩)) →
  fp σ.length prog Oh K (k+1) ⟨[u,u,.ptr σ.length 0,u,.ptr (σ.length+1) 0,u,u,u,u,u,u,u,u,u,u,.i .i64 n,.i .i64 i,u,u,u,u,u,u,u,u,u,u,u,u,u,u,u],σ++[.box 26 [.nil,.nil,.nil],dB (.own (σ.length+2) i) .nil .nil,bJ i (oh i)]⟩:=by
 intro k
 induction k with
 | zero =>
  intro i he h1;have he:n=i:=by omega
  subst he;refine ay fun R hR=>?_;simp only[Oh,VV,seval];exact⟨fun h=>by simp at h,fun _=>h1 ..⟩
 | succ k ih =>
  intro i he h1;have hw:IntKind.i64.wrap ((i:Int)+1)=((i+1:Nat):Int):=by rw[aX (by omega)]
  have h2:(i:Int)<(n:Int):=by omega
  refine ay fun R hR=>?_;simp only[Oh,dB,bJ,h2,hw,decide_true,VV,seval];refine an (Yt i (by omega) (by omega) _) rfl ?_;simp only[cp.cells,aQ,aZ,hw,V.pure,ae,maxLen,VV,seval];have hlen:(oh i).length=i:=by simp[oh]
  rw[F6,hlen]
  have hc3:=b9 aU (l:=[.box 26 [.nil,.nil,.nil],dB (.own (σ.length+2) (i+1)) .nil .nil,bJ (i+1) (oh (i+1))]) (by
   simp only[bJ,dB,ct,bK,false_imp_iff,implies_true,and_true,List.length_append,ag,ai,LW];omega)
  refine⟨⟨by omega,by omega⟩,hR _ (cy [.box 26 [.nil,.nil,.nil],dB (.own (σ.length+2) (i+1)) .nil .nil,bJ (i+1) (oh (i+1))] [_] hc3 ?_ ?_ (ih (i+1) (by omega) h1))⟩
  ·repeat' constructor
  ·simp only[LW,ag,ai,aI];omega
theorem Oy{n:Nat}{xs:List V}{σ:ah}{b:Ob}:Wk prog n xs (σ++[b,.box 26 [.nil,.nil,.nil]]) xs (σ++[b,.box 26 [.own (σ.length+2) 0,.nil,.nil],.row 44 6 80 0 false []]):=by
 have:=Wk.qq (P:=prog) (n:=n) (xs:=xs) (id:=σ.length+1) (j:=0) (T:=26) (cs:=[.nil,.nil,.nil]) (σ:=σ++[b,.box 26 [.nil,.nil,.nil]]) KL (by simp) rfl;simpa only[mV,List.append_assoc,List.length_append,ag,ai,aJ,aG,cU,cW,aI,Nat.reduceAdd]using this
theorem Ji(n:Nat)(h1:1≤n)(h8:n≤8)(σ:ah):PC prog 4 [.i .i64 n] σ (fun r σ'=>r=.gZ [.agg (Net.cells ⟨oh n,[],[]⟩),.i .i64 0]∧σ'=σ):=by
 refine PC.intro func4 c4 fun aU da=>al ?_;have e1:decide ((n:Int)<1)=false:=by simp;omega
 have e2:decide (8<(n:Int))=false:=by simp;omega
 simp only[p4,SS,seval];simp only[e1,e2,VV,seval];have py:=fun K=>Wr aU (K:=K) n h8 n 0 (by omega);simp only[dB,bJ,oh,List.range_zero,aZ]at py;refine bX.wk ((Wk.ic (ys:=[u,u,.ptr σ.length 0,u,.ptr (σ.length+1) 0,u,u,u,u,u,u,u,u,u,u,.i .i64 n,.i .i64 ((0:Nat):Int),u,u,u,u,u,u,u,u,u,u,u,u,u,u,u]) ?_).trans Oy) (bX.ml (n+1) (py _ ?_))
 ·repeat' constructor
 intros;simp only[beq_self_eq_true,VV,seval];refine ei (xs:=[.agg [.own (σ.length+2) n,.nil,.nil],.i .i64 0]) (xs':=[.agg (Net.cells ⟨oh n,[],[]⟩),.i .i64 0]) (.inr rfl) (by simp only[RS,seval]) ?_ rfl ⟨rfl,rfl⟩;refine(Wk.EG 2 rfl).trans ((Wk.ic (ys:=[.agg (Net.cells ⟨oh n,[],[]⟩),.i .i64 0]) ?_).trans (Wk.EM aU (by simp only[Net.cells,LW])));simp only[aW,aZ,Pm.fz,kF,and_self,if_true];exact .cons (.ng (.cons (.refl _) (.cons (.nil 15) (.cons (.nil 2) .nil)))) (.cons (.refl _) .nil)
end Go.Proofs.Tryz
namespace Go.Proofs.Tryz
open Go Go.Pm Go.Bt Go.RowKit
open Go.Pm.V(u)
def eA:En:=⟨[⟨1,[97],0⟩],[],[],[],[],[],0,1⟩
def y0:bc:=⟨⟨1,0,1⟩,1,eA,[]⟩
def y1:bc:=⟨⟨2,0,2⟩,1,eA,[1]⟩
def nX:bc:=⟨⟨1,0,1⟩,1,rm [97] [120],[]⟩
def nY:bc:=⟨⟨1,1,1⟩,1,rm [97] [121],[]⟩
theorem tl:eA.small:=⟨by decide,by decide +kernel,by decide,by decide +kernel,by decide,by decide,by decide⟩
theorem ER:(rm [97] [120]).small:=⟨by decide,by decide +kernel,by decide,by decide +kernel,by decide,by decide,by decide⟩
theorem EP:(rm [97] [121]).small:=⟨by decide,by decide +kernel,by decide,by decide +kernel,by decide,by decide,by decide⟩
theorem Qg:cM eA=0∧cM (rm [97] [120])=0∧cM (rm [97] [121])=0:=by decide +kernel
theorem wB:y0.small:=⟨tl,by decide,by decide,by decide⟩
theorem wA:y1.small:=⟨tl,by decide,by decide,by decide⟩
theorem xD:nX.small:=⟨ER,by decide,by decide,by decide⟩
theorem xC:nY.small:=⟨EP,by decide,by decide,by decide⟩
theorem Iv:dQ y0=0∧dQ y1=0∧dQ nX=0∧dQ nY=0:=by decide +kernel
theorem o9:(dV y0).length≤60000∧(dV y1).length≤60000∧(dV nX).length≤60000∧(dV nY).length≤60000:=by decide +kernel
theorem gq(i:Nat):(jC i).small:=⟨by simp[jC],by simp[jC],by simp[jC]⟩
def O1:cp:=kC (jC 0) y0 0
def O2:cp:=kC O1 y1 1
def P0:cp:=kC (jC 0) nX 0
def P1:cp:=kC (jC 1) nY 0
theorem yC:O1.small:=oP (gq 0) wB (by decide) (by decide) o9.1 (by decide)
theorem NA:O1.log.length<1000000:=by decide +kernel
theorem Fh:O2.small:=oP yC wA (by decide) NA o9.2.1 (by decide)
theorem yB:P0.small:=oP (gq 0) xD (by decide) (by decide) o9.2.2.1 (by decide)
theorem Ff:P1.small:=oP (gq 1) xC (by decide) (by decide) o9.2.2.2 (by decide)
theorem XE(σ:ah):PC prog 36 [.agg (jC 0).cells,.agg eA.cells] σ (fun r σ'=>r=.gZ [.agg O1.cells,.agg y0.cells,.i .i64 0]∧σ'=σ) :=
 oZ (jC 0) eA tl Qg.1 (gq 0) rfl (Ku 0 0) tm [] (by decide +kernel) (by decide) (by decide) (by decide) 0 wB Iv.1 o9.1 (by decide) (aw _) (by simp[jC]) σ
theorem Na:uX O1.ops (Ku 0 1):=by
 refine AM (by decide) (fun j hj=>⟨y0,by simp[O1,kC,gJ],?_⟩) (fun x hx=>⟨0,by decide,?_⟩)
 ·obtain rfl:j=0:=by omega
  rfl
 ·have hx:x=y0:=by simpa[O1,kC,gJ,jC]using hx
  rw[hx];rfl
theorem XD(σ:ah):PC prog 36 [.agg O1.cells,.agg eA.cells] σ (fun r σ'=>r=.gZ [.agg O2.cells,.agg y1.cells,.i .i64 0]∧σ'=σ) :=
 oZ O1 eA tl Qg.1 yC rfl (Ku 0 1) Na [1] (by decide +kernel) (by decide) (by decide) (by decide) 1 wA Iv.2.1 o9.2.1 (Nat.le_of_lt (Nat.lt_trans NA (by decide))) (by decide) (fun k y hy=>by
  rcases k with _ | k
  ·obtain rfl:y0=y:=by simpa[O1,kC,gJ,jC]using hy
   decide
  ·simp[O1,kC,gJ,jC]at hy) σ
theorem XC(σ:ah):PC prog 36 [.agg (jC 0).cells,.agg (rm [97] [120]).cells] σ (fun r σ'=>r=.gZ [.agg P0.cells,.agg nX.cells,.i .i64 0]∧σ'=σ) :=
 oZ (jC 0) _ ER Qg.2.1 (gq 0) rfl (Ku 0 0) tm [] (by decide +kernel) (by decide) (by decide) (by decide) 0 xD Iv.2.2.1 o9.2.2.1 (by decide) (aw _) (by simp[jC]) σ
theorem XB(σ:ah):PC prog 36 [.agg (jC 1).cells,.agg (rm [97] [121]).cells] σ (fun r σ'=>r=.gZ [.agg P1.cells,.agg nY.cells,.i .i64 0]∧σ'=σ) :=
 oZ (jC 1) _ EP Qg.2.2 (gq 1) rfl (Ku 0 0) tm [] (by decide +kernel) (by decide) (by decide) (by decide) 0 xC Iv.2.2.2 o9.2.2.2 (by decide) (aw _) (by simp[jC]) σ
end Go.Proofs.Tryz
namespace Go.Proofs.Tryz
open Go Go.Pm Go.Bt Go.Sort Go.Shelf
open Go.Pm.V(u)
theorem Jg(l:List bc):SWO (ltOf fun(i j:Fin l.length)=>jo l[i] l[j]):=by
 refine⟨fun x=>?_,fun x y z h1 h2=>?_,fun x y z h1 h2=>?_⟩
 ·simp only[ltOf,decide_eq_false_iff_not,gT.self];omega
 ·simp only[ltOf,decide_eq_true_eq]at *;have k1:=gT.jL l[x] l[y];have k2:=gT.jL l[y] l[z];have k3:=gT.jL l[x] l[z];have:=gT.gt (a:=l[z]) (b:=l[y]) (d:=l[x]) (by omega) (by omega);omega
 ·simp only[ltOf,decide_eq_false_iff_not]at *;have:=gT.trans l[x] l[y] l[z] (by omega) (by omega);omega
theorem KS(l:List bc)(hv:∀ x∈l,dQ x=0∧x.small)(hl:l.length<2^30)(id g:Nat)(σ:ah)(h1:σ[id]?=some (dY g false l)):
  PC prog 63 [.own id g,.fn 65 []] σ (fun r σ'=>r=.gZ []∧σ'=σ.set id (dY g false (nZ l))):=by
 refine PC.mono (PC.KR Tryz.Uu (k:=13) Tryz.isAgg65 Tryz.sizeOf65 bc.cells (fun x=>by simp[bc.cells,bY.cells,En.cells]) (by omega) jo (enters_of func65 (by kernel_rfl) rfl) l (fun x hx y hy=>(lZ x y (hv x hx).2 (hv y hy).2 _).mono fun r σ' h=>h.1) (Jg l) hl h1) ?_;rintro r σ' ⟨l',hp,hs,rfl,rfl⟩;exact⟨rfl,by rw[oK hv hp hs];rfl⟩
set_option maxHeartbeats 1000000 in
theorem Sa{σ:ah}{K:Exit→St→Prop}(aU:bG σ)(b:Ob)(hb:bG (σ++[b]))(a ga:Nat)(bf:List cp)(hq:σ[a]?=some (bJ ga bf))(hlen:bf.length<2^30)(iE:(gL bf).length<2^30):∀ (rest pre:List cp) (g:Nat),bf=pre++rest →
  (∀ g,(∀ j0 j1 j2 j4 j5 j6 j7 j8 j9 cC cH cG cF cB cE cD cI cQ db de dh,K (.exit 0) ⟨[j0,j1,j2,.own (σ.length+1) g,j4,j5,j6,j7,j8,j9,cC,cH,cG,cF,cB,cE,cD,cI,cQ,db,de,dh],σ++[b,dY g false (gL bf)]⟩)) →
  fp σ.length prog Hz K (rest.length+1) ⟨[u,u,u,.own (σ.length+1) g,u,u,u,.own a ga,.i .i64 bf.length,.i .i64 pre.length,u,u,u,u,u,u,u,u,u,u,u,u],σ++[b,dY g false (gL pre)]⟩:=by
 have Kp:∀ l:ah,(σ++l)[a]?=some (.row 44 6 80 ga false (bf.map cp.cells)):=fun l=>uW hq;intro rest
 induction rest with
 | nil =>
  intro pre g he h1;have he:bf=pre:=by simpa using he
  subst he;refine ay fun R hR=>?_;simp only[Hz,VV,seval];exact⟨fun h=>by simp at h,fun _=>h1 g ..⟩
 | cons o rest ih =>
  intro pre g he h1;have hl:bf.length=pre.length+(rest.length+1):=by rw[he];simp
  have hw:IntKind.i64.wrap ((pre.length:Int)+1)=(((pre++[o]).length:Nat):Int):=by
   rw[aX (by omega)];simp
  have er:(bf.map cp.cells).getD pre.length []=o.cells:=by rw[he];exact jj
  have lC:(gL pre).length+o.ops.length≤(gL bf).length:=by rw[he];simp[gL]
  have h0:(0:Int)≤(pre.length:Int):=by omega
  have h2:(pre.length:Int)<(bf.length:Int):=by omega
  simp only[cp.cells]at er;refine ay fun R hR=>?_;simp only[Hz,dY,Kp,er,h0,h2,hw,decide_true,ae,aH,V.pure,maxLen,VV,seval];have e0:(gL pre).map bc.cells++o.ops.map bc.cells=(gL (pre++[o])).map bc.cells:=by simp[gL]
  rw[e0];refine⟨⟨by omega,by omega⟩,hR _ (cy [b,dY (g+1) false (gL (pre++[o]))] [_] ?_ ?_ ?_ (ih (pre++[o]) (g+1) (by rw[he];simp) h1))⟩
  ·have:=b9 hb (l:=[dY (g+1) false (gL (pre++[o]))]) (by simp[dY]);simpa using this
  ·repeat' constructor
  ·simp only[LW,ag,ai,aI];have:=(ab.1 hq).1;omega
set_option maxHeartbeats 1000000 in
theorem D9(bf:List cp)(hv:∀ o∈bf,∀ x∈o.ops,dQ x=0∧x.small)(hlen:bf.length<2^30)(iE:(gL bf).length<2^30)(a ga:Nat)(σ:ah)(hq:σ[a]?=some (bJ ga bf)):
  PC prog 41 [.agg [.own a ga,.nil,.nil]] σ (fun r σ'=>r=.sl 13 ((ka bf).map bc.cells)∧σ'=σ):=by
 refine PC.intro func41 c41 fun aU da=>al ?_;have QW:=(ab.1 hq).1;have Kp:∀ l:ah,(σ++l)[a]?=some (.row 44 6 80 ga false (bf.map cp.cells)):=fun l=>uW hq;simp only[p41,SS,seval];have hq3:σ[a]?=some (.row 44 6 80 ga false (bf.map cp.cells)):=hq;have hb:bG (σ++[.box 26 [.own a ga,.nil,.nil]]):=b9 aU (by simp only[ct,bK,false_imp_iff,implies_true,and_true,LW];omega);simp only[Kp,hq3,beq_self_eq_true,ae,VV,seval];refine bX.wk (((Wk.ic (ys:=[u,u,u,.nil,u,u,u,.own a ga,.i .i64 bf.length,.i .i64 (([]:List cp).length:Nat),u,u,u,u,u,u,u,u,u,u,u,u]) ?_).trans (Wk.mE (P:=prog) (k:=3) [_] FD rfl)).trans (Wk.ic ?_)) (bX.ml (bf.length+1) (Sa aU _ hb a ga bf hq hlen iE bf [] 0 rfl ?_))
 ·repeat' constructor
 ·simp only[VV,seval]
  repeat' constructor
 intro g;intros
 have Ko:∀ x∈gL bf,dQ x=0∧x.small:=fun x hx=>by
  simp only[gL,NH]at hx;obtain⟨o,ho,hx⟩:=hx;exact hv o ho x hx
 simp only[VV,seval];refine an (KS (gL bf) Ko iE _ g _ (by simp only[VV,seval])) rfl ?_;simp only[VV,seval];refine jc (GQ 67 (by kernel_rfl) _ (fun x y hx hy σ=>Gj x y hx hy σ) (nZ (gL bf)) (fun x hx=>(Ko x (Am.1 hx)).2) (by rw[zX];exact iE) _ g _ (by simp only[VV,seval])) rfl ?_;rintro r σ' ⟨g',rfl,rfl⟩;simp only[dY,VV,seval];refine iy 1 aU (.inr rfl) (by simp only[RS,seval];rfl) rfl ?_ ?_
 ·simp only[aW,aZ,Pm.fz,kF,and_self,if_true,LW]
 ·simp only[aW,aZ,Pm.fz,kF,and_self,if_true];exact⟨rfl,trivial⟩
end Go.Proofs.Tryz

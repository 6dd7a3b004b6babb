/- A part of the proof that for every input the law NetworkLimits returns true and leaves its argument as it was. -/
import Derived.Test.YtgihcpilgfbggaaGreatDoorL5
import Derived.Test.YtgihcpilgfbggaaGreatDoorL14
import Derived.Test.YtgihcpilgfbggaaGreatDoorL16
import Derived.Test.YtgihcpilgfbggaaGreatDoorL17
import Derived.Test.YtgihcpilgfbggaaGreatDoorL18
import Derived.Test.YtgihcpilgfbggaaGreatDoorL20
import Derived.Test.YtgihcpilgfbggaaGreatDoorL21
import Derived.Test.YtgihcpilgfbggaaGreatDoorL23
import Derived.Test.YtgihcpilgfbggaaGreatDoorL24
import Derived.Test.YtgihcpilgfbggaaGreatDoorL30
import Derived.Test.YtgihcpilgfbggaaGreatDoorL35
import Derived.Test.YtgihcpilgfbggaaGreatDoorL36
set_option linter.all false

namespace Go.Proofs.Tryz
open Go Go.Pm Go.Bt
def Lp(o:bc):V:=.agg o.cells
def kX(l:List (List UInt8×bc)):List (V×V):=emap QR Lp l
theorem vq(l:List (List UInt8×bc))(a:List UInt8):
  (fP a l=none∧fx 1 (.s a) (kX l) 0=some none∧∀ b:bc,kX l++[(V.s a,Lp b)]=kX (je l a b)) ∨
  (∃ i b0,fP a l=some b0∧fx 1 (.s a) (kX l) 0=some (some (i,Lp b0))∧∀ b:bc,(kX l).set i (V.s a,Lp b)=kX (je l a b)):=r3 Sg l a
theorem EF{α β:Type}[DecidableEq α]{a:α}{b:β}:∀ {l:List (α×β)},fP a l=some b→(a,b)∈l:=by
 intro l
 induction l with
 | nil=>intro h;simp[kE]at h
 | cons p l ih =>
  intro h;rw[kk]at h;split at h
  ·rename_i e;simp only[aa]at h;subst e;subst h;exact dn ..
  ·exact bz _ (ih h)
theorem Dv{α β:Type}[DecidableEq α]{a:α}{b:β}{p:α×β}:∀ {l:List (α×β)},p∈je l a b→p=(a,b)∨p∈l:=by
 intro l
 induction l with
 | nil=>intro h;simp[je]at h;exact .inl h
 | cons q l ih =>
  intro h;simp only[je]at h;split at h
  ·rcases aY.1 h with h | h
   ·exact .inl h
   ·exact .inr (bz _ h)
  ·rcases aY.1 h with h | h
   ·exact .inr (h▸dn ..)
   ·rcases ih h with h | h
    ·exact .inl h
    ·exact .inr (bz _ h)
theorem Dm{m:List (List UInt8×bc)}{o:bc}{p:List UInt8×bc}(h:p∈fI m o):p=(bE o,o)∨p∈m:=by
 simp only[fI]at h;split at h
 ·exact .inr h
 ·split at h
  ·exact Dv h
  ·split at h
   ·exact Dv h
   ·exact .inr h
theorem O5{σ:ah}{K:Exit→St→Prop}(l:List bc)(aU:bG σ)(hlen:l.length<2^63)(Da:∀ o∈l,o.small):∀ (rest pre:List bc) (m:List (List UInt8×bc)),l=pre++rest→(∀ p∈m,p.2.small) →
  (∀ j0 j1 j2 j4 j5 j6 j7 j8 j9 cC cH cG cF cB cE cD cI cQ db de dh dm dv du dt dN dR dU dX ej eD eL eQ eP fb fi fh fg fw fG fF,K (.exit 0) ⟨[j0,j1,j2,.mp σ.length,j4,j5,j6,j7,j8,j9,cC,cH,cG,cF,cB,cE,cD,cI,cQ,db,de,dh,dm,dv,du,dt,dN,dR,dU,dX,ej,eD,eL,eQ,eP,fb,fi,fh,fg,fw,fG,fF],σ++[.map 9 65 (kX (rest.foldl fI m))]⟩) →
  fp σ.length prog xj K (rest.length+1) ⟨[.u,.u,.u,.mp σ.length,.u,.u,.u,.u,.u,.u,.u,.u,.u,.u,.sl 13 (l.map bc.cells),.i .i64 l.length,.i .i64 pre.length,.u,.u,.u,.u,.u,.u,.u,.u,.u,.u,.u,.u,.u,.u,.u,.u,.u,.u,.u,.u,.u,.u,.u,.u,.u],σ++[.map 9 65 (kX m)]⟩:=by
 intro rest
 induction rest with
 | nil =>
  intro pre m he hm h1;have he:l=pre:=by simpa using he
  subst he;refine ay fun R hR=>?_;simp only[xj,VV,seval];exact⟨fun h=>by simp at h,fun _=>h1 ..⟩
 | cons x rest ih =>
  intro pre m he hm h1;subst he;have hx:=Da x (by simp)
  have next:∀ (m':List (List UInt8×bc)) {loc:ah},fI m x=m'→∀ {R:St→Prop} {fr:List V},(∀ st',fp σ.length prog xj K (rest.length+1) st'→R st') →
    nP fr [.u,.u,.u,.mp σ.length,.u,.u,.u,.u,.u,.u,.u,.u,.u,.u,.sl 13 ((pre++x::rest).map bc.cells),.i .i64 (pre++x::rest).length,.i .i64 (IntKind.i64.wrap ((pre.length:Int)+1)),.u,.u,.u,.u,.u,.u,.u,.u,.u,.u,.u,.u,.u,.u,.u,.u,.u,.u,.u,.u,.u,.u,.u,.u,.u]→R ⟨fr,σ++(.map 9 65 (kX m')::loc)⟩:=by
   intro m' loc hw R fr hR hc
   have e1:IntKind.i64.wrap ((pre.length:Int)+1)=(((pre++[x]).length:Nat):Int):=by
    rw[aX (by simp at hlen;omega)];simp
   rw[e1]at hc;refine hR _ (cy [_] loc (b9 aU (by simp)) hc ?_ (ih (pre++[x]) m' (by simp) ?_ ?_))
   ·simp only[LW,ag,ai,aI];omega
   ·intro p hp;rw[← hw]at hp;rcases Dm hp with rfl | hp
    ·exact hx
    ·exact hm p hp
   ·rw[← hw];exact h1
  refine ay fun R hR=>?_;simp only[xj,bc.cells,bY.cells,En.cells,VV,seval];refine⟨fun _=>⟨by simp;omega,?_⟩,fun h=>by simp at h<;>omega⟩;refine an (Lr x hx _) rfl ?_;simp only[VV,seval];refine⟨fun h=>?_,fun h=>?_⟩
  ·have h:bE x=[]:=by simpa using h
   refine next m (by simp only[fI,h,if_true]) hR ?_
   simp only[bc.cells,bY.cells,En.cells]
   repeat' constructor
  have h:¬ bE x=[]:=by simpa using h
  have hf:∀ t,fU (σ++(.map 9 65 (kX m))::t) 1 (.mp σ.length) (.s (bE x))=fx 1 (.s (bE x)) (kX m) 0:=fun t=>by simp only[fU,fQ,ax]
  rcases vq m (bE x)with⟨h2,h3,h4⟩ | ⟨k,was,h2,h3,h4⟩
  ·simp only[hf,h3,V.mG,VV,seval];refine br (c:=false) (v:=.b false) (by simp only[VV,seval]<;>rfl) (fun h=>by simp at h) rfl ?_;have h4':=h4 x;simp only[Lp,bc.cells,bY.cells,En.cells,aJ,aG]at h4';simp only[h3,h4',kz,V.mG,V.vS,VV,seval];refine next (je m (bE x) x) (by simp only[fI,if_neg h,h2]) hR ?_
   simp only[bc.cells,bY.cells,En.cells]
   repeat' constructor
  ·simp only[hf,h3,V.mG,Lp,bc.cells,bY.cells,En.cells,VV,seval];refine br (by simp only[VV,seval]<;>rfl) (fun _=>Je x was hx (hm _ (EF h2)) _) rfl ?_;simp only[VV,seval];refine⟨fun hw=>?_,fun hw=>?_⟩
   ·have h4':=h4 x;simp only[Lp,bc.cells,bY.cells,En.cells,aJ,aG]at h3 h4';simp only[h3,h4',kz,V.mG,V.vS,VV,seval];refine next (je m (bE x) x) (by simp only[fI,if_neg h,h2,if_pos hw]) hR ?_
    simp only[bc.cells,bY.cells,En.cells]
    repeat' constructor
   ·refine next m (by simp only[fI,if_neg h,h2,hw];rfl) hR ?_
    simp only[bc.cells,bY.cells,En.cells]
    repeat' constructor
theorem vO(l:List bc)(Da:∀ o∈l,o.small)(σ:ah):PC prog 143 [.sl 13 (l.map bc.cells)] σ (fun r σ'=>r=.mp σ.length∧σ'=σ++[.map 9 65 (kX (fj l))]):=by
 refine PC.intro func143 aaA fun aU da=>al ?_;have hlen:=kS (da 0 _ rfl).1;rw[ae]at hlen;simp only[VK,SS,seval];simp only[ae,VV,seval];refine⟨fun h=>?_,fun h=>?_⟩
 ·have h:1024<l.length:=by simp at h;omega
  refine ei (.inr rfl) rfl (Wk.refl _ _) rfl ⟨rfl,?_⟩;simp only[fj,if_pos h];rfl
 ·have h:¬ 1024<l.length:=by simp at h;omega
  refine bX.bb ?_ (l.length+1) (O5 l aU hlen Da l [] [] rfl (by simp) ?_)
  ·repeat' constructor
  ·intros;simp only[VV,seval];refine ei (.inr rfl) rfl (Wk.refl _ _) rfl ⟨rfl,?_⟩;simp only[fj,if_neg h]
theorem QE:Ti prog 65 13 184:=kY (by kernel_rfl)
theorem KM:Ti prog 34 8 128:=kY (by kernel_rfl)
theorem Ge{m:List (List UInt8×bc)}{k:List UInt8}{o:bc}(h:fP k m=some o):∃ i,fx 1 (.s k) (kX m) 0=some (some (i,Lp o)):=by
 rcases vq m k with⟨h2,_,_⟩ | ⟨i,b,h2,h3,_⟩
 ·rw[h]at h2;simp at h2
 ·rw[h]at h2;simp only[aa]at h2;subst h2;exact⟨i,h3⟩
theorem RW{n:Nat}{σ:ah}{o2:Ob}{K:Exit→St→Prop}(ks:List (List UInt8))(m:List (List UInt8×bc))(hlen:ks.length<2^39)(hm:∀ p∈m,p.2.small)(X4:∀ k∈ks,∃ o,fP k m=some o):
  ∀ (rest pre:List (List UInt8)) (out:List bc) (g:Nat),ks=pre++rest→out.length+rest.length≤ks.length →
  (∀ g,(∀ j0 j1 j2 j5 j6 j7 j8 j9 cC cG cF cB cE cD cI cQ db de dh dm dv du dt,K (.exit 0) ⟨[j0,j1,j2,.mp σ.length,.own (σ.length+3) g,j5,j6,j7,j8,j9,cC,.own (σ.length+2) 0,cG,cF,cB,cE,cD,cI,cQ,db,de,dh,dm,dv,du,dt],σ++[.map 9 65 (kX m),o2,.row 9 1 16 0 false (ks.map vM),.row 65 13 184 g false ((out++rest.filterMap fun k=>fP k m).map bc.cells)]⟩)) →
  fp n prog Hi K (rest.length+1) ⟨[.u,.u,.u,.mp σ.length,.own (σ.length+3) g,.u,.u,.u,.u,.u,.u,.own (σ.length+2) 0,.i .i64 ks.length,.i .i64 pre.length,.u,.u,.u,.u,.u,.u,.u,.u,.u,.u,.u,.u],
   σ++[.map 9 65 (kX m),o2,.row 9 1 16 0 false (ks.map vM),.row 65 13 184 g false (out.map bc.cells)]⟩:=by
 intro rest
 induction rest with
 | nil =>
  intro pre out g he ho h1;have he:ks=pre:=by simpa using he
  subst he;refine ay fun R hR=>?_;simp only[Hi,VV,seval];simp only[List.filterMap_nil,bt]at h1;exact⟨fun h=>by simp at h,fun _=>h1 g ..⟩
 | cons x rest ih =>
  intro pre out g he ho h1;subst he;obtain⟨o,hx⟩:=X4 x (by simp);have X1:=hm _ (EF hx);obtain⟨i,hf0⟩:=Ge hx;have hf:∀ t,fU (σ++(.map 9 65 (kX m))::t) 1 (.mp σ.length) (.s x)=some (some (i,Lp o)):=fun t=>by simp only[fU,fQ,ax,hf0]
  refine ay fun R hR=>?_;simp only[Hi,vM,hf,Lp,V.mG,ae,VV,seval];refine⟨fun _=>⟨by simp;omega,?_⟩,fun h=>by simp at h<;>omega⟩;refine an (mi o X1 _) rfl ?_;simp only[ag]at ho;simp only[ae,bc.cells,bY.cells,En.cells,maxLen,V.pure,VV,seval];refine⟨by simp at ho hlen;omega,?_⟩
  have e0:(out.map bc.cells++[[.i .i64 o.aT.time,.i .i64 o.aT.bP,.i .i64 o.aT.number,.i .i64 o.kind,.sl 3 (o.entry.source.map It.cells),.sl 3 (o.entry.target.map It.cells),.s o.entry.bN,.s o.entry.next,.s o.entry.cw,.s o.entry.bV,.i .i64 o.entry.created,.i .i64 o.entry.origin,.sl 1 (o.seen.map bW)]])=(out++[o]).map bc.cells:=by
   simp[bc.cells,bY.cells,En.cells]
  rw[e0];refine hR _ (bb ?_ (ih (pre++[x]) (out++[o]) (g+1) (by simp) (by simp at ho ⊢;omega) ?_))
  ·rw[aX (by simp at hlen;omega)];simp only[List.length_append,ag,ai]
   repeat' constructor
  ·simp only[jH,hx]at h1;simpa using h1
theorem B5(l:List bc)(Da:∀ o∈l,o.small)(σ:ah):PC prog 99 [.sl 13 (l.map bc.cells)] σ (fun r σ'=>r=.sl 13 ((current l).map bc.cells)∧σ'=σ):=by
 refine PC.intro func99 c99 fun aU da=>al ?_;simp only[p99,SS,seval];simp only[VV,seval];refine an (vO l Da _) rfl ?_;simp only[VV,seval];have hk:=Ed σ.length (σ++[.map 9 65 (kX (fj l))]);simp only[List.length_append,ag,ai,aI,List.append_assoc,aJ,aG]at hk;refine an hk rfl ?_;simp only[VV,seval];have hlen:=pK l;have YG:=u0 l
 have hs:=wO (β:=bc) (ve:=Lp) (id:=σ.length) (k:=σ.length+1) (E:=65) (l:=fj l) (σ:=σ++[.map 9 65 (kX (fj l)),.box 188 [.mp σ.length]])
  (by simp only[qD,cc,ax]) (by simp only[fQ,ax];rfl) (rz l) (by omega)
 simp only[List.length_append,ag,ai,aI,Nat.reduceAdd,List.append_assoc,aJ,aG]at hs;refine an hs rfl ?_;simp only[ae,VV,seval]
 refine bX.wk ((Wk.mE (σ:=σ) [_,_,_] (k:=4) QE rfl).trans (Wk.ic ?_)) (bX.ml ((gp l).length+1) (RW (gp l) (fj l) (by omega)
  (fun p hp=>Da _ (uZ hp).2) (fun k hk=>pj hk) (gp l) [] [] 0 rfl (by simp) ?_))
 ·simp only[W,seval]
  repeat' constructor
 ·intro g;intros;simp only[VV,seval];refine iy 3 aU (.inr rfl) rfl rfl ?_ ?_
  ·simp only[ar,aC,aW,aZ,fz,kF,and_self,if_true,LW]
  ·simp only[ar,aC,aW,aZ,fz,kF,and_self,if_true];exact⟨rfl,trivial⟩
theorem R6{σ:ah}{K:Exit→St→Prop}(l:List bc)(aU:bG σ)(hlen:l.length<2^39):∀ (rest pre:List bc) (out:List En) (g:Nat),l=pre++rest→out.length+rest.length≤l.length →
  (∀ g,(∀ j0 j1 j2 j4 j5 j6 j7 j8 j9 cC cH cG cF cB cE cD cI cQ db de dh dm,K (.exit 0) ⟨[j0,j1,j2,.own σ.length g,j4,j5,j6,j7,j8,j9,cC,cH,cG,cF,cB,cE,cD,cI,cQ,db,de,dh,dm],σ++[.row 34 8 128 g false ((out++(rest.filter fun o=>o.kind==1).map (·.entry)).map En.cells)]⟩)) →
  fp σ.length prog DY K (rest.length+1) ⟨[.u,.u,.u,.own σ.length g,.u,.u,.u,.sl 13 (l.map bc.cells),.i .i64 l.length,.i .i64 pre.length,.u,.u,.u,.u,.u,.u,.u,.u,.u,.u,.u,.u,.u],σ++[.row 34 8 128 g false (out.map En.cells)]⟩:=by
 intro rest
 induction rest with
 | nil =>
  intro pre out g he ho h1;have he:l=pre:=by simpa using he
  subst he;refine ay fun R hR=>?_;simp only[DY,VV,seval];simp only[Qz,aZ,bt]at h1;exact⟨fun h=>by simp at h,fun _=>h1 g ..⟩
 | cons x rest ih =>
  intro pre out g he ho h1;subst he;simp only[ag]at ho
  have next:∀ (out':List En) (g':Nat) {loc:ah},out'.length≤out.length+1→out++((x::rest).filter fun o=>o.kind==1).map (·.entry)=out'++(rest.filter fun o=>o.kind==1).map (·.entry)→∀ {R:St→Prop} {fr:List V},(∀ st',fp σ.length prog DY K (rest.length+1) st'→R st') →
    nP fr [.u,.u,.u,.own σ.length g',.u,.u,.u,.sl 13 ((pre++x::rest).map bc.cells),.i .i64 (pre++x::rest).length,.i .i64 (IntKind.i64.wrap ((pre.length:Int)+1)),.u,.u,.u,.u,.u,.u,.u,.u,.u,.u,.u,.u,.u]→R ⟨fr,σ++(.row 34 8 128 g' false (out'.map En.cells)::loc)⟩:=by
   intro out' g' loc hl hw R fr hR hc
   have e1:IntKind.i64.wrap ((pre.length:Int)+1)=(((pre++[x]).length:Nat):Int):=by
    rw[aX (by simp at hlen;omega)];simp
   rw[e1]at hc;rw[hw]at h1;refine hR _ (cy [_] loc (b9 aU (by simp)) hc ?_ (ih (pre++[x]) out' g' (by simp) (by omega) h1));simp only[LW,ag,ai,aI];omega
  refine ay fun R hR=>?_;simp only[DY,bc.cells,bY.cells,En.cells,VV,seval];refine⟨fun _=>⟨by simp;omega,?_⟩,fun h=>by simp at h<;>omega⟩;refine⟨fun h=>?_,fun h=>?_⟩
  ·simp only[ae,maxLen,V.pure,VV,seval];refine⟨by simp at ho hlen;omega,?_⟩
   have e0:(out.map En.cells++[[.sl 3 (x.entry.source.map It.cells),.sl 3 (x.entry.target.map It.cells),.s x.entry.bN,.s x.entry.next,.s x.entry.cw,.s x.entry.bV,.i .i64 x.entry.created,.i .i64 x.entry.origin]])=(out++[x.entry]).map En.cells:=by
    simp[En.cells]
   rw[e0];refine next (out++[x.entry]) (g+1) (by simp) (by simp[h]) hR ?_
   repeat' constructor
  ·refine next out g (by omega) (by simp[h]) hR ?_
   repeat' constructor
theorem D3(l:List bc)(Da:∀ o∈l,o.small)(σ:ah):PC prog 70 [.sl 13 (l.map bc.cells)] σ (fun r σ'=>r=.sl 8 ((eK l).map En.cells)∧σ'=σ):=by
 refine PC.intro func70 c70 fun aU da=>al ?_;simp only[p70,SS,seval];simp only[VV,seval];refine an (B5 l Da _) rfl ?_;simp only[ae,VV,seval];have hlen:=qx l;refine bX.wk ((Wk.iZ (σ:=σ) (k:=3) KM rfl).trans (Wk.ic ?_)) (bX.ml ((current l).length+1) (R6 (current l) aU (by omega) (current l) [] [] 0 rfl (by simp) ?_))
 ·simp only[W,seval]
  repeat' constructor
 ·intro g;intros;simp only[VV,seval];refine iy 0 aU (.inr rfl) rfl rfl ?_ ?_
  ·simp only[ar,aC,aW,aZ,cn,fz,kF,and_self,if_true,LW]
  ·simp only[ar,aC,aW,aZ,cn,fz,kF,and_self,if_true];exact⟨rfl,trivial⟩
theorem RI(n:Int):nP [.i .i64 n,.i .i64 0,.nil,.nil,.i .i64 0,.b false] (cp.cells ⟨n,0,[],[],0,false⟩):=by
 simp only[cp.cells,aQ,aZ]
 repeat first | exact .nil | refine .cons (.refl _) ?_ | refine .cons (.nil _) ?_
theorem RM(n:Int)(σ:ah):PC prog 8 [.i .i64 n] σ (fun r σ'=>r=.gZ [.agg (uc n).1.cells,.i .i64 (uc n).2]∧σ'=σ):=by
 refine PC.intro func8 c8 fun aU da=>al ?_;simp only[p8,SS,seval];simp only[VV,seval];refine⟨fun h=>?_,fun h=>?_⟩
 ·have h:n<0∨8≤n:=by simpa using h
  refine jW (ys:=[.agg (cp.cells ⟨0,0,[],[],0,false⟩),.i .i64 1]) aU (.inr rfl) (by simp only[kh,tV,VV,seval]) (.cons (Cv.ng (RI 0)) (.cons (.refl _) .nil)) (by simp only[cp.cells,aQ,aZ,LW]) ⟨by simp only[uc,if_pos h,cp.zero];rfl,rfl⟩
 ·have h:¬ (n<0∨8≤n):=by simpa using h
  refine jW (ys:=[.agg (cp.cells ⟨n,0,[],[],0,false⟩),.i .i64 0]) aU (.inr rfl) (by simp only[kh,tV,VV,seval]) (.cons (Cv.ng (RI n)) (.cons (.refl _) .nil)) (by simp only[cp.cells,aQ,aZ,LW]) ⟨by simp only[uc,if_neg h];rfl,rfl⟩
theorem sR(a b:bc)(σ:ah):PC prog 64 [.agg a.cells,.agg b.cells] σ (fun r σ'=>r=.i .i64 (eJ a b)∧σ'=σ):=by
 refine PC.intro func64 c64 fun aU da=>al ?_;simp only[p64,SS,seval];simp only[bc.cells,bY.cells,En.cells,VV,seval];refine an (mf _ _ _) rfl ?_;simp only[VV,seval];refine an (mf _ _ _) rfl ?_;simp only[VV,seval];refine iv (zs:=[.sl 1 ([eT a.aT.bP b.aT.bP,eT a.aT.number b.aT.number].map bW)]) (.cons (.lit _ _) .nil) (F4 _ _) ?_;simp only[VV,seval];exact aD aU (.inr rfl) (by simp only[RS,seval];rfl) (by simp only[LW]) ⟨rfl,rfl⟩
theorem Gq:(prog.info? 5).map (fun i=>(i.zero.map (fun z=>z.cells.size),i.size,i.bytes))=some (some 1,1,1):=by kernel_rfl
theorem zG(xs:List UInt8)(hlen:xs.length<2^40)(σ:ah):PC prog 47 [.sl 1 (aQ xs)] σ (fun r σ'=>r=.sl 1 (aQ xs)∧σ'=σ) :=
 yo (by decide) Gq (by rw[bO];omega) (fun w=>AnyE.slices_Clone_nil Tryz.GV 0 0 w)
  (fun a w=>by
   obtain⟨i,z,hi,hz,h1,h2,h3⟩:=mb Gq;exact nE Tryz.GV i z 1 1 hi hz h1 h2 h3 (by decide) (show ∀ w,(Go.sizeOf 5).run prog w=.ok 1 w from fun w=>by simp[sizeOf,run_typeInfo w hi,h1]) a w)
  (fun i z hi hz h1 h2 h3 hs b o n c news w hl hn hb hc h=>AnyE.slices_Clone Tryz.GV i z 1 1 hi hz h1 h2 h3 (by decide) hs b o n c news w hl hn hb hc h) σ
def rS(g:Nat)(l:List bc):Ob:=.row 65 13 184 g false (l.map bc.cells)
theorem R8{σ:ah}{K:Exit→St→Prop}(l:List bc)(aU:bG σ)(hlen:l.length<2^39)(Da:∀ o∈l,o.small):∀ (rest pre:List bc) (g:Nat),l=pre++rest →
  (∀ g,(∀ j0 j1 j2 j4 j5 j6 j7 j8 j9 cC cH cG cF cB cE cD cI cQ,K (.exit 0) ⟨[j0,j1,j2,.own σ.length g,j4,j5,j6,j7,j8,j9,cC,cH,cG,cF,cB,cE,cD,cI,cQ],σ++[.row 65 13 184 g false (l.map bc.cells)]⟩)) →
  fp σ.length prog Hy K (rest.length+1) ⟨[.u,.u,.u,.own σ.length g,.u,.u,.sl 13 (l.map bc.cells),.i .i64 l.length,.i .i64 pre.length,.u,.u,.u,.u,.u,.u,.u,.u,.u,.u],σ++[.row 65 13 184 g false (pre.map bc.cells)]⟩:=by
 intro rest
 induction rest with
 | nil =>
  intro pre g he h1;have he:l=pre:=by simpa using he
  subst he;refine ay fun R hR=>?_;simp only[Hy,VV,seval];exact⟨fun h=>by simp at h,fun _=>h1 g ..⟩
 | cons x rest ih =>
  intro pre g he h1;subst he;have hx:=Da x (by simp);refine ay fun R hR=>?_;simp only[Hy,bc.cells,bY.cells,En.cells,VV,seval];refine⟨fun _=>⟨by simp;omega,?_⟩,fun h=>by simp at h<;>omega⟩;refine an (mi x hx _) rfl ?_;simp only[ae,bc.cells,bY.cells,En.cells,maxLen,V.pure,VV,seval];refine⟨by simp at hlen;omega,?_⟩
  have e0:(pre.map bc.cells++[[.i .i64 x.aT.time,.i .i64 x.aT.bP,.i .i64 x.aT.number,.i .i64 x.kind,.sl 3 (x.entry.source.map It.cells),.sl 3 (x.entry.target.map It.cells),.s x.entry.bN,.s x.entry.next,.s x.entry.cw,.s x.entry.bV,.i .i64 x.entry.created,.i .i64 x.entry.origin,.sl 1 (x.seen.map bW)]])=(pre++[x]).map bc.cells:=by
   simp[bc.cells,bY.cells,En.cells]
  rw[e0];refine hR _ (cy [_] _ (b9 aU (by simp)) ?_ ?_ (ih (pre++[x]) (g+1) (by simp) h1))
  ·rw[aX (by simp at hlen;omega)];simp only[List.length_append,ag,ai]
   repeat' constructor
  ·simp only[LW,ag,ai,aI];omega
theorem Dq(l:List bc)(hlen:l.length<2^39)(Da:∀ o∈l,o.small)(σ:ah):PC prog 46 [.sl 13 (l.map bc.cells)] σ (fun r σ'=>r=.own σ.length 0∧σ'=σ++[rS 0 l]):=by
 refine PC.intro func46 c46 fun aU da=>al ?_;simp only[p46,SS,seval];simp only[ae,VV,seval];refine bX.wk ((Wk.iZ (σ:=σ) (k:=3) QE rfl).trans (Wk.ic ?_)) (bX.ml (l.length+1) (R8 l aU hlen Da l [] 0 rfl ?_))
 ·simp only[W,seval]
  repeat' constructor
 ·intro g;intros;simp only[VV,seval];exact Bi 0 aU (.inr rfl) rfl rfl rfl (by simp[Ec,Ob.gen]) (by simp[Pm.one,RN,Ob.fresh,rS])
theorem pE(o:cp)(ho:o.small)(σ:ah):PC prog 22 [.agg o.cells] σ (fun r σ'=>r=.agg [.i .i64 o.number,.i .i64 o.clock,.own σ.length 0,.sl 1 (aQ o.log),.i .i64 o.synced,.b o.down]∧σ'=σ++[rS 0 o.ops]):=by
 refine PC.intro func22 c22 fun aU da=>al ?_;simp only[p22,SS,seval];simp only[cp.cells,VV,seval];refine an (Dq o.ops (by have:=ho.len;omega) ho.ops _) rfl ?_;simp only[rS,VV,seval];refine an (zG o.log (by have:=ho.log;omega) _) rfl ?_;simp only[VV,seval];refine ei (xs:=[.agg [.i .i64 o.number,.i .i64 o.clock,.own (σ.length+2) 0,.sl 1 (aQ o.log),.i .i64 o.synced,.b o.down]]) (xs':=[.agg [.i .i64 o.number,.i .i64 o.clock,.own σ.length 0,.sl 1 (aQ o.log),.i .i64 o.synced,.b o.down]]) (.inr rfl) (by simp only[kh,tV,VV,seval]) ?_ rfl ⟨rfl,rfl⟩
 refine Wk.L7 (os:=[.row 65 13 184 0 false (o.ops.map bc.cells)]) [2] aU (by simp) rfl (fun i k hk=>by
  rcases i with _ | i
  ·simp only[ax,aa]at hk;subst hk;exact⟨_,rfl,rfl,rfl⟩
  ·simp at hk) (.cons (Mv.ng (.cons (.eO _ (.i _ _)) (.cons (.eO _ (.i _ _)) (.cons (.own 0 2 65 13 184 0 false (o.ops.map bc.cells) rfl rfl) (.cons (.eO _ (.sl _ _)) (.cons (.eO _ (.i _ _)) (.cons (.eO _ (.b _)) .nil))))))) .nil)
theorem nH(o:cp)(ho:o.small)(σ:ah):PC prog 22 [.agg o.cells] σ (fun r σ'=>r=.agg o.cells∧σ'=σ):=by
 refine PC.closed fun aU=>PC.post (pE o ho σ) ?_;refine(Wk.fz (E:=65) (sz:=13) (by':=184) (g:=0) (sh:=false) (rows:=o.ops.map bc.cells) σ.length (by simp[rS])).trans ?_;simp only[aW,aZ,Pm.fz,kF,and_self,if_true,rS];rw[ed _ _ (aw _),eU];exact Wk.EM aU (by simp only[LW])
end Go.Proofs.Tryz
namespace Go.Proofs.Tryz
open Go Go.Pm Go.Bt Go.RowKit
theorem mo(i:Int)(n:Nat)(σ:ah):PC prog 20 [.i .i64 i,.i .i64 n] σ (fun r σ'=>r=.b (H4 i n)∧σ'=σ):=by
 refine PC.intro func20 c20 fun aU da=>al ?_;simp only[p20,SS,seval];simp only[VV,seval];refine aP (.inr rfl) rfl ⟨?_,rfl⟩
 by_cases h:0≤i<;>simp[Pm.one,H4,h]
theorem Hh(a b:Int)(σ:ah):PC prog 27 [.i .i64 a,.i .i64 b] σ (fun r σ'=>r=.agg (dZ (pU a b))∧σ'=σ):=by
 refine PC.intro func27 c27 fun aU da=>al ?_;simp only[p27,SS,seval];simp only[VV,seval];exact aD aU (.inr rfl) (by simp only[RS,seval];rfl) (by simp only[LW]) ⟨rfl,rfl⟩
def Gs(l:List (Int×Int))(x:Int×Int):Int:=if x∈l then l.idxOf x else -1
def dW(g:Nat)(l:List (Int×Int)):Ob:=.row 59 2 16 g false (l.map dZ)
theorem R4{σ:ah}{K:Exit→St→Prop}(x:Int×Int)(l:List (Int×Int))(c g:Nat)(hq:σ[c]?=some (dW g l))(hlen:l.length<2^62):∀ (rest pre:List (Int×Int)),l=pre++rest→x ∉ pre →
  (x ∉ l→(∀ j0 j1 j2 j3 j4 j5 j6 j7 j8 j9 cC cH cG cF cB cE cD cI cQ,K (.exit 0) ⟨[j0,j1,j2,j3,j4,j5,j6,j7,j8,j9,cC,cH,cG,cF,cB,cE,cD,cI,cQ],σ++[.box 59 (dZ x)]⟩))→(x∈l→(∀ j0 j1 j2 j3 j5 j6 j7 j8 j9 cC cH cG cF cB cE cD cI cQ,K .ret ⟨[j0,j1,j2,j3,.i .i64 (Gs l x),j5,j6,j7,j8,j9,cC,cH,cG,cF,cB,cE,cD,cI,cQ],σ++[.box 59 (dZ x)]⟩)) →
  fp σ.length prog Hq K (rest.length+1) ⟨[.own c g,.u,.u,.ptr σ.length 0,.u,.u,.u,.i .i64 l.length,.i .i64 pre.length,.u,.u,.u,.u,.u,.u,.u,.u,.u,.u],σ++[.box 59 (dZ x)]⟩:=by
 intro rest;have hq':∀ loc:ah,(σ++loc)[c]?=some (.row 59 2 16 g false (l.map dZ)):=fun loc=>by rw[az (ab.1 hq).1];exact hq
 induction rest with
 | nil =>
  intro pre he hn h1 h2;have he:l=pre:=by simpa using he
  subst he;refine ay fun R hR=>?_;simp only[Hq,VV,seval];exact⟨fun h=>by simp at h,fun _=>h1 hn ..⟩
 | cons y rest ih =>
  intro pre he hn h1 h2;have hl:l.length=pre.length+(rest.length+1):=by rw[he];simp
  have er:(List.map dZ l).getD pre.length []=[.i .i64 y.1,.i .i64 y.2]:=by rw[he];exact jj
  have h0:(0:Int)≤(pre.length:Int):=by omega
  have h3:(pre.length:Int)<(l.length:Int):=by omega
  refine ay fun R hR=>?_;simp only[Hq,dZ,hq',er,h0,h3,ae,fm,cu,bI,VV,seval];refine⟨fun _=>⟨fun h=>?_,fun h=>?_⟩,fun h=>by simp at h⟩
  ·have h:x=y:=by obtain⟨a,b⟩:=x;obtain⟨a',b'⟩:=y;simpa using h
   subst h;have e:Gs l x=pre.length:=by rw[he];simp[Gs,List.idxOf_append,hn]
   rw[e]at h2;exact h2 (by rw[he];simp) ..
  ·have h:x≠y:=by obtain⟨a,b⟩:=x;obtain⟨a',b'⟩:=y;intro e;simp at e;simp[e.1,e.2]at h
   refine hR _ (bb ?_ (ih (pre++[y]) (by rw[he];simp) (by simp[hn,h]) h1 h2));rw[aX (by omega)];simp only[List.length_append,ag,ai]
   repeat' constructor
theorem JH(l:List (Int×Int))(x:Int×Int)(c g:Nat)(hlen:l.length<2^62)(σ:ah)(hq:σ[c]?=some (dW g l)):PC prog 75 [.own c g,.agg (dZ x)] σ (fun r σ'=>r=.i .i64 (Gs l x)∧σ'=σ):=by
 refine PC.intro func75 c75 fun aU da=>al ?_;have hq':∀ loc:ah,(σ++loc)[c]?=some (.row 59 2 16 g false (l.map dZ)):=fun loc=>by rw[az (ab.1 hq).1];exact hq
 simp only[p75,SS,seval];simp only[hq',ae,dZ,VV,seval];refine bX.bb ?_ (l.length+1) (R4 x l c g hq hlen l [] rfl (by simp) (fun h=>?_) (fun h=>?_))
 ·repeat' constructor
 ·intros;simp only[VV,seval];exact aD aU (.inr rfl) rfl (by simp only[LW]) ⟨by simp[Pm.one,Gs,h],rfl⟩
 ·intros;simp only[VV,seval];exact aD aU (.inr rfl) rfl (by simp only[LW]) ⟨rfl,rfl⟩
theorem CS(l:List (Int×Int))(x:Int×Int)(c g:Nat)(hlen:l.length<2^62)(σ:ah)(hq:σ[c]?=some (dW g l)):PC prog 49 [.own c g,.agg (dZ x)] σ (fun r σ'=>r=.b (l.any fun c=>c==x)∧σ'=σ):=by
 refine PC.intro func49 c49 fun aU da=>al ?_;have hq':∀ loc:ah,(σ++loc)[c]?=some (dW g l):=fun loc=>by rw[az (ab.1 hq).1];exact hq
 simp only[p49,SS,seval];simp only[dZ,VV,seval];refine an (JH l x c g hlen _ (hq' _)) rfl ?_;simp only[VV,seval];refine aD aU (.inr rfl) rfl (by simp only[LW]) ⟨?_,rfl⟩
 by_cases h:x∈l
 ·have:(l.any fun c=>c==x)=true:=wi.2 ⟨x,h,by simp⟩;simp[Pm.one,Gs,h,this]
 ·have:(l.any fun c=>c==x)=false:=by
   rw[List.any_eq_false];intro c hc e;exact h (by simpa using(beq_iff_eq.1 e)▸hc)
  simp[Pm.one,Gs,h,this]
theorem Fc(n:Net)(x y:V)(a b:Int)(c g:Nat)(hlen:n.dP.length<2^62)(σ:ah)(hq:σ[c]?=some (dW g n.dP))(hx:gg σ x=true)(hy:gg σ y=true):PC prog 24 [.agg [x,y,.own c g],.i .i64 a,.i .i64 b] σ (fun r σ'=>r=.b (yA n a b)∧σ'=σ):=by
 refine PC.intro func24 c24 fun aU da=>al ?_;have Kp:σ[c]?=some (.row 59 2 16 g false (n.dP.map dZ)):=hq;have hq':∀ loc:ah,(σ++loc)[c]?=some (dW g n.dP):=fun loc=>by rw[az (ab.1 hq).1];exact hq
 simp only[p24,SS,seval];simp only[hx,hy,Kp,beq_self_eq_true,VV,seval];refine an (Hh a b _) rfl ?_;simp only[VV,seval];refine an (CS n.dP (pU a b) c g hlen _ (hq' _)) rfl ?_;simp only[VV,seval];exact aD aU (.inr rfl) rfl (by simp only[LW]) ⟨rfl,rfl⟩
theorem Ao(x:Let)(hx:x.op.small)(σ:ah):PC prog 23 [.agg x.cells] σ (fun r σ'=>r=.agg x.cells∧σ'=σ):=by
 refine PC.intro func23 c23 fun aU da=>al ?_;simp only[p23,SS,seval];simp only[Let.cells,bc.cells,bY.cells,En.cells,aJ,aG,VV,seval];refine an (mi x.op hx _) (by simp only[bc.cells,bY.cells,En.cells,VV,seval]) ?_;simp only[bc.cells,bY.cells,En.cells,VV,seval];exact aD aU (.inr rfl) (by simp only[RS,seval];rfl) (by simp only[LW]) ⟨rfl,rfl⟩
theorem H3:(prog.info? 59).map (fun i=>(i.zero.map (fun z=>z.cells.size),i.size,i.bytes))=some (some 2,2,16):=by kernel_rfl
theorem J9{f E sz by':Nat}{rows:List (List V)}(fq:0<sz)(My:(prog.info? E).map (fun i=>(i.zero.map (fun z=>z.cells.size),i.size,i.bytes))=some (some sz,sz,by'))
  (hlen:rows.length*by'≤140737488355328)
  (Gt:∀ w,Calls prog f #[.slice none 0 0] w fun e w'=>e=.returned (.slice none 0 0)∧w'=w)
  (S4:∀ (a:Addr) (w:World),Calls prog f #[.slice (some a) 0 0] w fun e w'=>∃ v',e=.returned v'∧w'.ownsRow w.heap.size E sz v' 0 []∧Below w.heap.size w w')
  (Mf:∀ (i0:TypeInfo) (z:Value),prog.info? E=some i0→i0.zero=some z→i0.size=sz→i0.bytes=by'→z.cells.size=sz→(∀ w,(Go.sizeOf E).run prog w=.ok sz w)→∀ (b off n c:Nat) (news:List Value) (w:World),news.length=n*sz→n≤maxLen→n*by'≤140737488355328 →
   (∀ j u,news[j]?=some u→w.cell? ⟨b,off+j,none⟩=some u)→(∀ u∈news,u.oneCell'=true) →
   Calls prog f #[.slice (some ⟨b,off,none⟩) n c] w fun e w'=>∃ v',e=.returned v'∧w'.ownsRow w.heap.size E sz v' n news∧v'≠.slice none 0 0∧Below w.heap.size w w')
  (σ:ah):PC prog f [.sl sz rows] σ (fun r σ'=>r=.own σ.length 0∧σ'=σ++[.row E sz by' 0 false rows]):=by
 obtain⟨i,z,hi,hz,h1,h2,h3⟩:=mb My;refine PC.ofRow (E:=E) (by':=by') ⟨fq,i,z,hi,hz,h1,h2,h3⟩ fun B w0 w μ vs hS hv=>?_;have h0:=hv.2 0 _ rfl;have e:vs=#[vs.getD 0 undef]:=TZ hv.1;rw[e];rcases Hd fq h0 with⟨⟨a,H5⟩,hr⟩ | ⟨b,o,cap,vals,H5,hm,hl,hc,h1',hR⟩
 ·rw[H5];subst hr;cases a with
  | none =>
   refine(Gt w).mono ?_;rintro e w' ⟨rfl,rfl⟩;exact⟨_,[],rfl,World.ownsRow_nil w' _ _ _,Below.refl _ _,by simp,by simp[ft]⟩
  | some a =>
   refine(S4 a w).mono ?_;rintro e w' ⟨v',rfl,h1,h2⟩;exact⟨_,[],rfl,h1,h2,by simp,by simp[ft]⟩
 ·rw[H5];refine(Mf i z hi hz h1 h2 h3 (fun w=>by simp[sizeOf,run_typeInfo w hi,h1]) b o _ cap vals w hl hm hlen hc h1').mono ?_;rintro e w' ⟨v',rfl,cm,_,hb⟩;exact⟨_,vals,rfl,cm,hb,hR⟩
theorem zF(xs:List (Int×Int))(hlen:xs.length<2^40)(σ:ah):PC prog 21 [.sl 2 (xs.map dZ)] σ (fun r σ'=>r=.own σ.length 0∧σ'=σ++[dW 0 xs]) :=
 J9 (by decide) H3 (by rw[ae];omega) (fun w=>AnyE.slices_Clone_nil Tryz.GS 0 0 w)
  (fun a w=>by
   obtain⟨i,z,hi,hz,h1,h2,h3⟩:=mb H3;exact nE Tryz.GS i z 2 16 hi hz h1 h2 h3 (by decide) (show ∀ w,(Go.sizeOf 59).run prog w=.ok 2 w from fun w=>by simp[sizeOf,run_typeInfo w hi,h1]) a w)
  (fun i z hi hz h1 h2 h3 hs b o n c news w hl hn hb hc h=>AnyE.slices_Clone Tryz.GS i z 2 16 hi hz h1 h2 h3 (by decide) hs b o n c news w hl hn hb hc h) σ
theorem KL:Ti prog 44 6 80:=kY (by kernel_rfl)
theorem Rr:Ti prog 67 15 200:=kY (by kernel_rfl)
def dB(x y z:V):Ob:=.box 26 [x,y,z]
def bJ(g:Nat)(l:List cp):Ob:=.row 44 6 80 g false (l.map cp.cells)
def cv(g:Nat)(l:List Let):Ob:=.row 67 15 200 g false (l.map Let.cells)
theorem Lw(n:List cp)(o:cp):n.map cp.cells++[[.i .i64 o.number,.i .i64 o.clock,.sl 13 (o.ops.map bc.cells),.sl 1 (aQ o.log),.i .i64 o.synced,.b o.down]]=(n++[o]).map cp.cells:=by
 simp[cp.cells]
theorem L0(n:List Let)(x:Let):n.map Let.cells++[[.i .i64 x.src,.i .i64 x.dst,.i .i64 x.op.aT.time,.i .i64 x.op.aT.bP,.i .i64 x.op.aT.number,.i .i64 x.op.kind,.sl 3 (x.op.entry.source.map It.cells),.sl 3 (x.op.entry.target.map It.cells),.s x.op.entry.bN,.s x.op.entry.next,.s x.op.entry.cw,.s x.op.entry.bV,.i .i64 x.op.entry.created,.i .i64 x.op.entry.origin,.sl 1 (x.op.seen.map bW)]]=(n++[x]).map Let.cells:=by
 simp[Let.cells,bc.cells,bY.cells,En.cells]
theorem LZ{σ:ah}{K:Exit→St→Prop}{b1 b2:Ob}(aU:bG (σ++[b1,b2]))(dP:List (Int×Int))(l:List cp)(hlen:l.length<2^30)(Da:∀ o∈l,o.small):∀ (rest pre:List cp) (g:Nat),l=pre++rest →
  (∀ g,(∀ j0 j4 j5 j6 j7 j8 j9 cC cH cG cF cB cE cD cI cQ db de dh dm dv du dt dN dR dU dX ej eD eL eQ eP fb fi fh fg fw fG fF fK,K (.exit 0) ⟨[j0,.ptr σ.length 0,.ptr (σ.length+1) 0,.ptr (σ.length+3) 0,j4,j5,j6,j7,j8,j9,cC,cH,cG,cF,cB,cE,cD,cI,cQ,db,de,dh,dm,dv,du,dt,dN,dR,dU,dX,ej,eD,eL,eQ,eP,fb,fi,fh,fg,fw,fG,fF,fK],σ++[b1,b2,dW 0 dP,dB (.own (σ.length+4) g) .nil (.own (σ.length+2) 0),bJ g l]⟩)) →
  fp σ.length prog HM K (rest.length+1) ⟨[.u,.ptr σ.length 0,.ptr (σ.length+1) 0,.ptr (σ.length+3) 0,.u,.u,.u,.u,.u,.u,.u,.u,.u,.sl 6 (l.map cp.cells),.i .i64 l.length,.i .i64 pre.length,.u,.u,.u,.u,.u,.u,.u,.u,.u,.u,.u,.u,.u,.u,.u,.u,.u,.u,.u,.u,.u,.u,.u,.u,.u,.u,.u],σ++[b1,b2,dW 0 dP,dB (.own (σ.length+4) g) .nil (.own (σ.length+2) 0),bJ g pre]⟩:=by
 intro rest
 induction rest with
 | nil =>
  intro pre g he h1;have he:l=pre:=by simpa using he
  subst he;refine ay fun R hR=>?_;simp only[HM,VV,seval];exact⟨fun h=>by simp at h,fun _=>h1 g ..⟩
 | cons x rest ih =>
  intro pre g he h1;subst he;have hx:=Da x (by simp)
  have hw:IntKind.i64.wrap ((pre.length:Int)+1)=(((pre++[x]).length:Nat):Int):=by
   rw[aX (by simp at hlen;omega)];simp
  have hl:pre.length+1<2^30:=by simp at hlen;omega
  refine ay fun R hR=>?_;simp only[HM,dB,bJ,cp.cells,hw,VV,seval];refine⟨fun _=>⟨by simp;omega,?_⟩,fun h=>by simp at h<;>omega⟩;refine an (nH x hx _) (by simp only[cp.cells,VV,seval]) ?_;simp only[cp.cells,ae,maxLen,V.pure,hw,VV,seval];refine⟨⟨by omega,by omega⟩,?_⟩;have e0:=Lw pre x;rw[e0];refine hR _ (cy [b1,b2,dW 0 dP,dB (.own (σ.length+4) (g+1)) .nil (.own (σ.length+2) 0),bJ (g+1) (pre++[x])] [_] ?_ ?_ ?_ (ih (pre++[x]) (g+1) (by simp) h1))
  ·have:=b9 aU (l:=[dW 0 dP,dB (.own (σ.length+4) (g+1)) .nil (.own (σ.length+2) 0),bJ (g+1) (pre++[x])]) (by
    simp only[dB,dW,bJ,ct,bK,false_imp_iff,implies_true,and_true,List.length_append,ag,ai,LW];omega)
   simpa using this
  ·repeat' constructor
  ·simp only[LW,ag,ai,aI];omega
theorem LY{σ:ah}{K:Exit→St→Prop}{b1 b2:Ob}(aU:bG (σ++[b1,b2]))(dP:List (Int×Int))(bf:List cp)(g1:Nat)(l:List Let)(hlen:l.length<2^30)(Da:∀ o∈l,o.op.small):∀ (rest pre:List Let) (g:Nat),l=pre++rest →
  (∀ g,(∀ j0 j1 j4 j5 j6 j7 j8 j9 cC cH cG cF cB cE cD cI cQ db de dh dm dv du dt dN dR dU dX ej eD eL eQ eP fb fi fh fg fw fG fF fK,K (.exit 2) ⟨[j0,j1,.ptr (σ.length+1) 0,.ptr (σ.length+3) 0,j4,j5,j6,j7,j8,j9,cC,cH,cG,cF,cB,cE,cD,cI,cQ,db,de,dh,dm,dv,du,dt,dN,dR,dU,dX,ej,eD,eL,eQ,eP,fb,fi,fh,fg,fw,fG,fF,fK],σ++[b1,b2,dW 0 dP,dB (.own (σ.length+4) g1) (.own (σ.length+5) g) (.own (σ.length+2) 0),bJ g1 bf,cv g l]⟩)) →
  fp σ.length prog HL K (rest.length+1) ⟨[.u,.u,.ptr (σ.length+1) 0,.ptr (σ.length+3) 0,.u,.u,.u,.u,.u,.u,.u,.u,.u,.u,.u,.u,.u,.u,.u,.u,.u,.u,.u,.u,.u,.u,.u,.u,.sl 15 (l.map Let.cells),.i .i64 l.length,.i .i64 pre.length,.u,.u,.u,.u,.u,.u,.u,.u,.u,.u,.u,.u],σ++[b1,b2,dW 0 dP,dB (.own (σ.length+4) g1) (.own (σ.length+5) g) (.own (σ.length+2) 0),bJ g1 bf,cv g pre]⟩:=by
 intro rest
 induction rest with
 | nil =>
  intro pre g he h1;have he:l=pre:=by simpa using he
  subst he;refine ay fun R hR=>?_;simp only[HL,VV,seval];exact⟨fun h=>by simp at h,fun _=>h1 g ..⟩
 | cons x rest ih =>
  intro pre g he h1;subst he;have hx:=Da x (by simp)
  have hw:IntKind.i64.wrap ((pre.length:Int)+1)=(((pre++[x]).length:Nat):Int):=by
   rw[aX (by simp at hlen;omega)];simp
  have hl:pre.length+1<2^30:=by simp at hlen;omega
  refine ay fun R hR=>?_;simp only[HL,dB,bJ,cv,Let.cells,bc.cells,bY.cells,En.cells,aJ,aG,hw,VV,seval];refine⟨fun _=>⟨by simp;omega,?_⟩,fun h=>by simp at h<;>omega⟩;refine an (Ao x hx _) (by simp only[Let.cells,bc.cells,bY.cells,En.cells,aJ,aG,VV,seval]) ?_;simp only[Let.cells,bc.cells,bY.cells,En.cells,aJ,aG,ae,maxLen,V.pure,hw,VV,seval];refine⟨⟨by omega,by omega⟩,?_⟩;have e0:=L0 pre x;rw[e0];refine hR _ (cy [b1,b2,dW 0 dP,dB (.own (σ.length+4) g1) (.own (σ.length+5) (g+1)) (.own (σ.length+2) 0),bJ g1 bf,cv (g+1) (pre++[x])] [_] ?_ ?_ ?_ (ih (pre++[x]) (g+1) (by simp) h1))
  ·have:=b9 aU (l:=[dW 0 dP,dB (.own (σ.length+4) g1) (.own (σ.length+5) (g+1)) (.own (σ.length+2) 0),bJ g1 bf,cv (g+1) (pre++[x])]) (by
    simp only[dB,dW,bJ,cv,ct,bK,false_imp_iff,implies_true,and_true,List.length_append,ag,ai,LW];omega)
   simpa using this
  ·repeat' constructor
  ·simp only[LW,ag,ai,aI];omega
theorem Nc{n:Nat}{xs:List V}{σ:ah}{b1 b2:Ob}{dP:List (Int×Int)}:Wk prog n xs (σ++[b1,b2,dW 0 dP,dB .nil .nil (.own (σ.length+2) 0)]) xs (σ++[b1,b2,dW 0 dP,dB (.own (σ.length+4) 0) .nil (.own (σ.length+2) 0),bJ 0 []]):=by
 have:=Wk.qq (P:=prog) (n:=n) (xs:=xs) (id:=σ.length+3) (j:=0) (T:=26) (cs:=[.nil,.nil,.own (σ.length+2) 0]) (σ:=σ++[b1,b2,dW 0 dP,dB .nil .nil (.own (σ.length+2) 0)]) KL (by simp[dB]) rfl;simpa only[dB,bJ,mV,List.append_assoc,List.length_append,ag,ai,aJ,aG,cU,cW,aI,Nat.reduceAdd,aZ]using this
theorem Nb{n g:Nat}{xs:List V}{σ:ah}{b1 b2:Ob}{dP:List (Int×Int)}{l:List cp}:Wk prog n xs (σ++[b1,b2,dW 0 dP,dB (.own (σ.length+4) g) .nil (.own (σ.length+2) 0),bJ g l]) xs (σ++[b1,b2,dW 0 dP,dB (.own (σ.length+4) g) (.own (σ.length+5) 0) (.own (σ.length+2) 0),bJ g l,cv 0 []]):=by
 have:=Wk.qq (P:=prog) (n:=n) (xs:=xs) (id:=σ.length+3) (j:=1) (T:=26) (cs:=[.own (σ.length+4) g,.nil,.own (σ.length+2) 0]) (σ:=σ++[b1,b2,dW 0 dP,dB (.own (σ.length+4) g) .nil (.own (σ.length+2) 0),bJ g l]) Rr (by simp[dB]) rfl;simpa only[dB,bJ,cv,mV,List.append_assoc,List.length_append,ag,ai,aJ,aG,cU,cW,aI,Nat.reduceAdd,aZ]using this
set_option maxHeartbeats 1000000 in
theorem mS(n:Net)(hn:n.small)(σ:ah):PC prog 10 [.agg n.cells] σ (fun r σ'=>r=.agg [.own σ.length 0,.own (σ.length+1) 0,.own (σ.length+2) 0]∧σ'=σ++[bJ 0 n.aV,cv 0 n.bw,dW 0 n.dP]):=by
 refine PC.intro func10 NR fun aU da=>al ?_;have vz:bG (σ++[.box 26 [.sl 6 (n.aV.map cp.cells),.sl 15 (n.bw.map Let.cells),.sl 2 (n.dP.map dZ)],.box 26 [.nil,.nil,.nil]]):=b9 aU (by simp only[ct,bK,false_imp_iff,implies_true,and_true,LW]);simp only[p10,SS,seval];simp only[Net.cells,ae,VV,seval];refine an (zF n.dP (by have:=hn.TN;omega) _) rfl ?_;simp only[dW,ae,beq_self_eq_true,VV,seval];refine bX.wk ((Wk.ic (ys:=[.u,.ptr σ.length 0,.ptr (σ.length+1) 0,.ptr (σ.length+3) 0,.u,.u,.u,.u,.u,.u,.u,.u,.u,.sl 6 (n.aV.map cp.cells),.i .i64 n.aV.length,.i .i64 (([]:List cp).length:Nat),.u,.u,.u,.u,.u,.u,.u,.u,.u,.u,.u,.u,.u,.u,.u,.u,.u,.u,.u,.u,.u,.u,.u,.u,.u,.u,.u]) ?_).trans Nc) (bX.ml (n.aV.length+1) (LZ vz n.dP n.aV hn.Wc hn.bf n.aV [] 0 rfl ?_))
 ·repeat' constructor
 intro g1;intros;simp only[dB,dW,bJ,ae,VV,seval];refine bX.wk ((Wk.ic (ys:=[.u,.u,.ptr (σ.length+1) 0,.ptr (σ.length+3) 0,.u,.u,.u,.u,.u,.u,.u,.u,.u,.u,.u,.u,.u,.u,.u,.u,.u,.u,.u,.u,.u,.u,.u,.u,.sl 15 (n.bw.map Let.cells),.i .i64 n.bw.length,.i .i64 (([]:List Let).length:Nat),.u,.u,.u,.u,.u,.u,.u,.u,.u,.u,.u,.u]) ?_).trans Nb) (bX.ml (n.bw.length+1) (LY vz n.dP n.aV g1 n.bw hn.Ws hn.ops n.bw [] 0 rfl ?_))
 ·repeat' constructor
 intro g2;intros;simp only[dB,dW,bJ,cv,beq_self_eq_true,VV,seval];refine ei (xs:=[.agg [.own (σ.length+4) g1,.own (σ.length+5) g2,.own (σ.length+2) 0]]) (xs':=[.agg [.own σ.length 0,.own (σ.length+1) 0,.own (σ.length+2) 0]]) (.inr rfl) (by simp only[kh,tV,VV,seval]) ?_ rfl ⟨rfl,rfl⟩
 refine Wk.L7 (os:=[bJ 0 n.aV,cv 0 n.bw,dW 0 n.dP]) [4,5,2] aU (by simp) rfl (fun i k hk=>by
  rcases i with _ | _ | _ | i
  ·simp only[ax,aa]at hk;subst hk;exact⟨_,rfl,rfl,rfl⟩
  ·simp only[aI,cc,ax,aa]at hk;subst hk;exact⟨_,rfl,rfl,rfl⟩
  ·simp only[aI,Nat.reduceAdd,cc,ax,aa]at hk;subst hk;exact⟨_,rfl,rfl,rfl⟩
  ·simp at hk) (.cons (Mv.ng (.cons (.own 0 4 44 6 80 g1 false (n.aV.map cp.cells) rfl rfl) (.cons (.own 1 5 67 15 200 g2 false (n.bw.map Let.cells) rfl rfl) (.cons (.own 2 2 59 2 16 0 false (n.dP.map dZ) rfl rfl) .nil)))) .nil)
end Go.Proofs.Tryz
namespace Go.Proofs.Tryz
open Go Go.Pm Go.Bt
theorem qL{σ loc:ah}{k a b c:Nat}{K0 A0 B0 C0 K A B C:Ob}{fr:List V}{rs:List Rs}{Q:V→ah→Prop}{e:Exit}{xs:List V}(aU:bG (gP σ k a b c K0 A0 B0 C0))(hK:kx σ.length K)(hA:kx σ.length A)(hB:kx σ.length B)(hC:kx σ.length C)(he:e=.normal∨e=.ret)
  (hx:kh ⟨fr,gP σ k a b c K A B C++loc⟩ rs=some xs) (hl:gh σ.length xs) (hQ:Q (Pm.one xs) (gP σ k a b c K A B C)):wW prog σ.length rs Q e ⟨fr,gP σ k a b c K A B C++loc⟩ :=
 ei he hx (Wk.vC (by rw[jB];exact aw _) (wL aU hK hA hB hC) (eW.1 (by rw[jB];exact hl))) rfl hQ
theorem B6(bf:List cp)(i:Nat)(o':cp):(bf.map cp.cells).set i [.i .i64 o'.number,.i .i64 o'.clock,.sl 13 (o'.ops.map bc.cells),.sl 1 (aQ o'.log),.i .i64 o'.synced,.b o'.down]=(bf.set i o').map cp.cells:=by
 rw[List.map_set];rfl
theorem sW{n a b c ga gb gc:Nat}(ha:a<n)(hb:b<n)(hc:c<n):kx n (dB (.own a ga) (.own b gb) (.own c gc)):=by
 intro j x hj;rcases j with _ | _ | _ | j
 ·simp only[ax,aa]at hj;subst hj;exact .own _ _ ha
 ·simp only[aI,cc,ax,aa]at hj;subst hj;exact .own _ _ hb
 ·simp only[aI,Nat.reduceAdd,cc,ax,aa]at hj;subst hj;exact .own _ _ hc
 ·simp at hj
set_option maxHeartbeats 1000000 in
theorem sV{σ:ah}{k a b c ga gb gc:Nat}(h:sb σ k a b c)(bf:List cp)(B C:Ob)(hB:kx σ.length B)(Ic:kx σ.length C)(e:Ev)(hk:e.kind=1)(i:Nat)(hi:e.a=i)(o:cp)(ho:bf[i]?=some o)(o':cp)(x:bc)(err:Int)
  (hC:∀ σ,PC prog 36 [.agg o.cells,.agg e.entry.cells] σ (fun r σ'=>r=.gZ [.agg o'.cells,.agg x.cells,.i .i64 err]∧σ'=σ)) :
  PC prog 14 [.ptr k 0,.agg e.cells] (gP σ k a b c (dB (.own a ga) (.own b gb) (.own c gc)) (bJ ga bf) B C) (fun r σ'=>r=.i .i64 err∧σ'=gP σ k a b c (dB (.own a ga) (.own b gb) (.own c gc)) (bJ ga (bf.set i o')) B C):=by
 obtain⟨kind,ea,eb,em,en⟩:=e;simp only at hk hi hC;subst hk hi;refine PC.intro func14 c14 fun uK da=>al ?_;have er:(bf.map cp.cells).getD i []=o.cells:=by simp[List.getD_eq_getElem?_getD,ho]
 have pC:i<bf.length:=(ab.1 ho).1;have nc:=B6 bf i o';have h0:(0:Int)≤(i:Int):=by omega
 have eC:(i:Int)<(bf.length:Int):=by omega
 simp only[cp.cells]at er;simp only[p14,SS,seval];simp only[Ev.cells,En.cells,dB,bJ,h.all,er,h0,eC,cp.cells,ae,VV,seval];refine an (hC _) (by simp only[cp.cells,En.cells,VV,seval]) ?_;simp only[cp.cells,h.all,er,h0,eC,nc,ae,VV,seval];exact⟨pC,qL uK (sW h.la h.lb h.lc) trivial hB Ic (.inr rfl) rfl (by simp only[LW]) ⟨rfl,rfl⟩⟩
end Go.Proofs.Tryz
namespace Go.Proofs.Tryz
open Go Go.Pm Go.Bt Go.RowKit
theorem xL(n:Int)(σ:ah):PC prog 151 [.i .u32 n] σ (fun r σ'=>r=.sl 1 (aQ (y7 n))∧σ'=σ):=by
 refine PC.intro func151 aau fun aU da=>al ?_;simp only[VE,SS,seval];simp only[VV,Int.reduceBEq,Int.reduceBNe,Nat.reduceAdd,Nat.reduceSub,Nat.reduceLeDiff,Nat.reduceEqDiff,Int.reduceToNat,reduceIte,reduceCtorEq];refine⟨by decide,by decide,by decide,?_⟩;refine ei (xs':=[.sl 1 (aQ (y7 n))]) (.inr rfl) rfl (Wk.ic (.cons ?_ .nil)) rfl ⟨rfl,rfl⟩;simp only[aQ,y7,aW,aZ,E1];exact .lit _ _
theorem O7{n:Nat}{σ:ah}{K:Exit→St→Prop}(l:List UInt8)(hlen:l.length<2^62):∀ (rest pre:List UInt8) (h:Int),l=pre++rest →
  (∀ j1 j2 j3 j4 j5 j6 j7 j8 j9 cC cH cG cF cB cE cD cI cQ db,K (.exit 0) ⟨[.i .u32 (rest.foldl A9 h),j1,j2,j3,j4,j5,j6,j7,j8,j9,cC,cH,cG,cF,cB,cE,cD,cI,cQ,db],σ⟩) →
  fp n prog BW K (rest.length+1) ⟨[.i .u32 h,.u,.u,.u,.u,.u,.u,.sl 1 (aQ l),.i .i64 l.length,.i .i64 pre.length,.u,.u,.u,.u,.u,.u,.u,.u,.u,.u],σ⟩:=by
 intro rest
 induction rest with
 | nil =>
  intro pre h he h1;have he:l=pre:=by simpa using he
  subst he;refine ay fun R hR=>?_;simp only[BW,VV,seval];exact⟨fun h=>by simp at h,fun _=>h1 ..⟩
 | cons x rest ih =>
  intro pre h he h1;subst he
  have er:ft (aQ (pre++x::rest)) pre.length 0=some (.i .u8 x.toNat):=by
   simp[aQ,ft]
  have hw:IntKind.i64.wrap ((pre.length:Int)+1)=(((pre++[x]).length:Nat):Int):=by
   rw[aX (by simp at hlen;omega)];simp
  refine ay fun R hR=>?_;simp only[BW,bO,er,hw,VV,seval];refine⟨fun _=>⟨by simp;omega,?_⟩,fun h=>by simp at h<;>omega⟩;refine hR _ (bb ?_ (ih (pre++[x]) (A9 h x) (by simp) h1))
  repeat' constructor
theorem HY(h:Int)(l:List UInt8)(hlen:l.length<2^62)(σ:ah):PC prog 127 [.i .u32 h,.sl 1 (aQ l)] σ (fun r σ'=>r=.i .u32 (Rv h l)∧σ'=σ):=by
 refine PC.intro func127 aaC fun aU da=>al ?_;simp only[VM,SS,seval];simp only[bO,VV,seval];refine bX.wk (Wk.ic ?_) (bX.ml (l.length+1) (O7 l hlen l [] h rfl ?_))
 ·repeat' constructor
 intros;simp only[VV,seval];exact aP (.inr rfl) rfl ⟨rfl,rfl⟩
theorem PN(n:Nat)(h0:0<n)(hn:n<2^40)(σ:ah):PC prog 185 [.nil,.i .i64 n] σ (fun r σ'=>r=.own σ.length 0∧σ'=σ++[.row 5 1 1 0 false []]):=by
 obtain⟨i,z,hi,hz,h1,h2,h3⟩:=mb Gq;refine PC.ofRow (E:=5) (by':=1) ⟨by decide,i,z,hi,hz,h1,h2,h3⟩ fun B w0 w μ vs hS hv=>?_
 have e:vs=#[.slice none 0 0,.int .i64 n]:=by
  have h4:=hv.2 0 _ rfl;have h5:=hv.2 1 _ rfl;have h4:=h4.lA;have h5:=h5.gl;obtain⟨l⟩:=vs
  match l,hv.1 with
  | [x,y],_=>simp at h4 h5;rw[h4,h5]
 rw[e];refine(Any8.slices_Grow_grow Tryz.Xn i z hi hz (by omega) none 0 0 n [] w (by omega) (by omega) (by rw[h2];omega) (by omega) (by simp) (fun _=>rfl) (fun a h=>by simp at h)).mono ?_;rintro e w' ⟨rfl,rfl⟩;have hG:=grownCap_ge w (0+n) 0 5;refine⟨_,[],rfl,?_,?_,by simp,by simp[ft]⟩
 ·refine World.ownsRow_made (base:=w.heap.size) (e:=5) (size:=1) w.drew _ _ (aw _) (grownCap_le_maxLen w _ _ _ (by unfold maxLen;omega)) ?_;have h5:∀ k,(Builtin.zeroCells z.cells k).size=k:=fun k=>by simp[Builtin.zeroCells,h3]
  have hG':0+n≤grownCap w (0+n) 0 (Tryz.Az.t 25):=hG;rw[jr,jr,h5,h5];simp only[Array.size_empty];omega
 ·exact((Below.refl _ w).drew).alloc (aw _) _
def rC(ls:List (List UInt8)):List (List V):=ls.map fun l=>[.sl 1 (aQ l)]
theorem oc(ls:List (List UInt8)):(rC ls).length=ls.length:=by simp[rC]
theorem DK(pre:List (List UInt8))(x:List UInt8)(rest:List (List UInt8)):ft (rC (pre++x::rest)) pre.length 0=some (.sl 1 (aQ x)):=by simp[rC,ft]
theorem Ig{ls pre rest:List (List UInt8)}{x:List UInt8}(h:ls=pre++x::rest):pre.flatten.length+x.length≤ls.flatten.length:=by
 subst h;simp
theorem Jx{n:Nat}{σ:ah}{K:Exit→St→Prop}(ls:List (List UInt8))(hlen:ls.length<2^40)(vZ:ls.flatten.length<2^40):∀ (rest pre:List (List UInt8)),ls=pre++rest →
  (∀ j1 j2 j4 j5 j6 j7 j8 j9 cC cH cG cF cB cE cD cI cQ db de dh dm dv du dt dN dR dU dX ej eD eL eQ eP fb,K (.exit 0) ⟨[.sl 1 (rC ls),j1,j2,.i .i64 ls.flatten.length,j4,j5,j6,j7,j8,j9,cC,cH,cG,cF,cB,cE,cD,cI,cQ,db,de,dh,dm,dv,du,dt,dN,dR,dU,dX,ej,eD,eL,eQ,eP,fb],σ⟩) →
  fp n prog BS K (rest.length+1) ⟨[.sl 1 (rC ls),.u,.u,.i .i64 pre.flatten.length,.u,.u,.u,.u,.u,.sl 1 (rC ls),.i .i64 ls.length,.i .i64 pre.length,.u,.u,.u,.u,.u,.u,.u,.u,.u,.u,.u,.u,.u,.u,.u,.u,.u,.u,.u,.u,.u,.u,.u,.u],σ⟩:=by
 intro rest
 induction rest with
 | nil =>
  intro pre he h1;have he:ls=pre:=by simpa using he
  subst he;refine ay fun R hR=>?_;simp only[BS,VV,seval];exact⟨fun h=>by simp at h,fun _=>h1 ..⟩
 | cons x rest ih =>
  intro pre he h1;subst he;have er:=DK pre x rest;have hle:=Ig (rfl:pre++x::rest=pre++x::rest)
  have hw:IntKind.i64.wrap ((pre.length:Int)+1)=(((pre++[x]).length:Nat):Int):=by
   rw[aX (by simp at hlen;omega)];simp
  have hs:IntKind.i64.wrap ((pre.flatten.length:Int)+(x.length:Int))=(((pre++[x]).flatten.length:Nat):Int):=by
   rw[show(pre.flatten.length:Int)+(x.length:Int)=((pre.flatten.length+x.length:Nat):Int)by omega,pD (by omega)];simp
  have hd:decide ((((pre++[x]).flatten.length:Nat):Int)<0)=false:=by simp;omega
  refine ay fun R hR=>?_;simp only[BS,oc,bO,er,hw,hs,hd,VV,seval];refine⟨fun _=>⟨by simp;omega,?_⟩,fun h=>by simp at h<;>omega⟩;refine hR _ (bb ?_ (ih (pre++[x]) (by simp) h1))
  repeat' constructor
theorem Jw{σ:ah}{K:Exit→St→Prop}(ls:List (List UInt8))(hlen:ls.length<2^40)(vZ:ls.flatten.length<2^40):∀ (rest pre:List (List UInt8)) (g:Nat),ls=pre++rest →
  (∀ g,(∀ j0 j1 j2 j3 j4 j5 j7 j8 j9 cC cH cG cF cB cE cD cI cQ db de dh dm dv du dt dN dR dU dX ej eD eL eQ eP fb,K (.exit 2) ⟨[j0,j1,j2,j3,j4,j5,.own σ.length g,j7,j8,j9,cC,cH,cG,cF,cB,cE,cD,cI,cQ,db,de,dh,dm,dv,du,dt,dN,dR,dU,dX,ej,eD,eL,eQ,eP,fb],σ++[.row 5 1 1 g false (aQ ls.flatten)]⟩)) →
  fp σ.length prog BR K (rest.length+1) ⟨[.u,.u,.u,.u,.u,.u,.own σ.length g,.u,.u,.u,.u,.u,.u,.u,.u,.u,.u,.u,.u,.u,.u,.u,.u,.u,.u,.sl 1 (rC ls),.i .i64 ls.length,.i .i64 pre.length,.u,.u,.u,.u,.u,.u,.u,.u],σ++[.row 5 1 1 g false (aQ pre.flatten)]⟩:=by
 intro rest
 induction rest with
 | nil =>
  intro pre g he h1;have he:ls=pre:=by simpa using he
  subst he;refine ay fun R hR=>?_;simp only[BR,VV,seval];exact⟨fun h=>by simp at h,fun _=>h1 g ..⟩
 | cons x rest ih =>
  intro pre g he h1;subst he;have er:=DK pre x rest;have hle:=Ig (rfl:pre++x::rest=pre++x::rest)
  have hw:IntKind.i64.wrap ((pre.length:Int)+1)=(((pre++[x]).length:Nat):Int):=by
   rw[aX (by simp at hlen;omega)];simp
  refine ay fun R hR=>?_;simp only[BR,oc,bO,er,hw,maxLen,VV,seval];refine⟨fun _=>⟨by simp;omega,?_⟩,fun h=>by simp at h<;>omega⟩;refine⟨⟨by omega,by omega⟩,?_⟩;have e0:aQ pre.flatten++aQ x=aQ (pre++[x]).flatten:=by simp[aQ]
  rw[e0];refine hR _ (bb ?_ (ih (pre++[x]) (g+1) (by simp) h1))
  repeat' constructor
theorem J7(ls:List (List UInt8))(hlen:ls.length<2^40)(h0:0<ls.flatten.length)(vZ:ls.flatten.length<2^40)(σ:ah):PC prog 152 [.sl 1 (rC ls)] σ (fun r σ'=>r=.sl 1 (aQ ls.flatten)∧σ'=σ):=by
 refine PC.intro func152 aat fun aU da=>al ?_;simp only[VD,SS,seval];simp only[oc,VV,seval];refine bX.wk (Wk.ic ?_) (bX.ml (ls.length+1) (Jx ls hlen vZ ls [] rfl ?_))
 ·repeat' constructor
 intros;simp only[oc,VV,seval];refine an (PN ls.flatten.length h0 vZ _) rfl ?_;simp only[oc,VV,seval];refine bX.wk (Wk.ic ?_) (bX.ml (ls.length+1) (Jw ls hlen vZ ls [] 0 rfl ?_))
 ·repeat' constructor
 intro g;intros;simp only[VV,seval];refine iy 0 aU (.inr rfl) rfl rfl ?_ ?_
 ·simp only[ar,aC,aW,aZ,fz,kF,cn,and_self,if_true,LW]
 ·simp only[ar,aC,aW,aZ,fz,kF,cn,and_self,if_true];exact⟨rfl,trivial⟩
theorem Gl(log p:List UInt8)(hl:log.length<2^30)(hp:p.length<2^30)(σ:ah):PC prog 110 [.sl 1 (aQ log),.sl 1 (aQ p)] σ (fun r σ'=>r=.gZ [.sl 1 (aQ (lE log p).1),.i .i64 (lE log p).2]∧σ'=σ):=by
 refine PC.intro func110 zI fun aU da=>al ?_
 have e1:IntKind.i64.wrap ((log.length:Int)+8)=((log.length+8:Nat):Int):=by
  rw[show(log.length:Int)+8=((log.length+8:Nat):Int)by omega,pD (by omega)]
 have e2:IntKind.i64.wrap (((log.length+8:Nat):Int)+(p.length:Int))=((log.length+8+p.length:Nat):Int):=by
  rw[show((log.length+8:Nat):Int)+(p.length:Int)=((log.length+8+p.length:Nat):Int)by omega,pD (by omega)]
 simp only[V3,SS,seval];simp only[bO,e1,e2,VV,seval];refine⟨fun h=>?_,fun h=>?_⟩
 ·have h:65536<p.length∨4194304<log.length+8+p.length:=by simp at h;omega
  refine ei (xs':=[.sl 1 (aQ (lE log p).1),.i .i64 (lE log p).2]) (.inr rfl) rfl (Wk.ic ?_) rfl ⟨rfl,rfl⟩;simp only[lE,if_pos h,aQ,aZ];exact .cons (.nil _) (.cons (.refl _) .nil)
 have h:¬ (65536<p.length∨4194304<log.length+8+p.length):=by simp at h;omega
 refine an (xL (IntKind.u32.wrap (p.length:Int)) _) rfl ?_;simp only[VV,seval];refine an (HY 2166136261 (y7 (IntKind.u32.wrap (p.length:Int))) (by rw[np];omega) _) rfl ?_;simp only[VV,seval];refine an (HY _ p (by omega) _) rfl ?_;simp only[VV,seval];refine an (xL _ _) rfl ?_;simp only[V.pure,VV,seval];refine iv (zs:=[.sl 1 (rC [log,y7 (IntKind.u32.wrap (p.length:Int)),yu p,p])]) (.cons (.lit _ _) .nil) (J7 _ (by simp) (by simp[np];omega) (by simp[np,yu];omega) _) ?_;simp only[VV,seval];refine ei (xs':=[.sl 1 (aQ (lE log p).1),.i .i64 (lE log p).2]) (.inr rfl) rfl ?_ rfl ⟨rfl,rfl⟩;simp only[lE,if_neg h,tG,List.flatten_nil,bt,List.append_assoc];exact Wk.refl _ _
theorem PL(n:Nat)(hn:n<2^60):IntKind.i64.wrap ((IntKind.u64.wrap (n:Int)).fdiv (2^min 1 IntKind.u64.bits))=((n / 2:Nat):Int):=by
 have h1:IntKind.u64.wrap (n:Int)=n:=by
  simp only[IntKind.wrap,IntKind.bits,IntKind.signed];simp only[bA,aF,if_false];omega
 have h2:(2:Int)^min 1 IntKind.u64.bits=2:=by decide
 rw[h1,h2,lq _ (by decide)];rw[show(n:Int) / 2=((n / 2:Nat):Int)by omega,pD (by omega)]
theorem Pd{S:ah}{K:Exit→St→Prop}(f:Nat)(caps:List V)(n m:Nat)(hn:n<2^40)(hm:m≤n)(gC:xt prog f=true)
  (hf:∀ k:Nat,k<n→PC prog f (.i .i64 k::caps) S (fun r σ'=>r=.b (decide (m≤k))∧σ'=S)):∀ (N i j:Nat),j - i≤N→i≤m→m≤j→j≤n →
  (∀ j0 j1 j2 j3 j4 j6 j7 j8 j9 cC cH cG cF cB cE cD cI cQ db de dh dm dv du dt,K (.exit 0) ⟨[j0,j1,j2,j3,j4,.i .i64 m,j6,j7,j8,j9,cC,cH,cG,cF,cB,cE,cD,cI,cQ,db,de,dh,dm,dv,du,dt],S⟩) →
  fp S.length prog xo K (N+1) ⟨[.u,.fn f caps,.u,.u,.u,.i .i64 i,.i .i64 j,.u,.u,.u,.u,.u,.u,.u,.u,.u,.u,.u,.u,.u,.u,.u,.u,.u,.u,.u],S⟩:=by
 intro N
 induction N with
 | zero =>
  intro i j h1 h2 h3 h4 h5;obtain rfl:i=m:=by omega
  have hd:decide ((i:Int)<(j:Int))=false:=by simp;omega
  refine ay fun R hR=>?_;simp only[xo,hd,VV,seval];exact h5 ..
 | succ N ih =>
  intro i j h1 h2 h3 h4 h5
  by_cases yI:i<j
  ·have hd:decide ((i:Int)<(j:Int))=true:=by simp;omega
   have e1:IntKind.i64.wrap ((i:Int)+(j:Int))=((i+j:Nat):Int):=by
    rw[show(i:Int)+(j:Int)=((i+j:Nat):Int)by omega,pD (by omega)]
   refine ay fun R hR=>?_;have e2:=PL (i+j) (by omega)
   have e3:IntKind.i64.wrap ((((i+j) / 2:Nat):Int)+1)=(((i+j) / 2+1:Nat):Int):=by
    rw[aX (by omega)]
   simp only[xo,hd,e1,e2,e3,VV,Int.reduceBEq,Int.reduceBNe,Nat.reduceAdd,Nat.reduceSub,Nat.reduceLeDiff,Nat.reduceEqDiff,Int.reduceToNat,reduceIte,reduceCtorEq];refine⟨by decide,?_⟩;refine oB rfl gC (hf ((i+j) / 2) (by omega)) rfl ?_;simp only[e3,VV,seval];refine⟨fun h=>?_,fun h=>?_⟩
   ·have h:¬ m≤(i+j) / 2:=by simpa using h
    refine hR _ (bb ?_ (ih ((i+j) / 2+1) j (by omega) (by omega) h3 h4 h5))
    repeat' constructor
   ·have h:m≤(i+j) / 2:=by simpa using h
    refine hR _ (bb ?_ (ih i ((i+j) / 2) (by omega) h2 h (by omega) h5))
    repeat' constructor
  ·obtain rfl:i=m:=by omega
   have hd:decide ((i:Int)<(j:Int))=false:=by simp;omega
   refine ay fun R hR=>?_;simp only[xo,hd,VV,seval];exact h5 ..
theorem z6{S:ah}(f:Nat)(caps:List V)(n m:Nat)(hn:n<2^40)(hm:m≤n)(gC:xt prog f=true)
  (hf:∀ k:Nat,k<n→PC prog f (.i .i64 k::caps) S (fun r σ'=>r=.b (decide (m≤k))∧σ'=S)):PC prog 108 [.i .i64 n,.fn f caps] S (fun r σ'=>r=.i .i64 m∧σ'=S):=by
 refine PC.intro func108 aaO fun aU da=>al ?_;simp only[V4,SS,seval];simp only[VV,seval];refine bX.wk (Wk.ic ?_) (bX.ml (n+1) (Pd f caps n m hn hm gC hf n 0 n (by omega) (by omega) hm (aw _) ?_))
 ·repeat' constructor
 intros;simp only[VV,seval];exact aP (.inr rfl) rfl ⟨rfl,rfl⟩
theorem ko(x:bc):x.cells.length=13:=by simp[bc.cells,bY.cells,En.cells]
theorem mT(x:bc):x.cells.take 13=x.cells:=by rw[← ko x,List.take_length]
theorem Jb(S:ah)(a b:Nat)(l:List bc)(x:bc)(ha:S[a]?=some (.box 41 [.sl 13 (l.map bc.cells)]))(hb:S[b]?=some (.box 65 x.cells))(k:Nat)(y:bc)(hk:l[k]?=some y):
  PC prog 109 [.i .i64 k,.ptr a 0,.ptr b 0] S (fun r σ'=>r=.b (decide (0≤eJ y x))∧σ'=S):=by
 refine PC.intro func109 XH fun aU da=>al ?_;have rG:k<l.length:=(ab.1 hk).1;have er:(l.map bc.cells).getD k []=y.cells:=by simp[List.getD_eq_getElem?_getD,hk]
 simp only[RF,SS,seval];simp only[ha,hb,er,ae,VV,seval];refine⟨⟨by omega,by omega⟩,by rw[ko];exact aw _,by rw[ko];exact aw _,?_⟩;refine an (sR y x _) (by simp only[mT,VV,seval]) ?_;simp only[VV,seval];exact aP (.inr rfl) rfl ⟨rfl,rfl⟩
theorem Ag(l:List bc)(x:bc)(m:Nat)(hl:l.length<2^39)(hm:m≤l.length)(h1:∀ (k:Nat) (y:bc),l[k]?=some y→(0≤eJ y x↔m≤k))(σ:ah):
  PC prog 80 [.sl 13 (l.map bc.cells),.agg x.cells] σ (fun r σ'=>r=.gZ [.i .i64 m,.b (match l[m]? with | some y=>eJ y x==0 | none=>false)]∧σ'=σ):=by
 refine PC.intro func80 c80 fun aU da=>al ?_;simp only[Yp,SS,seval];simp only[bc.cells,bY.cells,En.cells,ae,VV,seval];refine an (z6 109 [.ptr σ.length 0,.ptr (σ.length+1) 0] l.length m (by omega) hm (by kernel_rfl) (fun k hk=>?_)) rfl ?_
 ·obtain⟨y,hy⟩:∃ y,l[k]?=some y:=⟨_,ao hk⟩;refine(Jb _ σ.length (σ.length+1) l x (by simp only[bc.cells,bY.cells,En.cells,VV,seval]) (by simp only[bc.cells,bY.cells,En.cells,VV,seval]) k y hy).mono ?_;rintro r σ' ⟨rfl,rfl⟩;refine⟨?_,rfl⟩;simp only[decide_eq_decide.2 (h1 k y hy)]
 ·simp only[ae,VV,seval];have e1:((decide ((m:Int)<(l.length:Int))==true)=true)↔m<l.length:=by simp
  cases hy:l[m]? with
  | some y =>
   have H9:m<l.length:=(ab.1 hy).1;have er:(l.map bc.cells).getD m []=y.cells:=by simp[List.getD_eq_getElem?_getD,hy]
   have hd:decide ((m:Int)<(l.length:Int))=true:=by simp;omega
   rw[er,mT];refine⟨fun _=>⟨by omega,by omega⟩,.agg y.cells,fun _=>⟨rfl,by rw[ko];exact aw _⟩,?_⟩;refine br (c:=true) (by simp only[hd,VV,seval]<;>rfl) (fun _=>sR y x _) (by simp only[bc.cells,bY.cells,En.cells,VV,seval]) ?_;simp only[hd,VV,seval];exact aD aU (.inr rfl) (by simp only[RS,seval];rfl) (by simp only[LW]) ⟨rfl,rfl⟩
  | none =>
   have H9:¬ m<l.length:=by simpa using hy
   have hd:decide ((m:Int)<(l.length:Int))=false:=by simp;omega
   refine⟨fun h=>absurd (e1.1 h) H9,.u,fun h=>absurd (e1.1 h) H9,?_⟩;refine br (c:=false) (v:=.i .i64 0) (by simp only[hd,VV,seval]<;>rfl) (fun h=>by simp at h) rfl ?_;simp only[hd,VV,seval];exact aD aU (.inr rfl) (by simp only[RS,seval];rfl) (by simp only[LW]) ⟨rfl,rfl⟩
set_option maxHeartbeats 1000000 in
theorem LQ{σ:ah}{K:Exit→St→Prop}{bx:Ob}(l:List bc)(aU:bG (σ++[bx]))(hlen:l.length<2^39):∀ (rest pre:List bc) (ks:List (Int×Int)),l=pre++rest →
  (∀ j0 j1 j2 j4 j5 j6 j7 j8 j9 cC cH cG cF cB cE cD cI cQ db de dh dm dv du dt dN dR dU dX ej eD eL eQ eP fb fi fh fg fw fG fF fK fW gj gi gB gA gz gy gx gY gW gU,K (.exit 0) ⟨[j0,j1,j2,.mp (σ.length+1),j4,j5,j6,j7,j8,j9,cC,cH,cG,cF,cB,cE,cD,cI,cQ,db,de,dh,dm,dv,du,dt,dN,dR,dU,dX,ej,eD,eL,eQ,eP,fb,fi,fh,fg,fw,fG,fF,fK,fW,gj,gi,gB,gA,gz,gy,gx,gY,gW,gU],σ++[bx,.map 59 94 (lO (rest.foldl (fun ks o=>we ks (nu o)) ks))]⟩) →
  fp σ.length prog D1 K (rest.length+1) ⟨[.u,.u,.u,.mp (σ.length+1),.u,.u,.u,.u,.u,.u,.u,.u,.u,.u,.sl 13 (l.map bc.cells),.i .i64 l.length,.i .i64 pre.length,.u,.u,.u,.u,.u,.u,.u,.u,.u,.u,.u,.u,.u,.u,.u,.u,.u,.u,.u,.u,.u,.u,.u,.u,.u,.u,.u,.u,.u,.u,.u,.u,.u,.u,.u,.u,.u],σ++[bx,.map 59 94 (lO ks)]⟩:=by
 intro rest
 induction rest with
 | nil =>
  intro pre ks he h1;have he:l=pre:=by simpa using he
  subst he;refine ay fun R hR=>?_;simp only[D1,VV,seval];exact⟨fun h=>by simp at h,fun _=>h1 ..⟩
 | cons x rest ih =>
  intro pre ks he h1;subst he
  have hw:IntKind.i64.wrap ((pre.length:Int)+1)=(((pre++[x]).length:Nat):Int):=by
   rw[aX (by simp at hlen;omega)];simp
  have next:∀ {loc:ah} {R:St→Prop} {fr:List V},(∀ st',fp σ.length prog D1 K (rest.length+1) st'→R st') →
    nP fr [.u,.u,.u,.mp (σ.length+1),.u,.u,.u,.u,.u,.u,.u,.u,.u,.u,.sl 13 ((pre++x::rest).map bc.cells),.i .i64 (pre++x::rest).length,.i .i64 (pre++[x]).length,.u,.u,.u,.u,.u,.u,.u,.u,.u,.u,.u,.u,.u,.u,.u,.u,.u,.u,.u,.u,.u,.u,.u,.u,.u,.u,.u,.u,.u,.u,.u,.u,.u,.u,.u,.u,.u]→R ⟨fr,σ++(bx::.map 59 94 (lO (we ks (nu x)))::loc)⟩:=by
   intro loc R fr hR hc;refine hR _ (cy [_,_] loc ?_ hc ?_ (ih (pre++[x]) (we ks (nu x)) (by simp) h1))
   ·have:=b9 aU (l:=[.map 59 94 (lO (we ks (nu x)))]) (by simp);simpa using this
   ·simp only[LW,ag,ai,aI];omega
  refine ay fun R hR=>?_;simp only[D1,bc.cells,bY.cells,En.cells,hw,VV,seval];refine⟨fun _=>⟨by simp;omega,?_⟩,fun h=>by simp at h<;>omega⟩;have hpv:kz [] (.agg [])=.agg []:=rfl;rcases MZ ks (nu x)with⟨_,h2,h3⟩ | ⟨_,i,h2,h3⟩
  ·simp only[kV,nu]at h2 h3;simp only[h2,h3,hpv,V.vS,hw,VV,seval];refine next hR ?_
   repeat' constructor
  ·simp only[kV,nu]at h2 h3;simp only[h2,h3,hpv,V.vS,hw,VV,seval];refine next hR ?_
   repeat' constructor
def fo(vs:List Int):List V:=vs.map fun n=>.i .i64 n
theorem AO(m:Nat)(vs:List Int):gh m (fo vs):=eW.2 fun i x hx=>by
 simp only[fo,bg,ak]at hx;obtain⟨n,_,rfl⟩:=hx;exact .i _ _
set_option maxHeartbeats 1000000 in
theorem LP{σ:ah}{K:Exit→St→Prop}{bx:Ob}(aU:bG (σ++[bx]))(ks:List (Int×Int))(o:Nat)(ho:o<8)(c:Nat)(hc:c<2^40)(h1:∀ j:Nat,j<c→((o:Int),(j:Int)+1)∈ks)(h2:((o:Int),(c:Int)+1) ∉ ks):
  ∀ (N j:Nat) (vs:List Int),j+N=c→vs.length=8→vs[o]?=some (j:Int) →
  (∀ vs' loc,vs'.length=8→vs'[o]?=some (c:Int)→(∀ q,q≠o→vs'[q]?=vs[q]?)→(∀ j0 j1 j2 j4 j5 j7 j8 j9 cC cH cG cF cB cE cD cI cQ db de dh dm dv du dt dN dR dU dX eD eL eQ eP fb fi fh fg fw fG fF fK fW gj gi gB gA gz gy gx gY gW gU,K (.exit 4) ⟨[j0,j1,j2,.mp (σ.length+1),j4,j5,.ptr (σ.length+2) 0,j7,j8,j9,cC,cH,cG,cF,cB,cE,cD,cI,cQ,db,de,dh,dm,dv,du,dt,dN,dR,dU,dX,.i .i64 o,eD,eL,eQ,eP,fb,fi,fh,fg,fw,fG,fF,fK,fW,gj,gi,gB,gA,gz,gy,gx,gY,gW,gU],σ++(bx::.map 59 94 (lO ks)::.box 95 (fo vs')::loc)⟩)) →
  fp σ.length prog HC K (N+1) ⟨[.u,.u,.u,.mp (σ.length+1),.u,.u,.ptr (σ.length+2) 0,.i .i64 o,.u,.u,.u,.u,.u,.u,.u,.u,.u,.u,.u,.u,.u,.u,.u,.u,.u,.u,.u,.u,.u,.u,.i .i64 o,.u,.u,.u,.u,.u,.u,.u,.u,.u,.u,.u,.u,.u,.u,.u,.u,.u,.u,.u,.u,.u,.u,.u],σ++[bx,.map 59 94 (lO ks),.box 95 (fo vs)]⟩:=by
 intro N
 induction N with
 | zero =>
  intro j vs hj hv ha h3;obtain rfl:j=c:=by omega
  have er:(fo vs)[o]?=some (.i .i64 (j:Int)):=by simp[fo,ha]
  have hf:=yc (n:=0) h2;simp only[kV]at hf;have hw:IntKind.i64.wrap ((j:Int)+1)=(j:Int)+1:=IntWalk.i64_in _ (by omega);refine ay fun R hR=>?_;simp only[HC,hw,er,C4,fU,hf,VV,seval];exact⟨⟨by omega,by omega⟩,h3 vs [_] hv ha (fun _ _=>rfl) ..⟩
 | succ N ih =>
  intro j vs hj hv ha h3;have er:(fo vs)[o]?=some (.i .i64 (j:Int)):=by simp[fo,ha]
  obtain⟨i,hf,_⟩:=yb (n:=0) (h1 j (by omega));simp only[kV]at hf;have hw:IntKind.i64.wrap ((j:Int)+1)=(j:Int)+1:=IntWalk.i64_in _ (by omega);refine ay fun R hR=>?_;simp only[HC,hw,er,C4,fU,hf,VV,seval];refine⟨⟨by omega,by omega⟩,⟨by omega,by omega⟩,⟨by omega,by omega⟩,by simp[fo];omega,?_⟩
  have e0:List.take o (fo vs)++.i .i64 ((j:Int)+1)::List.drop (o+1) (fo vs)=fo (vs.set o ((j+1:Nat):Int)):=by
   have:fo (vs.set o ((j+1:Nat):Int))=(fo vs).set o (.i .i64 ((j:Int)+1)):=by simp[fo]
   rw[this,List.set_eq_take_append_cons_drop,if_pos (by simp[fo];omega)]
  rw[e0];refine hR _ (cy [_,_,_] [_] ?_ ?_ ?_ (ih (j+1) (vs.set o ((j+1:Nat):Int)) (by omega) (by simpa using hv) (by simp[hv,ho]) (fun vs' loc q1 q2 q3=>h3 vs' loc q1 q2 (fun q hq=>by rw[q3 q hq];simp[Kh hq]))))
  ·have:=b9 aU (l:=[.map 59 94 (lO ks),.box 95 (fo (vs.set o ((j+1:Nat):Int)))]) (by simp[AO]);simpa using this
  ·repeat' constructor
  ·simp only[LW,ag,ai,aI];omega
set_option maxHeartbeats 1000000 in
theorem LO{σ:ah}{K:Exit→St→Prop}{bx:Ob}(aU:bG (σ++[bx]))(ks:List (Int×Int))(c:Nat→Nat)(hc:∀ o:Nat,o<8→c o<2^40)(h1:∀ o:Nat,o<8→∀ j:Nat,j<c o→((o:Int),(j:Int)+1)∈ks)(h2:∀ o:Nat,o<8→((o:Int),(c o:Int)+1) ∉ ks):
  ∀ (N o:Nat) (vs:List Int),o+N=8→vs.length=8→(∀ q,q<o→vs[q]?=some (c q:Int))→(∀ q,o≤q→q<8→vs[q]?=some 0) →
  ((∀ j0 j1 j2 j3 j4 j5 j7 j8 j9 cC cH cG cF cB cE cD cI cQ db de dh dm dv du dt dN dR dU dX ej eD eL eQ eP fb fi fh fg fw fG fF fK fW gj gi gB gA gz gy gx gY gW gU,K (.exit 2) ⟨[j0,j1,j2,j3,j4,j5,.ptr (σ.length+2) 0,j7,j8,j9,cC,cH,cG,cF,cB,cE,cD,cI,cQ,db,de,dh,dm,dv,du,dt,dN,dR,dU,dX,ej,eD,eL,eQ,eP,fb,fi,fh,fg,fw,fG,fF,fK,fW,gj,gi,gB,gA,gz,gy,gx,gY,gW,gU],σ++[bx,.map 59 94 (lO ks),.box 95 (fo ((List.range 8).map fun q=>(c q:Int)))]⟩)) →
  fp σ.length prog HB K (N+1) ⟨[.u,.u,.u,.mp (σ.length+1),.u,.u,.ptr (σ.length+2) 0,.u,.u,.u,.u,.u,.u,.u,.u,.u,.u,.u,.u,.u,.u,.u,.u,.u,.u,.u,.u,.u,.u,.u,.i .i64 o,.u,.u,.u,.u,.u,.u,.u,.u,.u,.u,.u,.u,.u,.u,.u,.u,.u,.u,.u,.u,.u,.u,.u],σ++[bx,.map 59 94 (lO ks),.box 95 (fo vs)]⟩:=by
 intro N
 induction N with
 | zero =>
  intro o vs ho hv ha hz h3;obtain rfl:o=8:=by omega
  have e:vs=(List.range 8).map fun q=>(c q:Int):=by
   apply iw;intro q
   by_cases hq:q<8
   ·rw[ha q hq];simp[hq]
   ·rw[bo (by omega),bo (by simp;omega)]
  rw[e];refine ay fun R hR=>?_;simp only[HB,VV,seval];exact⟨fun h=>by simp at h,fun _=>h3 ..⟩
 | succ N ih =>
  intro o vs ho hv ha hz h3;have hd:decide ((o:Int)<8)=true:=by simp;omega
  have hw:IntKind.i64.wrap ((o:Int)+1)=((o+1:Nat):Int):=aX (by omega);refine ay fun R hR=>?_;simp only[HB,hd,hw,VV,seval];refine bX.wk (Wk.ic ?_) (bX.ml (c o+1) (LP aU ks o (by omega) (c o) (hc o (by omega)) (h1 o (by omega)) (h2 o (by omega)) (c o) 0 vs (by omega) hv (hz o (aw _) (by omega)) ?_))
  ·repeat' constructor
  intro vs' loc q1 q2 q3;intros;simp only[hw,VV,seval];refine hR _ (cy [_,_,_] loc ?_ ?_ ?_ (ih (o+1) vs' (by omega) q1 (fun q hq=>?_) (fun q hq hq8=>?_) h3))
  ·have:=b9 aU (l:=[.map 59 94 (lO ks),.box 95 (fo vs')]) (by simp[AO]);simpa using this
  ·repeat' constructor
  ·simp only[LW,ag,ai,aI];omega
  ·by_cases e:q=o
   ·subst e;exact q2
   ·rw[q3 q e];exact ha q (by omega)
  ·rw[q3 q (by omega)];exact hz q (by omega) hq8
structure uX (l:List bc) (c:Nat→Nat):Prop where
 lt:∀ o:Nat,o<8→c o<2^40
 has:∀ o:Nat,o<8→∀ j:Nat,j<c o→∃ x∈l,nu x=((o:Int),(j:Int)+1)
 no:∀ o:Nat,o<8→∀ x∈l,nu x≠((o:Int),(c o:Int)+1)
def kH(c:Nat→Nat):List Int:=(List.range 8).map fun q=>(c q:Int)
set_option maxHeartbeats 1000000 in
theorem Hf(o:cp)(ho:o.small)(hd:o.down=false)(c:Nat→Nat)(hc:uX o.ops c)(σ:ah):PC prog 26 [.agg o.cells] σ (fun r σ'=>r=.sl 1 ((ph (kH c) []).map bW)∧σ'=σ):=by
 refine PC.intro func26 c26 fun aU da=>?_;simp only[p26,SS,seval];refine bX.cutAt (.more (.more (.more (.more (.more (.one _ _)))))) fun R hR=>?_;simp only[cp.cells,hd,ae,VV,seval];have pA:bG (σ++[.box 44 [.i .i64 o.number,.i .i64 o.clock,.sl 13 (o.ops.map bc.cells),.sl 1 (aQ o.log),.i .i64 o.synced,.b false]]):=b9 aU (by simp only[ct,bK,false_imp_iff,implies_true,and_true,LW]);refine bX.wk (Wk.ic ?_) (bX.ml (o.ops.length+1) (LQ o.ops pA (by have:=ho.len;omega) o.ops [] [] rfl ?_))
 ·repeat' constructor
 intros;simp only[VV,seval];have hk:=fun q=>L5 o.ops [] q;generalize X4:o.ops.foldl (fun ks o=>we ks (nu o)) []=ks at hk ⊢;refine bX.wk (Wk.ic ?_) (bX.ml (8+1) (LO pA ks c hc.lt (fun q hq j hj=>?_) (fun q hq h=>?_) 8 0 [0,0,0,0,0,0,0,0] rfl rfl (fun q hq=>by omega) (fun q _ hq=>?_) ?_))
 ·repeat' constructor
 ·obtain⟨x,h1,h2⟩:=hc.has q hq j hj;exact(hk _).2 (.inr ⟨x,h1,h2⟩)
 ·rcases(hk _).1 h with h | ⟨x,h1,h2⟩
  ·simp at h
  ·exact hc.no q hq x h1 h2
 ·rcases q with _ | _ | _ | _ | _ | _ | _ | _ | q<;>first | rfl | omega
 intros;simp only[VV,seval];refine hR _ (bX.wk ((Wk.ic (ys:=[.u,.u,.u,.u,.u,.u,.ptr (σ.length+2) 0,.u,.u,.u,.u,.u,.u,.u,.u,.u,.u,.u,.u,.u,.u,.u,.u,.u,.u,.u,.u,.u,.u,.u,.u,.u,.u,.u,.u,.u,.u,.u,.u,.u,.u,.u,.u,.u,.u,.u,.u,.u,.u,.u,.u,.u,.u,.u]) (by repeat' constructor)).trans (Wk.XI (T:=95) (cs:=fo (kH c)) (ys:=[.u,.u,.u,.u,.u,.u,.ep 8 [fo (kH c)] 0 0,.u,.u,.u,.u,.u,.u,.u,.u,.u,.u,.u,.u,.u,.u,.u,.u,.u,.u,.u,.u,.u,.u,.u,.u,.u,.u,.u,.u,.u,.u,.u,.u,.u,.u,.u,.u,.u,.u,.u,.u,.u,.u,.u,.u,.u,.u,.u]) 2 (aw _) aU rfl ?_ ?_)) (al ?_))
 ·intro x hx;simp only[fo,dI]at hx;obtain⟨n,_,rfl⟩:=hx;rfl
 ·have e:(fo (kH c)).length=8:=by simp[fo,kH]
  have hb:=Bv.ptr (n:=σ.length) (k:=2) (cs:=fo (kH c)) 0;rw[e]at hb
  repeat first | exact .nil | refine .cons (.forget _) ?_ | refine .cons hb ?_
 clear hR R;have e8:(fo (kH c)).length=8:=by simp[fo,kH]
 have e9:(fo (kH c)).map (fun x=>[x])=(kH c).map bW:=by simp[fo,bW]
 simp only[e8,e9,VV,seval];refine an (Ds (kH c) _) rfl ?_;simp only[VV,seval];exact aP (.inr rfl) rfl ⟨rfl,rfl⟩
end Go.Proofs.Tryz
namespace Go.Proofs.Tryz
open Go Go.Pm Go.Bt
set_option maxRecDepth 20000 in
theorem vN(a b:En)(σ:ah):PC prog 44 [.agg a.cells,.agg b.cells] σ (fun r σ'=>r=.b (yg a b)∧σ'=σ):=by
 refine PC.intro func44 c44 fun aU da=>al ?_;simp only[p44,SS,seval];simp only[En.cells,VV,seval];refine an (qM a.source b.source _) rfl ?_;simp only[VV,seval];have e1:yg a b=(eM a.source b.source&&(eM a.target b.target&&(a.bN==b.bN&&(a.next==b.next&&(a.cw==b.cw&&(a.bV==b.bV&&(a.created==b.created&&a.origin==b.origin))))))):=rfl;rw[e1];refine br (by simp only[VV,seval]<;>rfl) (fun _=>qM a.target b.target _) rfl ?_;simp only[VV,seval];cases eM a.source b.source<;>simp only[VV,seval]
 ·exact aD aU (.inr rfl) (by simp only[RS,seval];rfl) (by simp only[LW]) ⟨rfl,rfl⟩
 cases eM a.target b.target<;>simp only[VV,seval]
 ·exact aD aU (.inr rfl) (by simp only[RS,seval];rfl) (by simp only[LW]) ⟨rfl,rfl⟩
 cases a.bN==b.bN<;>simp only[VV,seval]
 ·exact aD aU (.inr rfl) (by simp only[RS,seval];rfl) (by simp only[LW]) ⟨rfl,rfl⟩
 cases a.next==b.next<;>simp only[VV,seval]
 ·exact aD aU (.inr rfl) (by simp only[RS,seval];rfl) (by simp only[LW]) ⟨rfl,rfl⟩
 cases a.cw==b.cw<;>simp only[VV,seval]
 ·exact aD aU (.inr rfl) (by simp only[RS,seval];rfl) (by simp only[LW]) ⟨rfl,rfl⟩
 cases a.bV==b.bV<;>simp only[VV,seval]
 ·exact aD aU (.inr rfl) (by simp only[RS,seval];rfl) (by simp only[LW]) ⟨rfl,rfl⟩
 cases a.created==b.created<;>simp only[VV,seval]
 ·exact aD aU (.inr rfl) (by simp only[RS,seval];rfl) (by simp only[LW]) ⟨rfl,rfl⟩
 exact aD aU (.inr rfl) (by simp only[RS,seval];rfl) (by simp only[LW]) ⟨rfl,rfl⟩
theorem Sd{n:Nat}{σ:ah}{K:Exit→St→Prop}(a b:List En)(hlen:a.length<2^63)(rH:a.length=b.length):∀ (ra rb pa pb:List En),a=pa++ra→b=pb++rb→pa.length=pb.length →
  (gm ra rb=true→(∀ j0 j1 j2 j3 j4 j5 j6 j7 j8 j9 cC cH cG cF cB cE cD cI cQ db de dh dm dv du dt dN,K (.exit 0) ⟨[j0,j1,j2,j3,j4,j5,j6,j7,j8,j9,cC,cH,cG,cF,cB,cE,cD,cI,cQ,db,de,dh,dm,dv,du,dt,dN],σ⟩))→(gm ra rb=false→(∀ j0 j1 j2 j3 j5 j6 j7 j8 j9 cC cH cG cF cB cE cD cI cQ db de dh dm dv du dt dN,K .ret ⟨[j0,j1,j2,j3,.b false,j5,j6,j7,j8,j9,cC,cH,cG,cF,cB,cE,cD,cI,cQ,db,de,dh,dm,dv,du,dt,dN],σ⟩)) →
  fp n prog HE K (ra.length+1) ⟨[.sl 8 (a.map En.cells),.sl 8 (b.map En.cells),.u,.u,.u,.u,.u,.u,.u,.u,.u,.u,.i .i64 a.length,.i .i64 pa.length,.u,.u,.u,.u,.u,.u,.u,.u,.u,.u,.u,.u,.u],σ⟩:=by
 intro ra
 induction ra with
 | nil =>
  intro rb pa pb ha hb hp h1 h2
  have:rb=[]:=by
   subst ha;subst hb;simp at rH;exact bq (by omega)
  subst this;have ha:a=pa:=by simpa using ha
  subst ha;refine ay fun R hR=>?_;simp only[HE,VV,seval];exact⟨fun h=>by simp at h,fun _=>h1 rfl ..⟩
 | cons x ra ih =>
  intro rb pa pb ha hb hp h1 h2;cases rb with
  | nil=>subst ha;subst hb;simp at rH;omega
  | cons y rb =>
   subst ha;subst hb;have e2:(List.map En.cells (pb++y::rb)).getD pa.length []=y.cells:=by rw[hp];exact jj
   have hw:IntKind.i64.wrap ((pa.length:Int)+1)=(((pa++[x]).length:Nat):Int):=by
    rw[aX (by simp at hlen;omega)];simp
   refine ay fun R hR=>?_;simp only[HE,aH,e2,En.cells,VV,seval];have QW:(0:Int)≤pa.length∧(pa.length:Int)<(List.map En.cells (pa++x::ra)).length:=by simp;omega
   have SY:(0:Int)≤pa.length∧(pa.length:Int)<(List.map En.cells (pb++y::rb)).length:=by simp at rH ⊢;omega
   refine⟨fun _=>⟨QW,SY,?_⟩,fun h=>by simp at h<;>omega⟩;refine an (vN x y _) rfl ?_;simp only[VV,seval];refine⟨fun h=>?_,fun h=>?_⟩
   ·have h:yg x y=false:=by rw[bU]at h;exact h
    exact h2 (by simp[gm,h]) ..
   ·have h:yg x y=true:=by rw[cL]at h;exact h
    have e:gm (x::ra) (y::rb)=gm ra rb:=by simp[gm,h]
    rw[e]at h1 h2;refine hR _ (bb ?_ (ih rb (pa++[x]) (pb++[y]) (by simp) (by simp) (by simp[hp]) h1 h2));rw[hw];repeat' constructor
theorem sN(a b:List En)(σ:ah):PC prog 18 [.sl 8 (a.map En.cells),.sl 8 (b.map En.cells)] σ (fun r σ'=>r=.b (gm a b)∧σ'=σ):=by
 refine PC.intro func18 c18 fun aU da=>al ?_;have hlen:=kS (da 0 _ rfl).1;rw[ae]at hlen;simp only[p18,SS,seval];simp only[ae,VV,seval];refine⟨fun h=>?_,fun h=>?_⟩
 ·have h:a.length≠b.length:=by simp at h;omega
  have e:gm a b=false:=by
   cases he:gm a b with
   | false=>rfl
   | true=>exact absurd (AH he) h
  exact aP (.inr rfl) rfl ⟨by rw[e];rfl,rfl⟩
 ·have h:a.length=b.length:=by simp at h;omega
  refine bX.bb ?_ (a.length+1) (Sd a b hlen h a b [] [] rfl rfl rfl (fun ha=>?_) (fun ha=>?_))
  ·repeat' constructor
  ·intros;simp only[VV,seval];exact aP (.inr rfl) rfl ⟨by rw[ha];rfl,rfl⟩
  ·intros;exact aP (.inr rfl) rfl ⟨by rw[ha];rfl,rfl⟩
theorem Cv.ng{xs ys:List V}(h:nP xs ys):Cv (.agg xs) (.agg ys):=.agg _ _ h.at.1 (fun i x y hx hy=>h.at.2 i x y hx hy)
set_option maxHeartbeats 2000000 in
theorem oO(n:Net)(e:Ev)(hk:e.kind=1∨e.kind=3∨e.kind=6∨e.kind=7)(σ:ah):PC prog 9 [.agg n.cells,.agg e.cells] σ (fun r σ'=>r=.b (nC n e)∧σ'=σ):=by
 refine PC.intro func9 c9 fun aU da=>al ?_;obtain⟨kind,a,b,m,en⟩:=e;simp only at hk;simp only[p9,SS,seval];rcases(show(kind=1)∨(kind=3∨kind=7)∨(kind=6)by omega)with h | h | h
 ·subst h
  all_goals
   simp only[Net.cells,Ev.cells,En.cells,ae,VV,seval];refine an (mo a n.aV.length _) rfl ?_;simp only[VV,seval];exact aD aU (.inr rfl) rfl (by simp only[LW]) ⟨by simp[Pm.one,nC],rfl⟩
 ·rcases h with rfl | rfl
  all_goals
   simp only[Net.cells,Ev.cells,En.cells,ae,VV,seval];refine an (mo a n.aV.length _) rfl ?_;cases hA:H4 a n.aV.length
   ·simp only[ae,VV,seval];refine br (c:=false) (v:=.u) (by simp only[VV,seval]<;>rfl) (fun h=>by cases h) rfl ?_;simp only[VV,seval];exact aD aU (.inr rfl) rfl (by simp only[LW]) ⟨by simp[Pm.one,nC,hA],rfl⟩
   ·simp only[ae,VV,seval];refine br (c:=true) (by simp only[VV,seval]<;>rfl) (fun _=>mo b n.aV.length _) rfl ?_;simp only[VV,seval];exact aD aU (.inr rfl) rfl (by simp only[LW]) ⟨by simp[Pm.one,nC,hA],rfl⟩
 ·subst h
  all_goals
   simp only[Net.cells,Ev.cells,En.cells,ae,VV,seval];refine an (mo a n.aV.length _) rfl ?_;simp only[ae,VV,seval];refine an (mo m n.bw.length _) rfl ?_;simp only[VV,seval];exact aD aU (.inr rfl) rfl (by simp only[LW]) ⟨by simp[Pm.one,nC],rfl⟩
end Go.Proofs.Tryz
namespace Go.Proofs.Tryz
open Go Go.Pm Go.Bt Go.RowKit
end Go.Proofs.Tryz
namespace Go.Proofs.Tryz
open Go Go.Pm Go.Bt
theorem Nn(p:Int×Int)(f c g:Nat)(σ:ah)(hq:σ[c]?=some (dW g [])):PC prog 28 [.own c g,.agg (dZ p),.fn f []] σ (fun r σ'=>r=.gZ [.i .i64 0,.b false]∧σ'=σ):=by
 refine PC.intro func28 c28 fun aU da=>al ?_;have hq':∀ loc:ah,(σ++loc)[c]?=some (.row 59 2 16 g false []):=fun loc=>by rw[az (ab.1 hq).1];exact hq
 simp only[p28,SS,seval];simp only[dZ,hq',ai,VV,seval];refine bX.ml 1 (ay fun R hR=>?_);have k4:(false==true)=false:=rfl;simp only[QJ,hq',decide_false,k4,VV,seval];refine⟨.u,AQ (c:=false) (v:=.i .i64 0) (by simp only[k4,VV,seval]<;>rfl) (fun h=>by cases h) ?_⟩;simp only[k4,VV,seval];exact aD aU (.inr rfl) rfl (by simp only[LW]) ⟨rfl,rfl⟩
theorem JG(l:List (Int×Int))(p:Int×Int)(c g:Nat)(hl:l.length<2^30)(σ:ah)(hq:σ[c]?=some (dW g l)):PC prog 33 [.own c g,.i .i64 l.length,.lit 2 [dZ p]] σ (fun r σ'=>r=.own c (g+1)∧σ'=σ.set c (dW (g+1) (l++[p]))):=by
 refine PC.intro func33 c33 fun aU da=>al ?_;have Kp:σ[c]?=some (.row 59 2 16 g false (l.map dZ)):=hq;have h0:(0:Int)≤(l.length:Int):=by omega
 simp only[p33,SS,seval];simp only[dZ,Kp,h0,ae,beq_self_eq_true,tH,VV,seval];refine⟨⟨by omega,by simp only[maxLen];omega⟩,ei (.inr rfl) rfl (Wk.refl _ _) rfl ⟨rfl,?_⟩⟩;simp only[dW,dZ,yK,aW,aZ]
set_option maxHeartbeats 1000000 in
theorem Cb{σ:ah}{k a b c ga gb gc:Nat}(h:sb σ k a b c)(A B:Ob)(hA:kx σ.length A)(hB:kx σ.length B)(e:Ev)(hk:e.kind=7)(rH:e.a≠e.b):
  PC prog 12 [.ptr k 0,.agg e.cells] (gP σ k a b c (dB (.own a ga) (.own b gb) (.own c gc)) A B (dW gc [])) (fun r σ'=>r=.i .i64 0∧σ'=gP σ k a b c (dB (.own a ga) (.own b gb) (.own c (gc+1))) A B (dW (gc+1) [pU e.a e.b])):=by
 obtain⟨kind,ea,eb,em,en⟩:=e;simp only at hk rH;subst hk;refine PC.intro func12 c12 fun uK da=>al ?_;have js:(ea==eb)=false:=by simpa using rH
 simp only[p12,SS,seval];simp only[Ev.cells,En.cells,dB,dW,h.all,VV,seval];refine an (Hh ea eb _) rfl ?_;simp only[dZ,h.all,VV,seval];refine an (Nn (pU ea eb) 29 c gc _ (by simp only[h.all,dW,aZ])) (by simp only[dZ,VV,seval]) ?_;simp only[h.all,js,VV,seval];refine an (JG [] (pU ea eb) c gc (by simp) _ (by simp only[h.all,dW,aZ])) (by simp only[dZ,ai,VV,seval]) ?_;simp only[h.all,dW,dZ,aG,aW,aZ,VV,seval];exact qL uK (sW h.la h.lb h.lc) hA hB trivial (.inr rfl) rfl (by simp only[LW]) ⟨rfl,rfl⟩
end Go.Proofs.Tryz

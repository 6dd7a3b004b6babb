/- A part of the proof of the statement of the last text of this claim; its conditions stand there. -/
import Derived.Test.YtkkjfegefckehaaGreatDoorB35
import Derived.Test.YtkkjfegefckehaaGreatDoorB36
set_option linter.all false

namespace Go.Proofs.Tryz
open Go Go.Pm Go.Bt
open Go.Pm.V(u)
def Se(o:aJ):V:=.agg o.cells
def nN(l:List (List UInt8×aJ)):List (V×V):=emap XV Se l
theorem Bf(l:List (List UInt8×aJ))(a:List UInt8):
  (gz a l=none∧gH 1 (.s a) (nN l) 0=some none∧∀ b:aJ,nN l++[(V.s a,Se b)]=nN (ln l a b)) ∨
  (∃ i b0,gz a l=some b0∧gH 1 (.s a) (nN l) 0=some (some (i,Se b0))∧∀ b:aJ,(nN l).set i (V.s a,Se b)=nN (ln l a b)):=xR Zz l a
theorem KN{α β:Type}[DecidableEq α]{a:α}{b:β}:∀ {l:List (α×β)},gz a l=some b→(a,b)∈l:=by
 intro l
 induction l with
 | nil=>intro h;simp[nw]at h
 | cons p l ih =>
  intro h;rw[mQ]at h;split at h
  ·rename_i e;simp only[aa]at h;subst e;subst h;exact lh ..
  ·exact cY _ (ih h)
theorem Jb{α β:Type}[DecidableEq α]{a:α}{b:β}{p:α×β}:∀ {l:List (α×β)},p∈ln l a b→p=(a,b)∨p∈l:=by
 intro l
 induction l with
 | nil=>intro h;simp[ln]at h;exact .inl h
 | cons q l ih =>
  intro h;simp only[ln]at h;split at h
  ·rcases aU.1 h with h | h
   ·exact .inl h
   ·exact .inr (cY _ h)
  ·rcases aU.1 h with h | h
   ·exact .inr (h▸lh ..)
   ·rcases ih h with h | h
    ·exact .inl h
    ·exact .inr (cY _ h)
theorem I0{m:List (List UInt8×aJ)}{o:aJ}{p:List UInt8×aJ}(h:p∈gu m o):p=(bE o,o)∨p∈m:=by
 simp only[gu]at h;split at h
 ·exact .inr h
 ·split at h
  ·exact Jb h
  ·split at h
   ·exact Jb h
   ·exact .inr h
theorem VJ{σ:ag}{K:Exit→St→Prop}(l:List aJ)(aQ:bP σ)(hlen:l.length<2^63)(rA:∀ o∈l,o.small):∀ (rest pre:List aJ) (m:List (List UInt8×aJ)),l=pre++rest→(∀ p∈m,p.2.small) →
  (∀ j0 j1 j2 j4 j5 j6 j7 j8 j9 cT cS cX cR cN cM cL cW df dn dx dy dD dI dH dG dX ez eA eH eW fg fi ft fw fG fM fL fK fX gi gF,K (.exit 0) ⟨[j0,j1,j2,.mp σ.length,j4,j5,j6,j7,j8,j9,cT,cS,cX,cR,cN,cM,cL,cW,df,dn,dx,dy,dD,dI,dH,dG,dX,ez,eA,eH,eW,fg,fi,ft,fw,fG,fM,fL,fK,fX,gi,gF],σ++[.map 9 29 (nN (rest.foldl gu m))]⟩) →
  fO σ.length prog CY K (rest.length+1) ⟨[u,u,u,.mp σ.length,u,u,u,u,u,u,u,u,u,u,.sl 13 (l.map aJ.cells),.i .i64 l.length,.i .i64 pre.length,u,u,u,u,u,u,u,u,u,u,u,u,u,u,u,u,u,u,u,u,u,u,u,u,u],σ++[.map 9 29 (nN m)]⟩:=by
 intro rest
 induction rest with
 | nil =>
  intro pre m he hm h1;have he:l=pre:=by simpa using he
  subst he;refine ax fun R hR=>?_;simp only[CY,VV,seval];exact⟨fun h=>by simp at h,fun _=>h1 ..⟩
 | cons x rest ih =>
  intro pre m he hm h1;subst he;have hx:=rA x (by simp)
  have next:∀ (m':List (List UInt8×aJ)) {loc:ag},gu m x=m'→∀ {R:St→Prop} {fr:List V},(∀ st',fO σ.length prog CY K (rest.length+1) st'→R st') →
    pH fr [u,u,u,.mp σ.length,u,u,u,u,u,u,u,u,u,u,.sl 13 ((pre++x::rest).map aJ.cells),.i .i64 (pre++x::rest).length,.i .i64 (IntKind.i64.wrap ((pre.length:Int)+1)),u,u,u,u,u,u,u,u,u,u,u,u,u,u,u,u,u,u,u,u,u,u,u,u,u]→R ⟨fr,σ++(.map 9 29 (nN m')::loc)⟩:=by
   intro m' loc hw R fr hR hc
   have e1:IntKind.i64.wrap ((pre.length:Int)+1)=(((pre++[x]).length:Nat):Int):=by
    rw[aV (by simp at hlen;omega)];simp
   rw[e1]at hc;refine hR _ (cH [_] loc (bU aQ (by simp)) hc ?_ (ih (pre++[x]) m' (by simp) ?_ ?_))
   ·simp only[LW,ab,ah,aK];omega
   ·intro p hp;rw[← hw]at hp;rcases I0 hp with rfl | hp
    ·exact hx
    ·exact hm p hp
   ·rw[← hw];exact h1
  refine ax fun R hR=>?_;simp only[CY,aJ.cells,bc.cells,En.cells,VV,seval];refine⟨fun _=>⟨by simp;omega,?_⟩,fun h=>by simp at h<;>omega⟩;refine ai (Sh x hx _) rfl ?_;simp only[VV,seval];refine⟨fun h=>?_,fun h=>?_⟩
  ·have h:bE x=[]:=by simpa using h
   refine next m (by simp only[gu,h,if_true]) hR ?_
   simp only
   repeat' constructor
  have h:¬ bE x=[]:=by simpa using h
  have hf:∀ t,iD (σ++(.map 9 29 (nN m))::t) 1 (.mp σ.length) (.s (bE x))=gH 1 (.s (bE x)) (nN m) 0:=fun t=>by simp only[iD,gr,ao]
  rcases Bf m (bE x)with⟨h2,h3,h4⟩ | ⟨k,was,h2,h3,h4⟩
  ·simp only[hf,h3,V.qi,VV,seval];refine bg (c:=false) (v:=.b false) (by simp only[VV,seval]<;>rfl) (fun h=>by simp at h) rfl ?_;have h4':=h4 x;simp only[Se,aJ.cells,bc.cells,En.cells,aq,ak]at h4';simp only[h3,h4',nk,V.qi,V.BQ,VV,seval];refine next (ln m (bE x) x) (by simp only[gu,if_neg h,h2]) hR ?_
   simp only
   repeat' constructor
  ·simp only[hf,h3,V.qi,Se,aJ.cells,bc.cells,En.cells,VV,seval];refine bg (by simp only[VV,seval]<;>rfl) (fun _=>PJ x was hx (hm _ (KN h2)) _) rfl ?_;simp only[VV,seval];refine⟨fun hw=>?_,fun hw=>?_⟩
   ·have h4':=h4 x;simp only[Se,aJ.cells,bc.cells,En.cells,aq,ak]at h3 h4';simp only[h3,h4',nk,V.qi,V.BQ,VV,seval];refine next (ln m (bE x) x) (by simp only[gu,if_neg h,h2,if_pos hw]) hR ?_
    simp only
    repeat' constructor
   ·refine next m (by simp only[gu,if_neg h,h2,hw];rfl) hR ?_
    simp only
    repeat' constructor
theorem BM(l:List aJ)(rA:∀ o∈l,o.small)(σ:ag):PC prog 184 [.sl 13 (l.map aJ.cells)] σ (fun r σ'=>r=.mp σ.length∧σ'=σ++[.map 9 29 (nN (fA l))]):=by
 refine PC.intro func184 ajS fun aQ cz=>aj ?_;have hlen:=lD (cz 0 _ rfl).1;rw[List.length_map]at hlen;simp only[ac3,SS,seval];simp only[List.length_map,VV,seval];refine⟨fun h=>?_,fun h=>?_⟩
 ·have h:1024<l.length:=by simp at h;omega
  refine ed (.inr rfl) rfl (Wk.refl _ _) rfl ⟨rfl,?_⟩;simp only[fA,if_pos h];rfl
 ·have h:¬ 1024<l.length:=by simp at h;omega
  refine bA.aW ?_ (l.length+1) (VJ l aQ hlen rA l [] [] rfl (by simp) ?_)
  ·repeat' constructor
  ·intros;simp only[VV,seval];refine ed (.inr rfl) rfl (Wk.refl _ _) rfl ⟨rfl,?_⟩;simp only[fA,if_neg h]
theorem Rv:Ti prog 29 13 184:=nR (by kernel_rfl)
theorem Rw:Ti prog 27 8 128:=nR (by kernel_rfl)
theorem Ms{m:List (List UInt8×aJ)}{k:List UInt8}{o:aJ}(h:gz k m=some o):∃ i,gH 1 (.s k) (nN m) 0=some (some (i,Se o)):=by
 rcases Bf m k with⟨h2,_,_⟩ | ⟨i,b,h2,h3,_⟩
 ·rw[h]at h2;simp at h2
 ·rw[h]at h2;simp only[aa]at h2;subst h2;exact⟨i,h3⟩
theorem V4{n:Nat}{σ:ag}{o2:Ob}{K:Exit→St→Prop}(ks:List (List UInt8))(m:List (List UInt8×aJ))(hlen:ks.length<2^39)(hm:∀ p∈m,p.2.small)(Tl:∀ k∈ks,∃ o,gz k m=some o):
  ∀ (rest pre:List (List UInt8)) (out:List aJ) (g:Nat),ks=pre++rest→out.length+rest.length≤ks.length →
  (∀ g,(∀ j0 j1 j2 j5 j6 j7 j8 j9 cT cX cR cN cM cL cW df dn dx dy dD dI dH dG,K (.exit 0) ⟨[j0,j1,j2,.mp σ.length,.own (σ.length+3) g,j5,j6,j7,j8,j9,cT,.own (σ.length+2) 0,cX,cR,cN,cM,cL,cW,df,dn,dx,dy,dD,dI,dH,dG],σ++[.map 9 29 (nN m),o2,.row 9 1 16 0 false (ks.map nD),.row 29 13 184 g false ((out++rest.filterMap fun k=>gz k m).map aJ.cells)]⟩)) →
  fO n prog HE K (rest.length+1) ⟨[u,u,u,.mp σ.length,.own (σ.length+3) g,u,u,u,u,u,u,.own (σ.length+2) 0,.i .i64 ks.length,.i .i64 pre.length,u,u,u,u,u,u,u,u,u,u,u,u],
   σ++[.map 9 29 (nN m),o2,.row 9 1 16 0 false (ks.map nD),.row 29 13 184 g false (out.map aJ.cells)]⟩:=by
 intro rest
 induction rest with
 | nil =>
  intro pre out g he ho h1;have he:ks=pre:=by simpa using he
  subst he;refine ax fun R hR=>?_;simp only[HE,VV,seval];simp only[List.filterMap_nil,bf]at h1;exact⟨fun h=>by simp at h,fun _=>h1 g ..⟩
 | cons x rest ih =>
  intro pre out g he ho h1;subst he;obtain⟨o,hx⟩:=Tl x (by simp);have zO:=hm _ (KN hx);obtain⟨i,hf0⟩:=Ms hx;have hf:∀ t,iD (σ++(.map 9 29 (nN m))::t) 1 (.mp σ.length) (.s x)=some (some (i,Se o)):=fun t=>by simp only[iD,gr,ao,hf0]
  refine ax fun R hR=>?_;simp only[HE,nD,hf,Se,V.qi,List.length_map,VV,seval];refine⟨fun _=>⟨by simp;omega,?_⟩,fun h=>by simp at h<;>omega⟩;refine ai (nQ o zO _) rfl ?_;simp only[ab]at ho;simp only[List.length_map,aJ.cells,bc.cells,En.cells,maxLen,V.pure,VV,seval];refine⟨by simp at ho hlen;omega,?_⟩
  have e0:(out.map aJ.cells++[[.i .i64 o.aA.time,.i .i64 o.aA.aS,.i .i64 o.aA.number,.i .i64 o.kind,.sl 3 (o.entry.source.map It.cells),.sl 3 (o.entry.target.map It.cells),.s o.entry.bS,.s o.entry.next,.s o.entry.cQ,.s o.entry.cn,.i .i64 o.entry.created,.i .i64 o.entry.origin,.sl 1 (o.seen.map bj)]])=(out++[o]).map aJ.cells:=by
   simp[aJ.cells,bc.cells,En.cells]
  rw[e0];refine hR _ (aW ?_ (ih (pre++[x]) (out++[o]) (g+1) (by simp) (by simp at ho ⊢;omega) ?_))
  ·rw[aV (by simp at hlen;omega)];simp only[List.length_append,ab,ah]
   repeat' constructor
  ·simp only[kz,hx]at h1;simpa using h1
theorem HQ(l:List aJ)(rA:∀ o∈l,o.small)(σ:ag):PC prog 122 [.sl 13 (l.map aJ.cells)] σ (fun r σ'=>r=.sl 13 ((current l).map aJ.cells)∧σ'=σ):=by
 refine PC.intro func122 akB fun aQ cz=>aj ?_;simp only[adN,SS,seval];simp only[VV,seval];refine ai (BM l rA _) rfl ?_;simp only[VV,seval];have hk:=Kk σ.length (σ++[.map 9 29 (nN (fA l))]);simp only[List.length_append,ab,ah,aK,List.append_assoc,aq,ak]at hk;refine ai hk rfl ?_;simp only[VV,seval];have hlen:=tZ l;have hwl:=AT l
 have hs:=Cu (β:=aJ) (ve:=Se) (id:=σ.length) (k:=σ.length+1) (E:=29) (l:=fA l) (σ:=σ++[.map 9 29 (nN (fA l)),.box 190 [.mp σ.length]])
  (by simp only[nC,bQ,ao]) (by simp only[gr,ao];rfl) (wq l) (by omega)
 simp only[List.length_append,ab,ah,aK,Nat.reduceAdd,List.append_assoc,aq,ak]at hs;refine ai hs rfl ?_;simp only[List.length_map,VV,seval]
 refine bA.wk ((Wk.nV (σ:=σ) [_,_,_] (k:=4) Rv rfl).trans (Wk.ej ?_)) (bA.pd ((iZ l).length+1) (V4 (iZ l) (fA l) (by omega)
  (fun p hp=>rA _ (tP hp).2) (fun k hk=>tq hk) (iZ l) [] [] 0 rfl (by simp) ?_))
 ·simp only[W,seval]
  repeat' constructor
 ·intro g;intros;simp only[VV,seval];refine gg 3 aQ (.inr rfl) rfl rfl ?_ ?_
  ·simp only[aE,aT,ay,az,fz,kc,and_self,if_true,LW]
  ·simp only[aE,aT,ay,az,fz,kc,and_self,if_true];exact⟨rfl,trivial⟩
theorem Zi{σ:ag}{K:Exit→St→Prop}(l:List aJ)(aQ:bP σ)(hlen:l.length<2^39):∀ (rest pre:List aJ) (out:List En) (g:Nat),l=pre++rest→out.length+rest.length≤l.length →
  (∀ g,(∀ j0 j1 j2 j4 j5 j6 j7 j8 j9 cT cS cX cR cN cM cL cW df dn dx dy dD,K (.exit 0) ⟨[j0,j1,j2,.own σ.length g,j4,j5,j6,j7,j8,j9,cT,cS,cX,cR,cN,cM,cL,cW,df,dn,dx,dy,dD],σ++[.row 27 8 128 g false ((out++(rest.filter fun o=>o.kind==1).map (·.entry)).map En.cells)]⟩)) →
  fO σ.length prog JW K (rest.length+1) ⟨[u,u,u,.own σ.length g,u,u,u,.sl 13 (l.map aJ.cells),.i .i64 l.length,.i .i64 pre.length,u,u,u,u,u,u,u,u,u,u,u,u,u],σ++[.row 27 8 128 g false (out.map En.cells)]⟩:=by
 intro rest
 induction rest with
 | nil =>
  intro pre out g he ho h1;have he:l=pre:=by simpa using he
  subst he;refine ax fun R hR=>?_;simp only[JW,VV,seval];simp only[mZ,az,bf]at h1;exact⟨fun h=>by simp at h,fun _=>h1 g ..⟩
 | cons x rest ih =>
  intro pre out g he ho h1;subst he;simp only[ab]at ho
  have next:∀ (out':List En) (g':Nat) {loc:ag},out'.length≤out.length+1→out++((x::rest).filter fun o=>o.kind==1).map (·.entry)=out'++(rest.filter fun o=>o.kind==1).map (·.entry)→∀ {R:St→Prop} {fr:List V},(∀ st',fO σ.length prog JW K (rest.length+1) st'→R st') →
    pH fr [u,u,u,.own σ.length g',u,u,u,.sl 13 ((pre++x::rest).map aJ.cells),.i .i64 (pre++x::rest).length,.i .i64 (IntKind.i64.wrap ((pre.length:Int)+1)),u,u,u,u,u,u,u,u,u,u,u,u,u]→R ⟨fr,σ++(.row 27 8 128 g' false (out'.map En.cells)::loc)⟩:=by
   intro out' g' loc hl hw R fr hR hc
   have e1:IntKind.i64.wrap ((pre.length:Int)+1)=(((pre++[x]).length:Nat):Int):=by
    rw[aV (by simp at hlen;omega)];simp
   rw[e1]at hc;rw[hw]at h1;refine hR _ (cH [_] loc (bU aQ (by simp)) hc ?_ (ih (pre++[x]) out' g' (by simp) (by omega) h1));simp only[LW,ab,ah,aK];omega
  refine ax fun R hR=>?_;simp only[JW,aJ.cells,bc.cells,En.cells,VV,seval];refine⟨fun _=>⟨by simp;omega,?_⟩,fun h=>by simp at h<;>omega⟩;refine⟨fun h=>?_,fun h=>?_⟩
  ·simp only[List.length_map,maxLen,seval];refine⟨by simp at ho hlen;omega,?_⟩
   have e0:(out.map En.cells++[[.sl 3 (x.entry.source.map It.cells),.sl 3 (x.entry.target.map It.cells),.s x.entry.bS,.s x.entry.next,.s x.entry.cQ,.s x.entry.cn,.i .i64 x.entry.created,.i .i64 x.entry.origin]])=(out++[x.entry]).map En.cells:=by
    simp[En.cells]
   rw[e0];refine next (out++[x.entry]) (g+1) (by simp) (by simp[h]) hR ?_
   repeat' constructor
  ·refine next out g (by omega) (by simp[h]) hR ?_
   repeat' constructor
theorem J6(l:List aJ)(rA:∀ o∈l,o.small)(σ:ag):PC prog 67 [.sl 13 (l.map aJ.cells)] σ (fun r σ'=>r=.sl 8 ((cq l).map En.cells)∧σ'=σ):=by
 refine PC.intro func67 c67 fun aQ cz=>aj ?_;simp only[p67,SS,seval];simp only[VV,seval];refine ai (HQ l rA _) rfl ?_;simp only[List.length_map,VV,seval];have hlen:=vh l;refine bA.wk ((Wk.gZ (σ:=σ) (k:=3) Rw rfl).trans (Wk.ej ?_)) (bA.pd ((current l).length+1) (Zi (current l) aQ (by omega) (current l) [] [] 0 rfl (by simp) ?_))
 ·simp only[W,seval]
  repeat' constructor
 ·intro g;intros;simp only[VV,seval];refine gg 0 aQ (.inr rfl) rfl rfl ?_ ?_
  ·simp only[aE,aT,ay,az,bC,fz,kc,and_self,if_true,LW]
  ·simp only[aE,aT,ay,az,bC,fz,kc,and_self,if_true];exact⟨rfl,trivial⟩
theorem pg(n:Int):pH [.i .i64 n,.i .i64 0,.nil,.nil,.i .i64 0,.b false] (cc.cells ⟨n,0,[],[],0,false⟩):=by
 simp only[cc.cells,al,az]
 repeat first | exact .nil | refine .cons (.refl _) ?_ | refine .cons (.nil _) ?_
theorem Sm(n:Int)(σ:ag):PC prog 13 [.i .i64 n] σ (fun r σ'=>r=.iK [.agg (kE n).1.cells,.i .i64 (kE n).2]∧σ'=σ):=by
 refine PC.intro func13 c13 fun aQ cz=>aj ?_;simp only[p13,SS,seval];simp only[VV,seval];refine⟨fun h=>?_,fun h=>?_⟩
 ·have h:n<0∨8≤n:=by simpa using h
  refine dv (ys:=[.agg (cc.cells ⟨0,0,[],[],0,false⟩),.i .i64 1]) aQ (.inr rfl) (by simp only[kO,sj,VV,seval]) (.cons (Cv.ir (pg 0)) (.cons (.refl _) .nil)) (by simp only[cc.cells,al,az,LW]) ⟨by simp only[kE,if_pos h,cc.zero];rfl,rfl⟩
 ·have h:¬ (n<0∨8≤n):=by simpa using h
  refine dv (ys:=[.agg (cc.cells ⟨n,0,[],[],0,false⟩),.i .i64 0]) aQ (.inr rfl) (by simp only[kO,sj,VV,seval]) (.cons (Cv.ir (pg n)) (.cons (.refl _) .nil)) (by simp only[cc.cells,al,az,LW]) ⟨by simp only[kE,if_neg h];rfl,rfl⟩
theorem yR(a b:aJ)(σ:ag):PC prog 57 [.agg a.cells,.agg b.cells] σ (fun r σ'=>r=.i .i64 (da a b)∧σ'=σ):=by
 refine PC.intro func57 c57 fun aQ cz=>aj ?_;simp only[p57,SS,seval];simp only[aJ.cells,bc.cells,En.cells,VV,seval];refine ai (pD _ _ _) rfl ?_;simp only[VV,seval];refine ai (pD _ _ _) rfl ?_;simp only[VV,seval];refine ic (zs:=[.sl 1 ([eV a.aA.aS b.aA.aS,eV a.aA.number b.aA.number].map bj)]) (.cons (.lit _ _) .nil) (Mi _ _) ?_;simp only[VV,seval];exact aG aQ (.inr rfl) (by simp only[RS,seval];rfl) (by simp only[LW]) ⟨rfl,rfl⟩
theorem MF:(prog.info? 5).map (fun i=>(i.zero.map (fun z=>z.cells.size),i.size,i.bytes))=some (some 1,1,1):=by kernel_rfl
theorem oC(xs:List UInt8)(hlen:xs.length<2^40)(σ:ag):PC prog 92 [.sl 1 (al xs)] σ (fun r σ'=>r=.sl 1 (al xs)∧σ'=σ) :=
 D4 (by decide) MF (by rw[aL];omega) (fun w=>AnyE.slices_Clone_nil Tryz.M8 0 0 w)
  (fun a w=>by
   obtain⟨i,z,hi,hz,h1,h2,h3⟩:=sO MF;exact vi Tryz.M8 i z 1 1 hi hz h1 h2 h3 (by decide) (show ∀ w,(Go.sizeOf 5).run prog w=.ok 1 w from fun w=>by simp[sizeOf,run_typeInfo w hi,h1]) a w)
  (fun i z hi hz h1 h2 h3 hs b o n c news w hl hn hb hc h=>AnyE.slices_Clone Tryz.M8 i z 1 1 hi hz h1 h2 h3 (by decide) hs b o n c news w hl hn hb hc h) σ
def xc(g:Nat)(l:List aJ):Ob:=.row 29 13 184 g false (l.map aJ.cells)
theorem Y6{σ:ag}{K:Exit→St→Prop}(l:List aJ)(aQ:bP σ)(hlen:l.length<2^39)(rA:∀ o∈l,o.small):∀ (rest pre:List aJ) (g:Nat),l=pre++rest →
  (∀ g,(∀ j0 j1 j2 j4 j5 j6 j7 j8 j9 cT cS cX cR cN cM cL cW df,K (.exit 0) ⟨[j0,j1,j2,.own σ.length g,j4,j5,j6,j7,j8,j9,cT,cS,cX,cR,cN,cM,cL,cW,df],σ++[.row 29 13 184 g false (l.map aJ.cells)]⟩)) →
  fO σ.length prog NJ K (rest.length+1) ⟨[u,u,u,.own σ.length g,u,u,.sl 13 (l.map aJ.cells),.i .i64 l.length,.i .i64 pre.length,u,u,u,u,u,u,u,u,u,u],σ++[.row 29 13 184 g false (pre.map aJ.cells)]⟩:=by
 intro rest
 induction rest with
 | nil =>
  intro pre g he h1;have he:l=pre:=by simpa using he
  subst he;refine ax fun R hR=>?_;simp only[NJ,VV,seval];exact⟨fun h=>by simp at h,fun _=>h1 g ..⟩
 | cons x rest ih =>
  intro pre g he h1;subst he;have hx:=rA x (by simp);refine ax fun R hR=>?_;simp only[NJ,aJ.cells,bc.cells,En.cells,VV,seval];refine⟨fun _=>⟨by simp;omega,?_⟩,fun h=>by simp at h<;>omega⟩;refine ai (nQ x hx _) rfl ?_;simp only[List.length_map,aJ.cells,bc.cells,En.cells,maxLen,V.pure,VV,seval];refine⟨by simp at hlen;omega,?_⟩
  have e0:(pre.map aJ.cells++[[.i .i64 x.aA.time,.i .i64 x.aA.aS,.i .i64 x.aA.number,.i .i64 x.kind,.sl 3 (x.entry.source.map It.cells),.sl 3 (x.entry.target.map It.cells),.s x.entry.bS,.s x.entry.next,.s x.entry.cQ,.s x.entry.cn,.i .i64 x.entry.created,.i .i64 x.entry.origin,.sl 1 (x.seen.map bj)]])=(pre++[x]).map aJ.cells:=by
   simp[aJ.cells,bc.cells,En.cells]
  rw[e0];refine hR _ (cH [_] _ (bU aQ (by simp)) ?_ ?_ (ih (pre++[x]) (g+1) (by simp) h1))
  ·rw[aV (by simp at hlen;omega)];simp only[List.length_append,ab,ah]
   repeat' constructor
  ·simp only[LW,ab,ah,aK];omega
theorem I3(l:List aJ)(hlen:l.length<2^39)(rA:∀ o∈l,o.small)(σ:ag):PC prog 91 [.sl 13 (l.map aJ.cells)] σ (fun r σ'=>r=.own σ.length 0∧σ'=σ++[xc 0 l]):=by
 refine PC.intro func91 c91 fun aQ cz=>aj ?_;simp only[p91,SS,seval];simp only[List.length_map,VV,seval];refine bA.wk ((Wk.gZ (σ:=σ) (k:=3) Rv rfl).trans (Wk.ej ?_)) (bA.pd (l.length+1) (Y6 l aQ hlen rA l [] 0 rfl ?_))
 ·simp only[W,seval]
  repeat' constructor
 ·intro g;intros;simp only[VV,seval];exact yz 0 aQ (.inr rfl) rfl rfl rfl (by simp[ES,Ob.gen]) (by simp[Pm.one,Vp,Ob.fresh,xc])
theorem tR(o:cc)(ho:o.small)(σ:ag):PC prog 52 [.agg o.cells] σ (fun r σ'=>r=.agg [.i .i64 o.number,.i .i64 o.clock,.own σ.length 0,.sl 1 (al o.log),.i .i64 o.synced,.b o.down]∧σ'=σ++[xc 0 o.ops]):=by
 refine PC.intro func52 c52 fun aQ cz=>aj ?_;simp only[p52,SS,seval];simp only[cc.cells,VV,seval];refine ai (I3 o.ops (by have:=ho.len;omega) ho.ops _) rfl ?_;simp only[xc,VV,seval];refine ai (oC o.log (by have:=ho.log;omega) _) rfl ?_;simp only[VV,seval];refine ed (xs:=[.agg [.i .i64 o.number,.i .i64 o.clock,.own (σ.length+2) 0,.sl 1 (al o.log),.i .i64 o.synced,.b o.down]]) (xs':=[.agg [.i .i64 o.number,.i .i64 o.clock,.own σ.length 0,.sl 1 (al o.log),.i .i64 o.synced,.b o.down]]) (.inr rfl) (by simp only[kO,sj,VV,seval]) ?_ rfl ⟨rfl,rfl⟩
 refine Wk.SN (os:=[.row 29 13 184 0 false (o.ops.map aJ.cells)]) [2] aQ (by simp) rfl (fun i k hk=>by
  rcases i with _ | i
  ·simp only[ao,aa]at hk;subst hk;exact⟨_,rfl,rfl,rfl⟩
  ·simp at hk) (.cons (Mv.ir (.cons (.bY _ (.i _ _)) (.cons (.bY _ (.i _ _)) (.cons (.own 0 2 29 13 184 0 false (o.ops.map aJ.cells) rfl rfl) (.cons (.bY _ (.sl _ _)) (.cons (.bY _ (.i _ _)) (.cons (.bY _ (.b _)) .nil))))))) .nil)
theorem ou(o:cc)(ho:o.small)(σ:ag):PC prog 52 [.agg o.cells] σ (fun r σ'=>r=.agg o.cells∧σ'=σ):=by
 refine PC.closed fun aQ=>PC.post (tR o ho σ) ?_;refine(Wk.fz (E:=29) (sz:=13) (by':=184) (g:=0) (sh:=false) (rows:=o.ops.map aJ.cells) σ.length (by simp[xc])).trans ?_;simp only[ay,az,Pm.fz,kc,and_self,if_true,xc];rw[fT _ _ (aB _),iu];exact Wk.Fb aQ (by simp only[LW])
end Go.Proofs.Tryz
namespace Go.Proofs.Tryz
open Go Go.Pm Go.Bt Go.RowKit
open Go.Pm.V(u)
theorem Ds(n:Int)(σ:ag):PC prog 174 [.i .u32 n] σ (fun r σ'=>r=.sl 1 (al (lz n))∧σ'=σ):=by
 refine PC.intro func174 ajZ fun aQ cz=>aj ?_;simp only[ada,SS,seval];simp only[VV,Int.reduceToNat];refine⟨by decide,by decide,by decide,?_⟩;refine ed (xs':=[.sl 1 (al (lz n))]) (.inr rfl) rfl (Wk.ej (.cons ?_ .nil)) rfl ⟨rfl,rfl⟩;simp only[al,lz,ay,az,Bx];exact .lit _ _
theorem VU{n:Nat}{σ:ag}{K:Exit→St→Prop}(l:List UInt8)(hlen:l.length<2^62):∀ (rest pre:List UInt8) (h:Int),l=pre++rest →
  (∀ j1 j2 j3 j4 j5 j6 j7 j8 j9 cT cS cX cR cN cM cL cW df dn,K (.exit 0) ⟨[.i .u32 (rest.foldl mr h),j1,j2,j3,j4,j5,j6,j7,j8,j9,cT,cS,cX,cR,cN,cM,cL,cW,df,dn],σ⟩) →
  fO n prog Ht K (rest.length+1) ⟨[.i .u32 h,u,u,u,u,u,u,.sl 1 (al l),.i .i64 l.length,.i .i64 pre.length,u,u,u,u,u,u,u,u,u,u],σ⟩:=by
 intro rest
 induction rest with
 | nil =>
  intro pre h he h1;have he:l=pre:=by simpa using he
  subst he;refine ax fun R hR=>?_;simp only[Ht,VV,seval];exact⟨fun h=>by simp at h,fun _=>h1 ..⟩
 | cons x rest ih =>
  intro pre h he h1;subst he
  have dY:fe (al (pre++x::rest)) pre.length 0=some (.i .u8 x.toNat):=by
   simp[al,fe]
  have hw:IntKind.i64.wrap ((pre.length:Int)+1)=(((pre++[x]).length:Nat):Int):=by
   rw[aV (by simp at hlen;omega)];simp
  refine ax fun R hR=>?_;simp only[Ht,aL,dY,hw,VV,seval];refine⟨fun _=>⟨by simp;omega,?_⟩,fun h=>by simp at h<;>omega⟩;refine hR _ (aW ?_ (ih (pre++[x]) (mr h x) (by simp) h1))
  repeat' constructor
theorem B7(h:Int)(l:List UInt8)(hlen:l.length<2^62)(σ:ag):PC prog 144 [.i .u32 h,.sl 1 (al l)] σ (fun r σ'=>r=.i .u32 (jN h l)∧σ'=σ):=by
 refine PC.intro func144 aki fun aQ cz=>aj ?_;simp only[adt,SS,seval];simp only[aL,VV,seval];refine bA.wk (Wk.ej ?_) (bA.pd (l.length+1) (VU l hlen l [] h rfl ?_))
 ·repeat' constructor
 intros;simp only[VV,seval];exact aO (.inr rfl) rfl ⟨rfl,rfl⟩
theorem WQ(n:Nat)(h0:0<n)(hn:n<2^40)(σ:ag):PC prog 213 [.nil,.i .i64 n] σ (fun r σ'=>r=.own σ.length 0∧σ'=σ++[.row 5 1 1 0 false []]):=by
 obtain⟨i,z,hi,hz,h1,h2,h3⟩:=sO MF;refine PC.ofRow (E:=5) (by':=1) ⟨by decide,i,z,hi,hz,h1,h2,h3⟩ fun B w0 w μ vs hS hv=>?_
 have e:vs=#[.slice none 0 0,.int .i64 n]:=by
  have h4:=hv.2 0 _ rfl;have h5:=hv.2 1 _ rfl;have h4:=h4.lG;have h5:=h5.iP;obtain⟨l⟩:=vs
  match l,hv.1 with
  | [x,y],_=>simp at h4 h5;rw[h4,h5]
 rw[e];refine(Any8.slices_Grow_grow Tryz.afc i z hi hz (by omega) none 0 0 n [] w (by omega) (by omega) (by rw[h2];omega) (by omega) (by simp) (fun _=>rfl) (fun a h=>by simp at h)).mono ?_;rintro e w' ⟨rfl,rfl⟩;have hG:=grownCap_ge w (0+n) 0 5;refine⟨_,[],rfl,?_,?_,by simp,by simp[fe]⟩
 ·refine World.ownsRow_made (base:=w.heap.size) (e:=5) (size:=1) w.drew _ _ (aB _) (grownCap_le_maxLen w _ _ _ (by unfold maxLen;omega)) ?_;have h5:∀ k,(Builtin.zeroCells z.cells k).size=k:=fun k=>by simp[Builtin.zeroCells,h3]
  have hG':0+n≤grownCap w (0+n) 0 (Tryz.F4.t 25):=hG;rw[lJ,lJ,h5,h5];simp only[Array.size_empty];omega
 ·exact((Below.refl _ w).drew).alloc (aB _) _
def wy(ls:List (List UInt8)):List (List V):=ls.map fun l=>[.sl 1 (al l)]
theorem vK(ls:List (List UInt8)):(wy ls).length=ls.length:=by simp[wy]
theorem Jx(pre:List (List UInt8))(x:List UInt8)(rest:List (List UInt8)):fe (wy (pre++x::rest)) pre.length 0=some (.sl 1 (al x)):=by simp[wy,fe]
theorem OG{ls pre rest:List (List UInt8)}{x:List UInt8}(h:ls=pre++x::rest):pre.flatten.length+x.length≤ls.flatten.length:=by
 subst h;simp
theorem P2{n:Nat}{σ:ag}{K:Exit→St→Prop}(ls:List (List UInt8))(hlen:ls.length<2^40)(u0:ls.flatten.length<2^40):∀ (rest pre:List (List UInt8)),ls=pre++rest →
  (∀ j1 j2 j4 j5 j6 j7 j8 j9 cT cS cX cR cN cM cL cW df dn dx dy dD dI dH dG dX ez eA eH eW fg fi ft fw fG,K (.exit 0) ⟨[.sl 1 (wy ls),j1,j2,.i .i64 ls.flatten.length,j4,j5,j6,j7,j8,j9,cT,cS,cX,cR,cN,cM,cL,cW,df,dn,dx,dy,dD,dI,dH,dG,dX,ez,eA,eH,eW,fg,fi,ft,fw,fG],σ⟩) →
  fO n prog Hm K (rest.length+1) ⟨[.sl 1 (wy ls),u,u,.i .i64 pre.flatten.length,u,u,u,u,u,.sl 1 (wy ls),.i .i64 ls.length,.i .i64 pre.length,u,u,u,u,u,u,u,u,u,u,u,u,u,u,u,u,u,u,u,u,u,u,u,u],σ⟩:=by
 intro rest
 induction rest with
 | nil =>
  intro pre he h1;have he:ls=pre:=by simpa using he
  subst he;refine ax fun R hR=>?_;simp only[Hm,VV,seval];exact⟨fun h=>by simp at h,fun _=>h1 ..⟩
 | cons x rest ih =>
  intro pre he h1;subst he;have dY:=Jx pre x rest;have hle:=OG (rfl:pre++x::rest=pre++x::rest)
  have hw:IntKind.i64.wrap ((pre.length:Int)+1)=(((pre++[x]).length:Nat):Int):=by
   rw[aV (by simp at hlen;omega)];simp
  have hs:IntKind.i64.wrap ((pre.flatten.length:Int)+(x.length:Int))=(((pre++[x]).flatten.length:Nat):Int):=by
   rw[show(pre.flatten.length:Int)+(x.length:Int)=((pre.flatten.length+x.length:Nat):Int)by omega,ll (by omega)];simp
  have hd:decide ((((pre++[x]).flatten.length:Nat):Int)<0)=false:=by simp;omega
  refine ax fun R hR=>?_;simp only[Hm,vK,aL,dY,hw,hs,hd,VV,seval];refine⟨fun _=>⟨by simp;omega,?_⟩,fun h=>by simp at h<;>omega⟩;refine hR _ (aW ?_ (ih (pre++[x]) (by simp) h1))
  repeat' constructor
theorem P1{σ:ag}{K:Exit→St→Prop}(ls:List (List UInt8))(hlen:ls.length<2^40)(u0:ls.flatten.length<2^40):∀ (rest pre:List (List UInt8)) (g:Nat),ls=pre++rest →
  (∀ g,(∀ j0 j1 j2 j3 j4 j5 j7 j8 j9 cT cS cX cR cN cM cL cW df dn dx dy dD dI dH dG dX ez eA eH eW fg fi ft fw fG,K (.exit 2) ⟨[j0,j1,j2,j3,j4,j5,.own σ.length g,j7,j8,j9,cT,cS,cX,cR,cN,cM,cL,cW,df,dn,dx,dy,dD,dI,dH,dG,dX,ez,eA,eH,eW,fg,fi,ft,fw,fG],σ++[.row 5 1 1 g false (al ls.flatten)]⟩)) →
  fO σ.length prog Hl K (rest.length+1) ⟨[u,u,u,u,u,u,.own σ.length g,u,u,u,u,u,u,u,u,u,u,u,u,u,u,u,u,u,u,.sl 1 (wy ls),.i .i64 ls.length,.i .i64 pre.length,u,u,u,u,u,u,u,u],σ++[.row 5 1 1 g false (al pre.flatten)]⟩:=by
 intro rest
 induction rest with
 | nil =>
  intro pre g he h1;have he:ls=pre:=by simpa using he
  subst he;refine ax fun R hR=>?_;simp only[Hl,VV,seval];exact⟨fun h=>by simp at h,fun _=>h1 g ..⟩
 | cons x rest ih =>
  intro pre g he h1;subst he;have dY:=Jx pre x rest;have hle:=OG (rfl:pre++x::rest=pre++x::rest)
  have hw:IntKind.i64.wrap ((pre.length:Int)+1)=(((pre++[x]).length:Nat):Int):=by
   rw[aV (by simp at hlen;omega)];simp
  refine ax fun R hR=>?_;simp only[Hl,vK,aL,dY,hw,maxLen,VV,seval];refine⟨fun _=>⟨by simp;omega,?_⟩,fun h=>by simp at h<;>omega⟩;refine⟨⟨by omega,by omega⟩,?_⟩;have e0:al pre.flatten++al x=al (pre++[x]).flatten:=by simp[al]
  rw[e0];refine hR _ (aW ?_ (ih (pre++[x]) (g+1) (by simp) h1))
  repeat' constructor
theorem QN(ls:List (List UInt8))(hlen:ls.length<2^40)(h0:0<ls.flatten.length)(u0:ls.flatten.length<2^40)(σ:ag):PC prog 175 [.sl 1 (wy ls)] σ (fun r σ'=>r=.sl 1 (al ls.flatten)∧σ'=σ):=by
 refine PC.intro func175 ajY fun aQ cz=>aj ?_;simp only[ac9,SS,seval];simp only[vK,VV,seval];refine bA.wk (Wk.ej ?_) (bA.pd (ls.length+1) (P2 ls hlen u0 ls [] rfl ?_))
 ·repeat' constructor
 intros;simp only[VV,seval];refine ai (WQ ls.flatten.length h0 u0 _) rfl ?_;simp only[vK,VV,seval];refine bA.wk (Wk.ej ?_) (bA.pd (ls.length+1) (P1 ls hlen u0 ls [] 0 rfl ?_))
 ·repeat' constructor
 intro g;intros;simp only[VV,seval];refine gg 0 aQ (.inr rfl) rfl rfl ?_ ?_
 ·simp only[aE,aT,ay,az,fz,kc,bC,and_self,if_true,LW]
 ·simp only[aE,aT,ay,az,fz,kc,bC,and_self,if_true];exact⟨rfl,trivial⟩
theorem MB(log p:List UInt8)(hl:log.length<2^30)(hp:p.length<2^30)(σ:ag):PC prog 115 [.sl 1 (al log),.sl 1 (al p)] σ (fun r σ'=>r=.iK [.sl 1 (al (oE log p).1),.i .i64 (oE log p).2]∧σ'=σ):=by
 refine PC.intro func115 akG fun aQ cz=>aj ?_
 have e1:IntKind.i64.wrap ((log.length:Int)+8)=((log.length+8:Nat):Int):=by
  rw[show(log.length:Int)+8=((log.length+8:Nat):Int)by omega,ll (by omega)]
 have e2:IntKind.i64.wrap (((log.length+8:Nat):Int)+(p.length:Int))=((log.length+8+p.length:Nat):Int):=by
  rw[show((log.length+8:Nat):Int)+(p.length:Int)=((log.length+8+p.length:Nat):Int)by omega,ll (by omega)]
 simp only[adU,SS,seval];simp only[aL,e1,e2,VV,seval];refine⟨fun h=>?_,fun h=>?_⟩
 ·have h:65536<p.length∨4194304<log.length+8+p.length:=by simp at h;omega
  refine ed (xs':=[.sl 1 (al (oE log p).1),.i .i64 (oE log p).2]) (.inr rfl) rfl (Wk.ej ?_) rfl ⟨rfl,rfl⟩;simp only[oE,if_pos h,al,az];exact .cons (.nil _) (.cons (.refl _) .nil)
 have h:¬ (65536<p.length∨4194304<log.length+8+p.length):=by simp at h;omega
 refine ai (Ds (IntKind.u32.wrap (p.length:Int)) _) rfl ?_;simp only[VV,seval];refine ai (B7 2166136261 (lz (IntKind.u32.wrap (p.length:Int))) (by rw[iM];omega) _) rfl ?_;simp only[VV,seval];refine ai (B7 _ p (by omega) _) rfl ?_;simp only[VV,seval];refine ai (Ds _ _) rfl ?_;simp only[V.pure,VV,seval];refine ic (zs:=[.sl 1 (wy [log,lz (IntKind.u32.wrap (p.length:Int)),AK p,p])]) (.cons (.lit _ _) .nil) (QN _ (by simp) (by simp[iM];omega) (by simp[iM,AK];omega) _) ?_;simp only[VV,seval];refine ed (xs':=[.sl 1 (al (oE log p).1),.i .i64 (oE log p).2]) (.inr rfl) rfl ?_ rfl ⟨rfl,rfl⟩;simp only[oE,if_neg h,zS,List.flatten_nil,bf,List.append_assoc];exact Wk.refl _ _
theorem Mh(x s b:Nat)(hx:x*2^s<2^32)(hs:s≤32)(hb:b<2^s):IntKind.u32.wrap (((BitVec.ofInt IntKind.u32.bits ((x*2^s:Nat):Int) ||| BitVec.ofInt IntKind.u32.bits (b:Int)).toNat:Nat):Int)=((x*2^s+b:Nat):Int):=by
 have h32:2^s≤2^32:=tM (by decide) hs
 have e2:(BitVec.ofInt IntKind.u32.bits ((x*2^s:Nat):Int) ||| BitVec.ofInt IntKind.u32.bits (b:Int)).toNat=x*2^s+b:=by
  show(BitVec.ofInt 32 ((x*2^s:Nat):Int) ||| BitVec.ofInt 32 (b:Int)).toNat=x*2^s+b;rw[iJ,iJ,BitVec.toNat_or,jI,jI,iG hx,iG (by omega),jL x];exact(Yj hb x).symm
 have fk:x*2^s+b<2^32:=by
  have:=(BitVec.ofInt IntKind.u32.bits ((x*2^s:Nat):Int) ||| BitVec.ofInt IntKind.u32.bits (b:Int)).isLt;rw[e2]at this;exact this
 rw[e2,oF];omega
theorem I4(l:List UInt8)(h:4≤l.length)(σ:ag):PC prog 143 [.sl 1 (al l)] σ (fun r σ'=>r=.i .u32 (fc (l.take 4))∧σ'=σ):=by
 match l,h with
 | a::b::c::d::l,_ =>
 refine PC.intro func143 akj fun aQ cz=>aj ?_;have ha:=a.toNat_lt;have hb:=b.toNat_lt;have hc:=c.toNat_lt;have hd:=d.toNat_lt;have w:∀ k:Nat,k<2^32→IntKind.u32.wrap (k:Int)=k:=fun k hk=>by rw[oF];omega
 have t0:fe (al (a::b::c::d::l)) 0 0=some (.i .u8 a.toNat):=rfl;have t1:fe (al (a::b::c::d::l)) 1 0=some (.i .u8 b.toNat):=rfl;have t2:fe (al (a::b::c::d::l)) 2 0=some (.i .u8 c.toNat):=rfl;have t3:fe (al (a::b::c::d::l)) 3 0=some (.i .u8 d.toNat):=rfl;have hl:(al (a::b::c::d::l)).length=l.length+4:=by rw[aL];rfl
 have s1:IntKind.u32.wrap ((a.toNat:Int)*2^min 24 IntKind.u32.bits)=((a.toNat*2^24:Nat):Int):=by
  rw[← w (a.toNat*2^24) (by omega)];congr 1
 have s2:IntKind.u32.wrap ((b.toNat:Int)*2^min 16 IntKind.u32.bits)=((b.toNat*2^16:Nat):Int):=by
  rw[← w (b.toNat*2^16) (by omega)];congr 1
 have s3:IntKind.u32.wrap ((c.toNat:Int)*2^min 8 IntKind.u32.bits)=((c.toNat*2^8:Nat):Int):=by
  rw[← w (c.toNat*2^8) (by omega)];congr 1
 have o1:=Mh a.toNat 24 (b.toNat*2^16) (by omega) (by decide) (by omega);have o2:=Mh (a.toNat*2^8+b.toNat) 16 (c.toNat*2^8) (by omega) (by decide) (by omega);have o3:=Mh (a.toNat*2^16+b.toNat*2^8+c.toNat) 8 d.toNat (by omega) (by decide) (by omega);rw[show(a.toNat*2^8+b.toNat)*2^16=a.toNat*2^24+b.toNat*2^16 by omega]at o2;rw[show(a.toNat*2^16+b.toNat*2^8+c.toNat)*2^8=a.toNat*2^24+b.toNat*2^16+c.toNat*2^8 by omega]at o3
 have e:fc ((a::b::c::d::l).take 4)=((a.toNat*2^24+b.toNat*2^16+c.toNat*2^8+d.toNat:Nat):Int):=by
  simp only[cC,fJ,fc,bd,dB];omega
 rw[e];simp only[adu,SS,seval];simp only[hl,t0,t1,t2,t3,w a.toNat (by omega),w b.toNat (by omega),w c.toNat (by omega),w d.toNat (by omega),s1,s2,s3,o1,o2,o3,VV,Int.reduceToNat,reduceIte];refine⟨by omega,by omega,by omega,by omega,by omega,by omega,by omega,?_⟩;exact aO (.inr rfl) (by simp only[RS,seval];rfl) ⟨rfl,rfl⟩
theorem KU(l:List UInt8)(hl:l.length<2^30)(σ:ag):PC prog 93 [.sl 1 (al l)] σ (fun r σ'=>r=.i .i64 (gA l:Nat)∧σ'=σ):=by
 refine PC.intro func93 c93 fun aQ cz=>aj ?_;simp only[p93,SS,seval];simp only[aL,VV,seval];refine⟨fun h=>?_,fun h=>?_⟩
 ·have h8:l.length<8:=by have:=of_decide_eq_true h;omega
  rw[gA,if_pos h8];exact aO (.inr rfl) (by simp only[RS,seval];rfl) ⟨rfl,rfl⟩
 have h8:¬ l.length<8:=by have:=of_decide_eq_false h;omega
 obtain⟨n,hn⟩:∃ n:Nat,fc (l.take 4)=n:=⟨(fc (l.take 4)).toNat,by have:=vw (l.take 4) (by rw[aR];omega);omega⟩;have hr:=vw (l.take 4) (by rw[aR];omega);have e1:IntKind.i64.wrap (n:Int)=n:=IntWalk.i64_in _ (by omega);have e2:IntKind.i64.wrap ((l.length:Int) - 8)=((l.length - 8:Nat):Int):=by rw[IntWalk.i64_in _ (by omega)];omega
 rw[gA,if_neg h8,hn];refine ai (I4 l (by omega) _) rfl ?_;simp only[hn,e1,e2,aL,VV,seval];refine⟨fun h=>?_,fun h=>?_⟩
 ·rw[if_pos (by simpa using h)];exact aO (.inr rfl) (by simp only[RS,seval];rfl) ⟨rfl,rfl⟩
 have hb:¬ (65536<(n:Int)∨((l.length - 8:Nat):Int)<n):=by simpa using h
 rw[if_neg hb];have e3:IntKind.i64.wrap (8+(n:Int))=((8+n:Nat):Int):=by rw[IntWalk.i64_in _ (by omega)];omega
 have e4:(al l).take 4=al (l.take 4):=by simp[al,List.map_take]
 have e5:((al l).drop 8).take n=al ((l.drop 8).take n):=by simp[al,List.map_take,List.map_drop]
 have e6:((al l).drop 4).take (l.length - 4)=al (l.drop 4):=by
  rw[bJ (by simp[al])];simp[al,List.map_drop]
 simp only[e3,e4,e5,e6,an,cx,seval];refine⟨by omega,⟨by omega,by omega⟩,⟨by omega,by omega⟩,?_⟩;refine ai (B7 qZ (l.take 4) (by rw[aR];omega) _) rfl ?_;simp only[e5,e6,an,cx,aL,VV,seval];refine⟨⟨⟨by omega,by omega⟩,by omega,by omega⟩,?_⟩;refine ai (B7 (jN qZ (l.take 4)) ((l.drop 8).take n) (by rw[aR,bH];omega) _) rfl ?_;simp only[e6,an,aL,VV,seval];refine⟨⟨by omega,by omega⟩,?_⟩;refine ai (I4 (l.drop 4) (by rw[bH];omega) _) rfl ?_;simp only[e3,VV,seval];refine⟨fun h=>?_,fun h=>?_⟩
 ·rw[if_neg (by simpa using h)];exact aO (.inr rfl) (by simp only[RS,seval];rfl) ⟨rfl,rfl⟩
 ·rw[if_pos (by simpa using h)];exact aO (.inr rfl) (by simp only[RS,seval];rfl) ⟨rfl,rfl⟩
theorem DN:∀ ps:List (List UInt8),8*ps.length≤(bM ps).length
 | []=>iF _
 | p::ps=>by
  have:=DN ps;simp only[bM,cZ,List.length_append,ig,ab]at this ⊢;omega
theorem Ru:Ti prog 34 1 24:=nR (by kernel_rfl)
def tc(p:List UInt8):List V:=[.sl 1 (al p)]
def BH(g:Nat)(ps:List (List UInt8)):Ob:=.row 34 1 24 g false (ps.map tc)
set_option maxHeartbeats 1000000 in
theorem Zl{σ:ag}{K:Exit→St→Prop}(ps:List (List UInt8))(tl:List UInt8)(hlen:(bM ps++tl).length<2^30)(hp:∀ p∈ps,p.length≤65536)(ht:gA tl=0):∀ (rest pre:List (List UInt8)) (g:Nat),ps=pre++rest →
  (∀ g,(∀ j0 j1 j4 j5 j6 j7 j8 j9 cT cS cX cR cN cM cL cW df dn dx dy dD dI dH dG dX,K .ret ⟨[j0,j1,.own σ.length g,.i .i64 (bM ps).length,j4,j5,j6,j7,j8,j9,cT,cS,cX,cR,cN,cM,cL,cW,df,dn,dx,dy,dD,dI,dH,dG,dX],σ++[BH g ps]⟩)) →
  fO σ.length prog JY K (rest.length+1) ⟨[.sl 1 (al (bM ps++tl)),u,.own σ.length g,.i .i64 (bM pre).length,u,u,u,u,u,u,u,u,u,u,u,u,u,u,u,u,u,u,u,u,u,u,u],σ++[BH g pre]⟩:=by
 intro rest
 induction rest with
 | nil =>
  intro pre g he h1;have he:ps=pre:=by simpa using he
  subst he
  have e0:((al (bM ps++tl)).drop (bM ps).length).take ((bM ps++tl).length - (bM ps).length)=al tl:=by
   rw[bJ (by simp[al])];simp[al]
  refine ax fun R hR=>?_;simp only[JY,aL,an,e0,VV,seval];refine⟨⟨by omega,by simp;omega⟩,?_⟩;refine ai (KU tl (by simp at hlen;omega) _) rfl ?_;simp only[ht,VV,seval];exact h1 g ..
 | cons p rest ih =>
  intro pre g he h1;have rV:=hp p (by rw[he];simp);have u0:bM ps=bM pre++(ni p++bM rest):=by rw[he];simp[bM]
  have X8:bM ps++tl=bM pre++(ni p++(bM rest++tl)):=by rw[u0];simp
  have Tj:(bM ps++tl).length=(bM pre).length+(8+p.length+(bM rest++tl).length):=by rw[X8,List.length_append,List.length_append,ig]
  have e0:((al (bM ps++tl)).drop (bM pre).length).take ((bM ps++tl).length - (bM pre).length)=al (ni p++(bM rest++tl)):=by
   rw[bJ (by simp[al]),X8];simp[al]
  have e1:IntKind.i64.wrap (((bM pre).length:Int)+8)=(((bM pre).length+8:Nat):Int):=by rw[IntWalk.i64_in _ (by omega)];omega
  have e2:IntKind.i64.wrap (((bM pre).length:Int)+((8+p.length:Nat):Int))=(((bM pre).length+(8+p.length):Nat):Int):=by rw[IntWalk.i64_in _ (by omega)];omega
  have e3:(((al (bM ps++tl)).drop ((bM pre).length+8)).take ((bM pre).length+(8+p.length) - ((bM pre).length+8)))=al p:=by
   have h8:(bM ps++tl).drop ((bM pre).length+8)=p++(bM rest++tl):=by
    rw[X8,← List.drop_drop,List.drop_left,yF p (by omega),List.append_assoc,List.append_assoc,← List.append_assoc];exact Em (by rw[List.length_append,iM,iM])
   rw[show(bM pre).length+(8+p.length) - ((bM pre).length+8)=p.length by omega];simp only[al,← List.map_drop,← List.map_take,h8,lH]
  have iQ:(((8+p.length:Nat):Int)==0)=false:=by simp;omega
  have e4:pre.map tc++[[.sl 1 (al p)]]=(pre++[p]).map tc:=by simp[tc]
  have e5:(bM pre).length+(8+p.length)=(bM (pre++[p])).length:=by simp[bM,ig]
  refine ax fun R hR=>?_;simp only[JY,BH,aL,an,e0,VV,seval];refine⟨⟨by omega,by omega⟩,?_⟩;refine ai (KU (ni p++(bM rest++tl)) (by rw[List.length_append,ig];omega) _) rfl ?_;simp only[Ge p (bM rest++tl) rV,iQ,e1,e2,e3,an,aL,VV,seval];refine⟨⟨by omega,by omega,by omega⟩,?_⟩;refine ai (oC p (by omega) _) rfl ?_;simp only[e2,List.length_map,V.pure,maxLen,VV,seval];have hpn:=DN pre;refine⟨by omega,?_⟩;rw[e4];refine hR _ (aW (fr':=[.sl 1 (al (bM ps++tl)),u,.own σ.length (g+1),.i .i64 (bM (pre++[p])).length,u,u,u,u,u,u,u,u,u,u,u,u,u,u,u,u,u,u,u,u,u,u,u]) ?_ (ih (pre++[p]) (g+1) (by rw[he];simp) h1));rw[← e5]
  repeat' constructor
theorem NC(ps:List (List UInt8))(tl:List UInt8)(hlen:(bM ps++tl).length<2^30)(hp:∀ p∈ps,p.length≤65536)(ht:gA tl=0)(σ:ag):
  PC prog 54 [.sl 1 (al (bM ps++tl))] σ (fun r σ'=>r=.iK [.sl 1 (ps.map tc),.i .i64 (bM ps).length]∧σ'=σ):=by
 refine PC.intro func54 c54 fun aQ cz=>aj ?_;simp only[p54,SS,seval];simp only[VV,seval]
 refine bA.wk (((Wk.ej (ys:=[.sl 1 (al (bM ps++tl)),u,.nil,.i .i64 (bM []).length,u,u,u,u,u,u,u,u,u,u,u,u,u,u,u,u,u,u,u,u,u,u,u]) (by repeat' constructor)).trans (Wk.gZ (P:=prog) (k:=2) Ru rfl)).trans (Wk.ej (ys:=[.sl 1 (al (bM ps++tl)),u,.own σ.length 0,.i .i64 (bM []).length,u,u,u,u,u,u,u,u,u,u,u,u,u,u,u,u,u,u,u,u,u,u,u]) ?_))
  (bA.pd (ps.length+1) (Zl ps tl hlen hp ht ps [] 0 rfl ?_))
 ·simp only[VV,seval]
  repeat' constructor
 intro g;intros;simp only[BH,VV,seval];refine gg 0 aQ (.inr rfl) (by simp only[RS,seval];rfl) rfl ?_ ?_
 ·simp only[ay,az,Pm.fz,kc,and_self,if_true,bC,LW]
 ·simp only[ay,az,Pm.fz,kc,and_self,if_true,bC];exact⟨rfl,trivial⟩
theorem Pf(ps:List (List UInt8))(tl:List UInt8)(hlen:(bM ps++tl).length<2^30)(hp:∀ p∈ps,p.length≤65536)(ht:gA tl=0)(σ:ag):
  PC prog 53 [.sl 1 (al (bM ps++tl))] σ (fun r σ'=>r=.sl 1 (al (bM ps))∧σ'=σ):=by
 refine PC.intro func53 c53 fun aQ cz=>aj ?_;have e0:(al (bM ps++tl)).take (bM ps).length=al (bM ps):=by simp[al]
 have hl:(bM ps++tl).length=(bM ps).length+tl.length:=List.length_append;simp only[p53,SS,seval];simp only[VV,seval];refine ai (NC ps tl hlen hp ht _) rfl ?_;simp only[aL,an,e0,VV,seval];refine⟨⟨by omega,by omega⟩,?_⟩;refine ai (oC (bM ps) (by omega) _) rfl ?_;simp only[VV,seval];exact aO (.inr rfl) (by simp only[RS,seval];rfl) ⟨rfl,rfl⟩
theorem nh{σ:ag}{b b':List UInt8}{c c':Bool}{v:Int}(h:(Rb.mk b c).bF 4=(v,⟨b',c'⟩))(hr:b.length<2^60):
  PC prog 123 [.ptr σ.length 0,.i .i64 4] (σ++[.box 146 [.sl 1 (al b),.b c]]) (fun r σ'=>r=.i .i64 v∧σ'=σ++[.box 146 [.sl 1 (al b'),.b c']]):=by
 have:=ud (σ++[.dead]) σ.length (by simp) ⟨b,c⟩ hr 4 (by decide);rw[h]at this;simpa[Nz]using this
def agz(l:List UInt8)(r:V):Prop:=∃ v,r=.iK [v,.b (decide (gA l≠0))]∧(gA l≠0→v=.sl 1 (al ((l.drop 8).take (gA l - 8))))
set_option maxHeartbeats 2000000 in
theorem ND(l:List UInt8)(hl:l.length<2^30)(σ:ag):PC prog 68 [.sl 1 (al l)] σ (fun r σ'=>agz l r∧σ'=σ):=by
 refine PC.intro func68 c68 fun aQ cz=>aj ?_;simp only[p68,SS,seval];simp only[VV,seval]
 by_cases h4:l.length<4
 ·have e1:(Rb.mk l false).bF 4=(0,⟨l,true⟩):=by simp only[Rb.bF,if_pos h4]
  have e2:(Rb.mk l true).bF 4=(0,⟨l,true⟩):=by simp only[Rb.bF,if_pos h4]
  have ef:gA l=0:=by rw[gA,if_pos (by omega)]
  refine ai (nh e1 (by omega)) rfl ?_;simp only[VV,seval];refine ai (nh e2 (by omega)) rfl ?_;simp only[VV,seval];exact aG aQ (.inr rfl) (by simp only[RS,seval];rfl) (by simp only[LW]) ⟨⟨_,by simp[ef,Pm.one];rfl,fun h=>absurd ef h⟩,rfl⟩
 have e1:(Rb.mk l false).bF 4=(fc (l.take 4),⟨l.drop 4,false⟩):=by simp only[Rb.bF,if_neg h4]
 have hd4:(l.drop 4).length=l.length - 4:=bH;refine ai (nh e1 (by omega)) rfl ?_;simp only[VV,seval]
 by_cases h8:l.length<8
 ·have e2:(Rb.mk (l.drop 4) false).bF 4=(0,⟨l.drop 4,true⟩):=by simp only[Rb.bF];rw[if_pos (by rw[hd4];omega)]
  have ef:gA l=0:=by rw[gA,if_pos h8]
  refine ai (nh e2 (by omega)) rfl ?_;simp only[VV,seval];exact aG aQ (.inr rfl) (by simp only[RS,seval];rfl) (by simp only[LW]) ⟨⟨_,by simp[ef,Pm.one];rfl,fun h=>absurd ef h⟩,rfl⟩
 have e2:(Rb.mk (l.drop 4) false).bF 4=(fc ((l.drop 4).take 4),⟨l.drop 8,false⟩):=by
  simp only[Rb.bF];rw[if_neg (by rw[hd4];omega),List.drop_drop]
 refine ai (nh e2 (by omega)) rfl ?_;obtain⟨n,hn⟩:∃ n:Nat,fc (l.take 4)=n:=⟨(fc (l.take 4)).toNat,by have:=vw (l.take 4) (by rw[aR];omega);omega⟩;have hd8:(l.drop 8).length=l.length - 8:=bH
 have ef:gA l=if 65536<(n:Int)∨((l.length - 8:Nat):Int)<n then 0 else if jN (jN qZ (l.take 4)) ((l.drop 8).take n)=fc ((l.drop 4).take 4)then 8+n else 0:=by
  rw[gA,if_neg h8,hn,an]
 have t4:(al l).take 4=al (l.take 4):=by simp[al,List.map_take]
 have te:(al (l.take 4)).isEmpty=false:=by
  have:(al (l.take 4)).length=4:=by rw[aL,aR];omega
  cases hq:al (l.take 4)with
  | nil=>rw[hq]at this;simp at this
  | cons a r=>rfl
 have tn:(al (l.drop 8)).take n=al ((l.drop 8).take n):=by simp[al,List.map_take]
 have tl4:(l.take 4).length=4:=by rw[aR];omega
 simp only[hn,aL,hd8,t4,te,tn,tl4,ta,List.length_append,ak,maxLen,an,aD,VV,seval];refine⟨fun h=>?_,fun h=>?_⟩
 ·have hb:65536<(n:Int)∨((l.length - 8:Nat):Int)<n:=by simpa using h
  rw[if_pos hb]at ef;exact aG aQ (.inr rfl) (by simp only[RS,seval];rfl) (by simp only[LW]) ⟨⟨_,by simp[ef,Pm.one];rfl,fun h=>absurd ef h⟩,rfl⟩
 have hb:¬ (65536<(n:Int)∨((l.length - 8:Nat):Int)<n):=by simpa using h
 rw[if_neg hb]at ef;have vX:((l.drop 8).take n).length=n:=by rw[aR,hd8];omega
 have hap:jN qZ (l.take 4++(l.drop 8).take n)=jN (jN qZ (l.take 4)) ((l.drop 8).take n):=by simp only[jN,zR]
 simp only[vX];refine⟨⟨by omega,by omega⟩,by omega,⟨by omega,by omega⟩,?_⟩;refine oD (σ.length+1) (by simp only[nC];rfl) (yK (l.take 4++(l.drop 8).take n) (by rw[List.length_append,vX,tl4];omega) _) (by simp[fz,kc,ev]) ?_;simp only[hap,VV,seval]
 have eb:(jN (jN qZ (l.take 4)) ((l.drop 8).take n)==fc ((l.drop 4).take 4))=decide (gA l≠0):=by
  by_cases hq:jN (jN qZ (l.take 4)) ((l.drop 8).take n)=fc ((l.drop 4).take 4)
  ·rw[if_pos hq]at ef;rw[ef,hq];simp
  ·rw[if_neg hq]at ef;rw[ef];simpa using hq
 rw[eb];refine aG aQ (.inr rfl) (by simp only[RS,seval];rfl) (by simp only[LW]) ⟨⟨_,rfl,fun h=>?_⟩,rfl⟩;have hq:jN (jN qZ (l.take 4)) ((l.drop 8).take n)=fc ((l.drop 4).take 4):=bo fun hc=>h (by rw[ef,if_neg hc]);rw[if_pos hq]at ef;rw[ef,cx]
set_option maxHeartbeats 1000000 in
theorem Zt{σ:ag}{K:Exit→St→Prop}(aQ:bP σ)(ps:List (List UInt8))(tl:List UInt8)(hlen:(bM ps++tl).length<2^30)(hp:∀ p∈ps,p.length≤65536)(ht:gA tl=0):∀ (rest pre:List (List UInt8)) (g:Nat),ps=pre++rest →
  (∀ g loc,(∀ j0 j1 j4 j5 j6 j7 j8 j9 cT cS cX cR cN cM cL cW df dn dx dy dD dI dH dG dX ez eA eH,K .ret ⟨[j0,j1,.own σ.length g,.i .i64 (bM ps).length,j4,j5,j6,j7,j8,j9,cT,cS,cX,cR,cN,cM,cL,cW,df,dn,dx,dy,dD,dI,dH,dG,dX,ez,eA,eH],σ++(BH g ps::loc)⟩)) →
  fO σ.length prog N5 K (rest.length+1) ⟨[.sl 1 (al (bM ps++tl)),u,u,u,.own σ.length g,.i .i64 (bM pre).length,u,u,u,u,u,u,u,u,u,u,u,u,u,u,u,u,u,u,u,u,u,u,u,u],σ++[BH g pre]⟩:=by
 intro rest
 induction rest with
 | nil =>
  intro pre g he h1;have he:ps=pre:=by simpa using he
  subst he
  have e0:((al (bM ps++tl)).drop (bM ps).length).take ((bM ps++tl).length - (bM ps).length)=al tl:=by
   rw[bJ (by simp[al])];simp[al]
  refine ax fun R hR=>?_;simp only[N5,aL,an,e0,VV,seval];refine⟨⟨by omega,by simp;omega⟩,?_⟩;refine cG (ND tl (by simp at hlen;omega) _) rfl ?_;rintro _ _ ⟨⟨v,rfl,_⟩,rfl⟩;have hz:decide (gA tl≠0)=false:=by simp[ht]
  simp only[hz,VV,seval];exact h1 g [] ..
 | cons p rest ih =>
  intro pre g he h1;have rV:=hp p (by rw[he];simp);have u0:bM ps=bM pre++(ni p++bM rest):=by rw[he];simp[bM]
  have X8:bM ps++tl=bM pre++(ni p++(bM rest++tl)):=by rw[u0];simp
  have Tj:(bM ps++tl).length=(bM pre).length+(8+p.length+(bM rest++tl).length):=by rw[X8,List.length_append,List.length_append,ig]
  have e0:((al (bM ps++tl)).drop (bM pre).length).take ((bM ps++tl).length - (bM pre).length)=al (ni p++(bM rest++tl)):=by
   rw[bJ (by simp[al]),X8];simp[al]
  have e1:IntKind.i64.wrap (8+(p.length:Int))=((8+p.length:Nat):Int):=by rw[IntWalk.i64_in _ (by omega)];omega
  have e2:IntKind.i64.wrap (((bM pre).length:Int)+((8+p.length:Nat):Int))=(((bM pre).length+(8+p.length):Nat):Int):=by rw[IntWalk.i64_in _ (by omega)];omega
  have e3:((ni p++(bM rest++tl)).drop 8).take (8+p.length - 8)=p:=by
   rw[yF p (by omega),List.append_assoc,List.append_assoc,← List.append_assoc,Em (by rw[List.length_append,iM,iM]),cx];exact lH rfl
  have e5:(bM pre).length+(8+p.length)=(bM (pre++[p])).length:=by simp[bM,ig]
  have Qn:=Ge p (bM rest++tl) rV;have iQ:decide (gA (ni p++(bM rest++tl))≠0)=true:=by rw[Qn];simp
  have e4:pre.map tc++[[.sl 1 (al p)]]=(pre++[p]).map tc:=by simp[tc]
  have hpn:=DN pre;refine Af fun R hR=>?_;simp only[N5];refine bA.lf ?_;refine bA.cut fun R1 Ir=>?_;simp only[BH,aL,an,e0,VV,seval];refine⟨⟨by omega,by omega⟩,?_⟩;refine cG (ND (ni p++(bM rest++tl)) (by rw[List.length_append,ig];omega) _) rfl ?_;rintro _ _ ⟨⟨v,rfl,hv⟩,rfl⟩;have hv:=hv (by rw[Qn];omega);rw[Qn,e3]at hv;subst hv;simp only[iQ,VV,seval];refine Ir _ (bA.ej (fr':=[.sl 1 (al (bM ps++tl)),u,u,u,.own σ.length g,.i .i64 (bM pre).length,.sl 1 (al p),.b true,u,u,u,u,u,u,u,u,u,u,u,u,u,u,u,u,u,u,u,u,u,u]) ?_ (by repeat' constructor));clear Ir R1;refine bA.cut fun R1 Ir=>?_;simp only[VV,seval];refine Ir _ (bA.ej (fr':=[.sl 1 (al (bM ps++tl)),u,u,u,.own σ.length g,.i .i64 (bM pre).length,.sl 1 (al p),.b true,u,u,u,u,u,u,u,u,u,u,u,u,u,u,u,u,u,u,u,u,u,u]) ?_ (by repeat' constructor));clear Ir R1;refine bA.T0 fun R1 Ir=>?_;refine bA.agf 4 (by simp[z,zm]) fun R4 hR4=>?_
  have tail:∀ {fr:List V} {s:ag},Wk prog σ.length fr s [.sl 1 (al (bM ps++tl)),u,u,u,.own σ.length g,.i .i64 (bM pre).length,.sl 1 (al p),u,u,u,u,u,u,u,u,u,u,u,u,.own σ.length g,u,u,.sl 1 (al p),u,u,u,u,u,u,u] (σ++[BH g pre])→R4 ⟨fr,s⟩:=by
   intro fr s hw;refine hR4 _ _ _ _ hw ?_;clear hR4 hw;simp only[gN,mg,BH,List.length_map,V.pure,maxLen,VV,seval];refine⟨⟨by omega,by omega⟩,?_⟩;rw[e4];refine Ir _ (bA.ej (fr':=[.sl 1 (al (bM ps++tl)),u,u,u,.own σ.length (g+1),.i .i64 (bM pre).length,.sl 1 (al p),u,u,u,u,u,u,u,u,u,u,u,u,u,u,u,u,u,u,u,u,u,u,u]) (aj ?_) (by repeat' constructor));simp only[aL,e1,e2,VV,seval];refine hR _ (aW (fr':=[.sl 1 (al (bM ps++tl)),u,u,u,.own σ.length (g+1),.i .i64 (bM (pre++[p])).length,u,u,u,u,u,u,u,u,u,u,u,u,u,u,u,u,u,u,u,u,u,u,u,u]) ?_ (ih (pre++[p]) (g+1) (by rw[he];simp) h1));rw[← e5]
   repeat' constructor
  clear hR4
  by_cases h0:p=[]
  ·subst h0;have hb:al []=[]:=rfl;simp only[cC,fJ,hb,me,maxLen,VV,seval];exact tail (Wk.ej (by repeat first | exact .nil | refine .cons (.refl _) ?_ | refine .cons (.lit _ _) ?_ | refine .cons (.forget _) ?_))
  ·have hb:(al p).isEmpty=false:=by cases p with | nil=>exact absurd rfl h0 | cons a r=>rfl
   simp only[cC,fJ,hb,ak,aL,aD,maxLen,VV,seval];refine⟨⟨by omega,by omega⟩,tail ((Wk.fz (σ.length+1) (E:=5) (sz:=1) (by':=1) (g:=0) (sh:=false) (rows:=al p) (by rw[nC];rfl)).trans ((Wk.ej (ys:=[.sl 1 (al (bM ps++tl)),u,u,u,.own σ.length g,.i .i64 (bM pre).length,.sl 1 (al p),u,u,u,u,u,u,u,u,u,u,u,u,.own σ.length g,u,u,.sl 1 (al p),u,u,u,u,u,u,u]) ?_).trans ?_))⟩
   ·simp only[ay,az,Pm.fz,kc,and_self,if_true];have hn:(σ.length=σ.length+1∧g=0)=False:=by simp
    simp only[hn,if_false]
    repeat' constructor
   ·rw[kb]
    have:=Wk.r3 (P:=prog) (n:=σ.length) (xs:=[.sl 1 (al (bM ps++tl)),u,u,u,.own σ.length g,.i .i64 (bM pre).length,.sl 1 (al p),u,u,u,u,u,u,u,u,u,u,u,u,.own σ.length g,u,u,.sl 1 (al p),u,u,u,u,u,u,u]) (σ:=σ++[BH g pre]) (loc:=[.row 5 1 1 0 true (al p)]) (by simp) (bU aQ (by simp[BH])) (eX.1 (by
     rw[List.length_append];simp only[ab,ah,aK,LW];omega))
    rw[List.append_assoc]at this;exact this
theorem yJ(ps:List (List UInt8))(tl:List UInt8)(hlen:(bM ps++tl).length<2^30)(hp:∀ p∈ps,p.length≤65536)(ht:gA tl=0)(σ:ag):
  PC prog 27 [.sl 1 (al (bM ps++tl))] σ (fun r σ'=>r=.iK [.sl 1 (ps.map tc),.i .i64 (bM ps).length]∧σ'=σ):=by
 refine PC.intro func27 c27 fun aQ cz=>aj ?_;simp only[p27,SS,seval];simp only[VV,seval]
 refine bA.wk (((Wk.ej (ys:=[.sl 1 (al (bM ps++tl)),u,u,u,.nil,.i .i64 (bM []).length,u,u,u,u,u,u,u,u,u,u,u,u,u,u,u,u,u,u,u,u,u,u,u,u]) (by repeat' constructor)).trans (Wk.gZ (P:=prog) (k:=4) Ru rfl)).trans (Wk.ej (ys:=[.sl 1 (al (bM ps++tl)),u,u,u,.own σ.length 0,.i .i64 (bM []).length,u,u,u,u,u,u,u,u,u,u,u,u,u,u,u,u,u,u,u,u,u,u,u,u]) ?_))
  (bA.pd (ps.length+1) (Zt aQ ps tl hlen hp ht ps [] 0 rfl ?_))
 ·simp only[VV,seval]
  repeat' constructor
 intro g loc;intros;simp only[BH,VV,seval];refine gg 0 aQ (.inr rfl) (by simp only[RS,seval];rfl) rfl ?_ ?_
 ·simp only[ay,az,Pm.fz,kc,and_self,if_true,bC,LW]
 ·simp only[ay,az,Pm.fz,kc,and_self,if_true,bC];exact⟨rfl,trivial⟩
theorem L8(ps:List (List UInt8))(tl:List UInt8)(hlen:(bM ps++tl).length<2^30)(hp:∀ p∈ps,p.length≤65536)(ht:gA tl=0)(σ:ag):
  PC prog 89 [.sl 1 (al (bM ps++tl))] σ (fun r σ'=>r=.sl 1 (al (bM ps))∧σ'=σ):=by
 refine PC.intro func89 c89 fun aQ cz=>aj ?_;have e0:(al (bM ps++tl)).take (bM ps).length=al (bM ps):=by simp[al]
 have hl:(bM ps++tl).length=(bM ps).length+tl.length:=List.length_append;simp only[p89,SS,seval];simp only[VV,seval];refine ai (yJ ps tl hlen hp ht _) rfl ?_
 by_cases h0:bM ps=[]
 ·have hb:al []=[]:=rfl;simp only[h0,hb,ah]at e0 ⊢;simp only[aL,me,maxLen,VV,seval];exact⟨by omega,ed (.inr rfl) (by simp only[RS,seval]) (Wk.ej (.cons (.lit 1 []) .nil)) rfl ⟨rfl,rfl⟩⟩
 ·have iQ:(al (bM ps)).isEmpty=false:=by cases hq:bM ps with | nil=>exact absurd hq h0 | cons a r=>rfl
  simp only[aL,an,e0,iQ,ak,aD,maxLen,VV,seval];refine⟨⟨by omega,by omega⟩,⟨by omega,by omega⟩,gg 0 aQ (.inr rfl) (by simp only[RS,seval];rfl) rfl ?_ ?_⟩
  ·simp only[ay,az,Pm.fz,kc,and_self,if_true,bC,LW]
  ·simp only[ay,az,Pm.fz,kc,and_self,if_true,bC];exact⟨rfl,trivial⟩
end Go.Proofs.Tryz
namespace Go.Proofs.Tryz
open Go Go.Pm Go.Bt
open Go.Pm.V(u)
set_option maxRecDepth 20000 in
theorem oV(a b:En)(σ:ag):PC prog 34 [.agg a.cells,.agg b.cells] σ (fun r σ'=>r=.b (Iz a b)∧σ'=σ):=by
 refine PC.intro func34 c34 fun aQ cz=>aj ?_;simp only[p34,SS,seval];simp only[En.cells,VV,seval];refine ai (vM a.source b.source _) rfl ?_;simp only[VV,seval];have e1:Iz a b=(gq a.source b.source&&(gq a.target b.target&&(a.bS==b.bS&&(a.next==b.next&&(a.cQ==b.cQ&&(a.cn==b.cn&&(a.created==b.created&&a.origin==b.origin))))))):=rfl;rw[e1];refine bg (by simp only[VV,seval]<;>rfl) (fun _=>vM a.target b.target _) rfl ?_;simp only[VV,seval];cases gq a.source b.source<;>simp only[VV,seval]
 ·exact aG aQ (.inr rfl) (by simp only[RS,seval];rfl) (by simp only[LW]) ⟨rfl,rfl⟩
 cases gq a.target b.target<;>simp only[VV,seval]
 ·exact aG aQ (.inr rfl) (by simp only[RS,seval];rfl) (by simp only[LW]) ⟨rfl,rfl⟩
 cases a.bS==b.bS<;>simp only[VV,seval]
 ·exact aG aQ (.inr rfl) (by simp only[RS,seval];rfl) (by simp only[LW]) ⟨rfl,rfl⟩
 cases a.next==b.next<;>simp only[VV,seval]
 ·exact aG aQ (.inr rfl) (by simp only[RS,seval];rfl) (by simp only[LW]) ⟨rfl,rfl⟩
 cases a.cQ==b.cQ<;>simp only[VV,seval]
 ·exact aG aQ (.inr rfl) (by simp only[RS,seval];rfl) (by simp only[LW]) ⟨rfl,rfl⟩
 cases a.cn==b.cn<;>simp only[VV,seval]
 ·exact aG aQ (.inr rfl) (by simp only[RS,seval];rfl) (by simp only[LW]) ⟨rfl,rfl⟩
 cases a.created==b.created<;>simp only[VV,seval]
 ·exact aG aQ (.inr rfl) (by simp only[RS,seval];rfl) (by simp only[LW]) ⟨rfl,rfl⟩
 exact aG aQ (.inr rfl) (by simp only[RS,seval];rfl) (by simp only[LW]) ⟨rfl,rfl⟩
theorem Zp{n:Nat}{σ:ag}{K:Exit→St→Prop}(a b:List En)(hlen:a.length<2^63)(tD:a.length=b.length):∀ (ra rb pa pb:List En),a=pa++ra→b=pb++rb→pa.length=pb.length →
  (nP ra rb=true→(∀ j0 j1 j2 j3 j4 j5 j6 j7 j8 j9 cT cS cX cR cN cM cL cW df dn dx dy dD dI dH dG dX,K (.exit 0) ⟨[j0,j1,j2,j3,j4,j5,j6,j7,j8,j9,cT,cS,cX,cR,cN,cM,cL,cW,df,dn,dx,dy,dD,dI,dH,dG,dX],σ⟩))→(nP ra rb=false→(∀ j0 j1 j2 j3 j5 j6 j7 j8 j9 cT cS cX cR cN cM cL cW df dn dx dy dD dI dH dG dX,K .ret ⟨[j0,j1,j2,j3,.b false,j5,j6,j7,j8,j9,cT,cS,cX,cR,cN,cM,cL,cW,df,dn,dx,dy,dD,dI,dH,dG,dX],σ⟩)) →
  fO n prog N0 K (ra.length+1) ⟨[.sl 8 (a.map En.cells),.sl 8 (b.map En.cells),u,u,u,u,u,u,u,u,u,u,.i .i64 a.length,.i .i64 pa.length,u,u,u,u,u,u,u,u,u,u,u,u,u],σ⟩:=by
 intro ra
 induction ra with
 | nil =>
  intro rb pa pb ha hb hp h1 h2
  have:rb=[]:=by
   subst ha;subst hb;simp at tD;exact bL (by omega)
  subst this;have ha:a=pa:=by simpa using ha
  subst ha;refine ax fun R hR=>?_;simp only[N0,VV,seval];exact⟨fun h=>by simp at h,fun _=>h1 rfl ..⟩
 | cons x ra ih =>
  intro rb pa pb ha hb hp h1 h2;cases rb with
  | nil=>subst ha;subst hb;simp at tD;omega
  | cons y rb =>
   subst ha;subst hb;have e2:(List.map En.cells (pb++y::rb)).getD pa.length []=y.cells:=by rw[hp];exact ki
   have hw:IntKind.i64.wrap ((pa.length:Int)+1)=(((pa++[x]).length:Nat):Int):=by
    rw[aV (by simp at hlen;omega)];simp
   refine ax fun R hR=>?_;simp only[N0,an,e2,En.cells,VV,seval];have Q8:(0:Int)≤pa.length∧(pa.length:Int)<(List.map En.cells (pa++x::ra)).length:=by simp;omega
   have ZT:(0:Int)≤pa.length∧(pa.length:Int)<(List.map En.cells (pb++y::rb)).length:=by simp at tD ⊢;omega
   refine⟨fun _=>⟨Q8,ZT,?_⟩,fun h=>by simp at h<;>omega⟩;refine ai (oV x y _) rfl ?_;simp only[VV,seval];refine⟨fun h=>?_,fun h=>?_⟩
   ·have h:Iz x y=false:=by rw[cm]at h;exact h
    exact h2 (by simp[nP,h]) ..
   ·have h:Iz x y=true:=by rw[dC]at h;exact h
    have e:nP (x::ra) (y::rb)=nP ra rb:=by simp[nP,h]
    rw[e]at h1 h2;refine hR _ (aW ?_ (ih rb (pa++[x]) (pb++[y]) (by simp) (by simp) (by simp[hp]) h1 h2));rw[hw];repeat' constructor
theorem qL(a b:List En)(σ:ag):PC prog 37 [.sl 8 (a.map En.cells),.sl 8 (b.map En.cells)] σ (fun r σ'=>r=.b (nP a b)∧σ'=σ):=by
 refine PC.intro func37 c37 fun aQ cz=>aj ?_;have hlen:=lD (cz 0 _ rfl).1;rw[List.length_map]at hlen;simp only[p37,SS,seval];simp only[List.length_map,VV,seval];refine⟨fun h=>?_,fun h=>?_⟩
 ·have h:a.length≠b.length:=by simp at h;omega
  have e:nP a b=false:=by
   cases he:nP a b with
   | false=>rfl
   | true=>exact absurd (QG he) h
  exact aO (.inr rfl) rfl ⟨by rw[e];rfl,rfl⟩
 ·have h:a.length=b.length:=by simp at h;omega
  refine bA.aW ?_ (a.length+1) (Zp a b hlen h a b [] [] rfl rfl rfl (fun ha=>?_) (fun ha=>?_))
  ·repeat' constructor
  ·intros;simp only[VV,seval];exact aO (.inr rfl) rfl ⟨by rw[ha];rfl,rfl⟩
  ·intros;exact aO (.inr rfl) rfl ⟨by rw[ha];rfl,rfl⟩
theorem Cv.ir{xs ys:List V}(h:pH xs ys):Cv (.agg xs) (.agg ys):=.agg _ _ h.at.1 (fun i x y hx hy=>h.at.2 i x y hx hy)
theorem nj(a b:aJ)(σ:ag):PC prog 44 [.agg a.cells,.agg b.cells] σ (fun r σ'=>r=.b (Da a b)∧σ'=σ):=by
 refine PC.intro func44 c44 fun aQ cz=>aj ?_;simp only[p44,SS,seval];simp only[aJ.cells,bc.cells,En.cells,l7,di,VV,seval];refine bg (by simp only[VV,seval]<;>rfl) (fun _=>oV a.entry b.entry _) rfl ?_;simp only[VV,seval];refine bg (by simp only[VV,seval]<;>rfl) (fun _=>ov a.seen b.seen _) rfl ?_;simp only[VV,seval];refine aG aQ (.inr rfl) (by simp only[RS,seval];rfl) (by simp only[LW]) ⟨?_,rfl⟩;simp only[Pm.one,Da,UW,gW]
theorem Zs{n:Nat}{σ:ag}{K:Exit→St→Prop}(a b:List aJ)(hlen:a.length<2^63)(tD:a.length=b.length):∀ (ra rb pa pb:List aJ),a=pa++ra→b=pb++rb→pa.length=pb.length →
  (nm ra rb=true→(∀ j0 j1 j2 j3 j4 j5 j6 j7 j8 j9 cT cS cX cR cN cM cL cW df dn dx dy dD dI dH dG dX,K (.exit 0) ⟨[j0,j1,j2,j3,j4,j5,j6,j7,j8,j9,cT,cS,cX,cR,cN,cM,cL,cW,df,dn,dx,dy,dD,dI,dH,dG,dX],σ⟩))→(nm ra rb=false→(∀ j0 j1 j2 j3 j5 j6 j7 j8 j9 cT cS cX cR cN cM cL cW df dn dx dy dD dI dH dG dX,K .ret ⟨[j0,j1,j2,j3,.b false,j5,j6,j7,j8,j9,cT,cS,cX,cR,cN,cM,cL,cW,df,dn,dx,dy,dD,dI,dH,dG,dX],σ⟩)) →
  fO n prog N4 K (ra.length+1) ⟨[.sl 13 (a.map aJ.cells),.sl 13 (b.map aJ.cells),u,u,u,u,u,u,u,u,u,u,.i .i64 a.length,.i .i64 pa.length,u,u,u,u,u,u,u,u,u,u,u,u,u],σ⟩:=by
 intro ra
 induction ra with
 | nil =>
  intro rb pa pb ha hb hp h1 h2
  have:rb=[]:=by
   subst ha;subst hb;simp at tD;exact bL (by omega)
  subst this;have ha:a=pa:=by simpa using ha
  subst ha;refine ax fun R hR=>?_;simp only[N4,VV,seval];exact⟨fun h=>by simp at h,fun _=>h1 rfl ..⟩
 | cons x ra ih =>
  intro rb pa pb ha hb hp h1 h2;cases rb with
  | nil=>subst ha;subst hb;simp at tD;omega
  | cons y rb =>
   subst ha;subst hb;have e2:(List.map aJ.cells (pb++y::rb)).getD pa.length []=y.cells:=by rw[hp];exact ki
   have hw:IntKind.i64.wrap ((pa.length:Int)+1)=(((pa++[x]).length:Nat):Int):=by
    rw[aV (by simp at hlen;omega)];simp
   refine ax fun R hR=>?_;simp only[N4,an,e2,aJ.cells,bc.cells,En.cells,VV,seval];have Q8:(0:Int)≤pa.length∧(pa.length:Int)<(List.map aJ.cells (pa++x::ra)).length:=by simp;omega
   have ZT:(0:Int)≤pa.length∧(pa.length:Int)<(List.map aJ.cells (pb++y::rb)).length:=by simp at tD ⊢;omega
   refine⟨fun _=>⟨Q8,ZT,?_⟩,fun h=>by simp at h<;>omega⟩;refine ai (nj x y _) rfl ?_;simp only[VV,seval];refine⟨fun h=>?_,fun h=>?_⟩
   ·have h:Da x y=false:=by rw[cm]at h;exact h
    exact h2 (by simp[nm,h]) ..
   ·have h:Da x y=true:=by rw[dC]at h;exact h
    have e:nm (x::ra) (y::rb)=nm ra rb:=by simp[nm,h]
    rw[e]at h1 h2;refine hR _ (aW ?_ (ih rb (pa++[x]) (pb++[y]) (by simp) (by simp) (by simp[hp]) h1 h2));rw[hw];repeat' constructor
theorem rf(a b:List aJ)(σ:ag):PC prog 28 [.sl 13 (a.map aJ.cells),.sl 13 (b.map aJ.cells)] σ (fun r σ'=>r=.b (nm a b)∧σ'=σ):=by
 refine PC.intro func28 c28 fun aQ cz=>aj ?_;have hlen:=lD (cz 0 _ rfl).1;rw[List.length_map]at hlen;simp only[p28,SS,seval];simp only[List.length_map,VV,seval];refine⟨fun h=>?_,fun h=>?_⟩
 ·have h:a.length≠b.length:=by simp at h;omega
  have e:nm a b=false:=by
   cases he:nm a b with
   | false=>rfl
   | true=>exact absurd (PG he) h
  exact aO (.inr rfl) rfl ⟨by rw[e];rfl,rfl⟩
 ·have h:a.length=b.length:=by simp at h;omega
  refine bA.aW ?_ (a.length+1) (Zs a b hlen h a b [] [] rfl rfl rfl (fun ha=>?_) (fun ha=>?_))
  ·repeat' constructor
  ·intros;simp only[VV,seval];exact aO (.inr rfl) rfl ⟨by rw[ha];rfl,rfl⟩
  ·intros;exact aO (.inr rfl) rfl ⟨by rw[ha];rfl,rfl⟩
end Go.Proofs.Tryz
namespace Go.Proofs.Tryz
open Go Go.Pm Go.Bt Go.RowKit
open Go.Pm.V(u)
theorem WN(n:Nat)(hn:n<2^60):IntKind.i64.wrap ((IntKind.u64.wrap (n:Int)).fdiv (2^min 1 IntKind.u64.bits))=((n / 2:Nat):Int):=by
 have h1:IntKind.u64.wrap (n:Int)=n:=by
  simp only[IntKind.wrap,IntKind.bits,IntKind.signed];simp only[gV,aD,if_false];omega
 have h2:(2:Int)^min 1 IntKind.u64.bits=2:=by decide
 rw[h1,h2,fm _ (by decide)];rw[show(n:Int) / 2=((n / 2:Nat):Int)by omega,ll (by omega)]
theorem V6{S:ag}{K:Exit→St→Prop}(f:Nat)(caps:List V)(n m:Nat)(hn:n<2^40)(hm:m≤n)(fD:PO prog f=true)
  (hf:∀ k:Nat,k<n→PC prog f (.i .i64 k::caps) S (fun r σ'=>r=.b (decide (m≤k))∧σ'=S)):∀ (N i j:Nat),j - i≤N→i≤m→m≤j→j≤n →
  (∀ j0 j1 j2 j3 j4 j6 j7 j8 j9 cT cS cX cR cN cM cL cW df dn dx dy dD dI dH dG,K (.exit 0) ⟨[j0,j1,j2,j3,j4,.i .i64 m,j6,j7,j8,j9,cT,cS,cX,cR,cN,cM,cL,cW,df,dn,dx,dy,dD,dI,dH,dG],S⟩) →
  fO S.length prog C6 K (N+1) ⟨[u,.fn f caps,u,u,u,.i .i64 i,.i .i64 j,u,u,u,u,u,u,u,u,u,u,u,u,u,u,u,u,u,u,u],S⟩:=by
 intro N
 induction N with
 | zero =>
  intro i j h1 h2 h3 h4 h5;obtain rfl:i=m:=by omega
  have hd:decide ((i:Int)<(j:Int))=false:=by simp;omega
  refine ax fun R hR=>?_;simp only[C6,hd,VV,seval];exact h5 ..
 | succ N ih =>
  intro i j h1 h2 h3 h4 h5
  by_cases Lu:i<j
  ·have hd:decide ((i:Int)<(j:Int))=true:=by simp;omega
   have e1:IntKind.i64.wrap ((i:Int)+(j:Int))=((i+j:Nat):Int):=by
    rw[show(i:Int)+(j:Int)=((i+j:Nat):Int)by omega,ll (by omega)]
   refine ax fun R hR=>?_;have e2:=WN (i+j) (by omega)
   have e3:IntKind.i64.wrap ((((i+j) / 2:Nat):Int)+1)=(((i+j) / 2+1:Nat):Int):=by
    rw[aV (by omega)]
   simp only[C6,hd,e1,e2,VV,Int.reduceToNat,reduceIte,reduceCtorEq];refine⟨by decide,?_⟩;refine Ud rfl fD (hf ((i+j) / 2) (by omega)) rfl ?_;simp only[e3,VV,seval];refine⟨fun h=>?_,fun h=>?_⟩
   ·have h:¬ m≤(i+j) / 2:=by simpa using h
    refine hR _ (aW ?_ (ih ((i+j) / 2+1) j (by omega) (by omega) h3 h4 h5))
    repeat' constructor
   ·have h:m≤(i+j) / 2:=by simpa using h
    refine hR _ (aW ?_ (ih i ((i+j) / 2) (by omega) h2 h (by omega) h5))
    repeat' constructor
  ·obtain rfl:i=m:=by omega
   have hd:decide ((i:Int)<(j:Int))=false:=by simp;omega
   refine ax fun R hR=>?_;simp only[C6,hd,VV,seval];exact h5 ..
theorem FB{S:ag}(f:Nat)(caps:List V)(n m:Nat)(hn:n<2^40)(hm:m≤n)(fD:PO prog f=true)
  (hf:∀ k:Nat,k<n→PC prog f (.i .i64 k::caps) S (fun r σ'=>r=.b (decide (m≤k))∧σ'=S)):PC prog 112 [.i .i64 n,.fn f caps] S (fun r σ'=>r=.i .i64 m∧σ'=S):=by
 refine PC.intro func112 akH fun aQ cz=>aj ?_;simp only[adV,SS,seval];simp only[VV,seval];refine bA.wk (Wk.ej ?_) (bA.pd (n+1) (V6 f caps n m hn hm fD hf n 0 n (by omega) (by omega) hm (aB _) ?_))
 ·repeat' constructor
 intros;simp only[VV,seval];exact aO (.inr rfl) rfl ⟨rfl,rfl⟩
theorem jT(x:aJ):x.cells.length=13:=by simp[aJ.cells,bc.cells,En.cells]
theorem oe(x:aJ):x.cells.take 13=x.cells:=by rw[← jT x,Uv]
theorem Py(S:ag)(a b:Nat)(l:List aJ)(x:aJ)(ha:S[a]?=some (.box 33 [.sl 13 (l.map aJ.cells)]))(hb:S[b]?=some (.box 29 x.cells))(k:Nat)(y:aJ)(hk:l[k]?=some y):
  PC prog 113 [.i .i64 k,.ptr a 0,.ptr b 0] S (fun r σ'=>r=.b (decide (0≤da y x))∧σ'=S):=by
 refine PC.intro func113 afq fun aQ cz=>aj ?_;have tJ:k<l.length:=(ae.1 hk).1;have dY:(l.map aJ.cells).getD k []=y.cells:=by simp[List.getD_eq_getElem?_getD,hk]
 simp only[YP,SS,seval];simp only[ha,hb,dY,List.length_map,VV,seval];refine⟨⟨by omega,by omega⟩,by rw[jT];exact aB _,by rw[jT];exact aB _,?_⟩;refine ai (yR y x _) (by simp only[oe,VV,seval]) ?_;simp only[VV,seval];exact aO (.inr rfl) rfl ⟨rfl,rfl⟩
theorem Ai(l:List aJ)(x:aJ)(m:Nat)(hl:l.length<2^39)(hm:m≤l.length)(h1:∀ (k:Nat) (y:aJ),l[k]?=some y→(0≤da y x↔m≤k))(σ:ag):
  PC prog 61 [.sl 13 (l.map aJ.cells),.agg x.cells] σ (fun r σ'=>r=.iK [.i .i64 m,.b (match l[m]? with | some y=>da y x==0 | none=>false)]∧σ'=σ):=by
 refine PC.intro func61 c61 fun aQ cz=>aj ?_;simp only[p61,SS,seval];simp only[aJ.cells,bc.cells,En.cells,List.length_map,VV,seval];refine ai (FB 113 [.ptr σ.length 0,.ptr (σ.length+1) 0] l.length m (by omega) hm (by kernel_rfl) (fun k hk=>?_)) rfl ?_
 ·obtain⟨y,hy⟩:∃ y,l[k]?=some y:=⟨_,aw hk⟩;refine(Py _ σ.length (σ.length+1) l x (by simp only[VV,seval]) (by simp only[aJ.cells,bc.cells,En.cells,VV,seval]) k y hy).mono ?_;rintro r σ' ⟨rfl,rfl⟩;refine⟨?_,rfl⟩;simp only[decide_eq_decide.2 (h1 k y hy)]
 ·simp only[List.length_map,VV,seval];have e1:((decide ((m:Int)<(l.length:Int))==true)=true)↔m<l.length:=by simp
  cases hy:l[m]? with
  | some y =>
   have E1:m<l.length:=(ae.1 hy).1;have dY:(l.map aJ.cells).getD m []=y.cells:=by simp[List.getD_eq_getElem?_getD,hy]
   have hd:decide ((m:Int)<(l.length:Int))=true:=by simp;omega
   rw[dY,oe];refine⟨fun _=>⟨by omega,by omega⟩,.agg y.cells,fun _=>⟨rfl,by rw[jT];exact aB _⟩,?_⟩;refine bg (c:=true) (by simp only[hd,VV,seval]<;>rfl) (fun _=>yR y x _) (by simp only[aJ.cells,bc.cells,En.cells,VV,seval]) ?_;simp only[hd,VV,seval];exact aG aQ (.inr rfl) (by simp only[RS,seval];rfl) (by simp only[LW]) ⟨rfl,rfl⟩
  | none =>
   have E1:¬ m<l.length:=by simpa using hy
   have hd:decide ((m:Int)<(l.length:Int))=false:=by simp;omega
   refine⟨fun h=>absurd (e1.1 h) E1,u,fun h=>absurd (e1.1 h) E1,?_⟩;refine bg (c:=false) (v:=.i .i64 0) (by simp only[hd,VV,seval]<;>rfl) (fun h=>by simp at h) rfl ?_;simp only[hd,VV,seval];exact aG aQ (.inr rfl) (by simp only[RS,seval];rfl) (by simp only[LW]) ⟨rfl,rfl⟩
set_option maxHeartbeats 1000000 in
theorem SG{σ:ag}{K:Exit→St→Prop}{bx:Ob}(l:List aJ)(aQ:bP (σ++[bx]))(hlen:l.length<2^39):∀ (rest pre:List aJ) (ks:List (Int×Int)),l=pre++rest →
  (∀ j0 j1 j2 j4 j5 j6 j7 j8 j9 cT cS cX cR cN cM cL cW df dn dx dy dD dI dH dG dX ez eA eH eW fg fi ft fw fG fM fL fK fX gi gF gR gQ il ix iV iU iT iS iR jo jn jm,K (.exit 0) ⟨[j0,j1,j2,.mp (σ.length+1),j4,j5,j6,j7,j8,j9,cT,cS,cX,cR,cN,cM,cL,cW,df,dn,dx,dy,dD,dI,dH,dG,dX,ez,eA,eH,eW,fg,fi,ft,fw,fG,fM,fL,fK,fX,gi,gF,gR,gQ,il,ix,iV,iU,iT,iS,iR,jo,jn,jm],σ++[bx,.map 97 96 (oY (rest.foldl (fun ks o=>BY ks (kG o)) ks))]⟩) →
  fO σ.length prog J1 K (rest.length+1) ⟨[u,u,u,.mp (σ.length+1),u,u,u,u,u,u,u,u,u,u,.sl 13 (l.map aJ.cells),.i .i64 l.length,.i .i64 pre.length,u,u,u,u,u,u,u,u,u,u,u,u,u,u,u,u,u,u,u,u,u,u,u,u,u,u,u,u,u,u,u,u,u,u,u,u,u],σ++[bx,.map 97 96 (oY ks)]⟩:=by
 intro rest
 induction rest with
 | nil =>
  intro pre ks he h1;have he:l=pre:=by simpa using he
  subst he;refine ax fun R hR=>?_;simp only[J1,VV,seval];exact⟨fun h=>by simp at h,fun _=>h1 ..⟩
 | cons x rest ih =>
  intro pre ks he h1;subst he
  have hw:IntKind.i64.wrap ((pre.length:Int)+1)=(((pre++[x]).length:Nat):Int):=by
   rw[aV (by simp at hlen;omega)];simp
  have next:∀ {loc:ag} {R:St→Prop} {fr:List V},(∀ st',fO σ.length prog J1 K (rest.length+1) st'→R st') →
    pH fr [u,u,u,.mp (σ.length+1),u,u,u,u,u,u,u,u,u,u,.sl 13 ((pre++x::rest).map aJ.cells),.i .i64 (pre++x::rest).length,.i .i64 (pre++[x]).length,u,u,u,u,u,u,u,u,u,u,u,u,u,u,u,u,u,u,u,u,u,u,u,u,u,u,u,u,u,u,u,u,u,u,u,u,u]→R ⟨fr,σ++(bx::.map 97 96 (oY (BY ks (kG x)))::loc)⟩:=by
   intro loc R fr hR hc;refine hR _ (cH [_,_] loc ?_ hc ?_ (ih (pre++[x]) (BY ks (kG x)) (by simp) h1))
   ·have:=bU aQ (l:=[.map 97 96 (oY (BY ks (kG x)))]) (by simp);simpa using this
   ·simp only[LW,ab,ah,aK];omega
  refine ax fun R hR=>?_;simp only[J1,aJ.cells,bc.cells,En.cells,VV,seval];refine⟨fun _=>⟨by simp;omega,?_⟩,fun h=>by simp at h<;>omega⟩;have hpv:nk [] (.agg [])=.agg []:=rfl;rcases TV ks (kG x)with⟨_,h2,h3⟩ | ⟨_,i,h2,h3⟩
  ·simp only[kV,kG]at h2 h3;simp only[h2,h3,hpv,V.BQ,hw,VV,seval];refine next hR ?_
   repeat' constructor
  ·simp only[kV,kG]at h2 h3;simp only[h2,h3,hpv,V.BQ,hw,VV,seval];refine next hR ?_
   repeat' constructor
def gB(vs:List Int):List V:=vs.map fun n=>.i .i64 n
theorem Gl(m:Nat)(vs:List Int):gM m (gB vs):=eX.2 fun i x hx=>by
 simp only[gB,aZ,ar]at hx;obtain⟨n,_,rfl⟩:=hx;exact .i _ _
set_option maxHeartbeats 1000000 in
theorem SF{σ:ag}{K:Exit→St→Prop}{bx:Ob}(aQ:bP (σ++[bx]))(ks:List (Int×Int))(o:Nat)(ho:o<8)(c:Nat)(hc:c<2^40)(h1:∀ j:Nat,j<c→((o:Int),(j:Int)+1)∈ks)(h2:((o:Int),(c:Int)+1) ∉ ks):
  ∀ (N j:Nat) (vs:List Int),j+N=c→vs.length=8→vs[o]?=some (j:Int) →
  (∀ vs' loc,vs'.length=8→vs'[o]?=some (c:Int)→(∀ q,q≠o→vs'[q]?=vs[q]?)→(∀ j0 j1 j2 j4 j5 j7 j8 j9 cT cS cX cR cN cM cL cW df dn dx dy dD dI dH dG dX ez eA eH fg fi ft fw fG fM fL fK fX gi gF gR gQ il ix iV iU iT iS iR jo jn jm,K (.exit 4) ⟨[j0,j1,j2,.mp (σ.length+1),j4,j5,.ptr (σ.length+2) 0,j7,j8,j9,cT,cS,cX,cR,cN,cM,cL,cW,df,dn,dx,dy,dD,dI,dH,dG,dX,ez,eA,eH,.i .i64 o,fg,fi,ft,fw,fG,fM,fL,fK,fX,gi,gF,gR,gQ,il,ix,iV,iU,iT,iS,iR,jo,jn,jm],σ++(bx::.map 97 96 (oY ks)::.box 98 (gB vs')::loc)⟩)) →
  fO σ.length prog J0 K (N+1) ⟨[u,u,u,.mp (σ.length+1),u,u,.ptr (σ.length+2) 0,.i .i64 o,u,u,u,u,u,u,u,u,u,u,u,u,u,u,u,u,u,u,u,u,u,u,.i .i64 o,u,u,u,u,u,u,u,u,u,u,u,u,u,u,u,u,u,u,u,u,u,u,u],σ++[bx,.map 97 96 (oY ks),.box 98 (gB vs)]⟩:=by
 intro N
 induction N with
 | zero =>
  intro j vs hj hv ha h3;obtain rfl:j=c:=by omega
  have dY:(gB vs)[o]?=some (.i .i64 (j:Int)):=by simp[gB,ha]
  have hf:=DQ (n:=0) h2;simp only[kV]at hf;have hw:IntKind.i64.wrap ((j:Int)+1)=(j:Int)+1:=IntWalk.i64_in _ (by omega);refine ax fun R hR=>?_;simp only[J0,hw,dY,qC,iD,hf,VV,seval];exact⟨⟨by omega,by omega⟩,h3 vs [_] hv ha (fun _ _=>rfl) ..⟩
 | succ N ih =>
  intro j vs hj hv ha h3;have dY:(gB vs)[o]?=some (.i .i64 (j:Int)):=by simp[gB,ha]
  obtain⟨i,hf,_⟩:=DP (n:=0) (h1 j (by omega));simp only[kV]at hf;have hw:IntKind.i64.wrap ((j:Int)+1)=(j:Int)+1:=IntWalk.i64_in _ (by omega);refine ax fun R hR=>?_;simp only[J0,hw,dY,qC,iD,hf,VV,seval];refine⟨⟨by omega,by omega⟩,⟨by omega,by omega⟩,⟨by omega,by omega⟩,by simp[gB];omega,?_⟩
  have e0:List.take o (gB vs)++.i .i64 ((j:Int)+1)::List.drop (o+1) (gB vs)=gB (vs.set o ((j+1:Nat):Int)):=by
   have:gB (vs.set o ((j+1:Nat):Int))=(gB vs).set o (.i .i64 ((j:Int)+1)):=by simp[gB]
   rw[this,List.set_eq_take_append_cons_drop,if_pos (by simp[gB];omega)]
  rw[e0];refine hR _ (cH [_,_,_] [_] ?_ ?_ ?_ (ih (j+1) (vs.set o ((j+1:Nat):Int)) (by omega) (by simpa using hv) (by simp[hv,ho]) (fun vs' loc q1 q2 q3=>h3 vs' loc q1 q2 (fun q hq=>by rw[q3 q hq];simp[IS hq]))))
  ·have:=bU aQ (l:=[.map 97 96 (oY ks),.box 98 (gB (vs.set o ((j+1:Nat):Int)))]) (by simp[Gl]);simpa using this
  ·repeat' constructor
  ·simp only[LW,ab,ah,aK];omega
set_option maxHeartbeats 1000000 in
theorem SE{σ:ag}{K:Exit→St→Prop}{bx:Ob}(aQ:bP (σ++[bx]))(ks:List (Int×Int))(c:Nat→Nat)(hc:∀ o:Nat,o<8→c o<2^40)(h1:∀ o:Nat,o<8→∀ j:Nat,j<c o→((o:Int),(j:Int)+1)∈ks)(h2:∀ o:Nat,o<8→((o:Int),(c o:Int)+1) ∉ ks):
  ∀ (N o:Nat) (vs:List Int),o+N=8→vs.length=8→(∀ q,q<o→vs[q]?=some (c q:Int))→(∀ q,o≤q→q<8→vs[q]?=some 0) →
  ((∀ j0 j1 j2 j3 j4 j5 j7 j8 j9 cT cS cX cR cN cM cL cW df dn dx dy dD dI dH dG dX ez eA eH eW fg fi ft fw fG fM fL fK fX gi gF gR gQ il ix iV iU iT iS iR jo jn jm,K (.exit 2) ⟨[j0,j1,j2,j3,j4,j5,.ptr (σ.length+2) 0,j7,j8,j9,cT,cS,cX,cR,cN,cM,cL,cW,df,dn,dx,dy,dD,dI,dH,dG,dX,ez,eA,eH,eW,fg,fi,ft,fw,fG,fM,fL,fK,fX,gi,gF,gR,gQ,il,ix,iV,iU,iT,iS,iR,jo,jn,jm],σ++[bx,.map 97 96 (oY ks),.box 98 (gB ((List.range 8).map fun q=>(c q:Int)))]⟩)) →
  fO σ.length prog N6 K (N+1) ⟨[u,u,u,.mp (σ.length+1),u,u,.ptr (σ.length+2) 0,u,u,u,u,u,u,u,u,u,u,u,u,u,u,u,u,u,u,u,u,u,u,u,.i .i64 o,u,u,u,u,u,u,u,u,u,u,u,u,u,u,u,u,u,u,u,u,u,u,u],σ++[bx,.map 97 96 (oY ks),.box 98 (gB vs)]⟩:=by
 intro N
 induction N with
 | zero =>
  intro o vs ho hv ha hz h3;obtain rfl:o=8:=by omega
  have e:vs=(List.range 8).map fun q=>(c q:Int):=by
   apply kg;intro q
   by_cases hq:q<8
   ·rw[ha q hq];simp[hq]
   ·rw[bR (by omega),bR (by simp;omega)]
  rw[e];refine ax fun R hR=>?_;simp only[N6,VV,seval];exact⟨fun h=>by simp at h,fun _=>h3 ..⟩
 | succ N ih =>
  intro o vs ho hv ha hz h3;have hd:decide ((o:Int)<8)=true:=by simp;omega
  have hw:IntKind.i64.wrap ((o:Int)+1)=((o+1:Nat):Int):=aV (by omega);refine ax fun R hR=>?_;simp only[N6,hd,VV,seval];refine bA.wk (Wk.ej ?_) (bA.pd (c o+1) (SF aQ ks o (by omega) (c o) (hc o (by omega)) (h1 o (by omega)) (h2 o (by omega)) (c o) 0 vs (by omega) hv (hz o (aB _) (by omega)) ?_))
  ·repeat' constructor
  intro vs' loc q1 q2 q3;intros;simp only[hw,VV,seval];refine hR _ (cH [_,_,_] loc ?_ ?_ ?_ (ih (o+1) vs' (by omega) q1 (fun q hq=>?_) (fun q hq hq8=>?_) h3))
  ·have:=bU aQ (l:=[.map 97 96 (oY ks),.box 98 (gB vs')]) (by simp[Gl]);simpa using this
  ·repeat' constructor
  ·simp only[LW,ab,ah,aK];omega
  ·by_cases e:q=o
   ·subst e;exact q2
   ·rw[q3 q e];exact ha q (by omega)
  ·rw[q3 q (by omega)];exact hz q (by omega) hq8
structure jR (l:List aJ) (c:Nat→Nat):Prop where
 lt:∀ o:Nat,o<8→c o<2^40
 has:∀ o:Nat,o<8→∀ j:Nat,j<c o→∃ x∈l,kG x=((o:Int),(j:Int)+1)
 no:∀ o:Nat,o<8→∀ x∈l,kG x≠((o:Int),(c o:Int)+1)
def gj(c:Nat→Nat):List Int:=(List.range 8).map fun q=>(c q:Int)
set_option maxHeartbeats 1000000 in
theorem o9(o:cc)(ho:o.small)(hd:o.down=false)(c:Nat→Nat)(hc:jR o.ops c)(σ:ag):PC prog 23 [.agg o.cells] σ (fun r σ'=>r=.sl 1 ((nc (gj c) []).map bj)∧σ'=σ):=by
 refine PC.intro func23 c23 fun aQ cz=>?_;simp only[p23,SS,seval];refine bA.cutAt (.more (.more (.more (.more (.more (.one _ _)))))) fun R hR=>?_;simp only[cc.cells,hd,List.length_map,VV,seval];have qG:bP (σ++[.box 36 [.i .i64 o.number,.i .i64 o.clock,.sl 13 (o.ops.map aJ.cells),.sl 1 (al o.log),.i .i64 o.synced,.b false]]):=bU aQ (by simp only[bV,bD,false_imp_iff,implies_true,LW]);refine bA.wk (Wk.ej ?_) (bA.pd (o.ops.length+1) (SG o.ops qG (by have:=ho.len;omega) o.ops [] [] rfl ?_))
 ·repeat' constructor
 intros;simp only[VV,seval];have hk:=fun q=>SK o.ops [] q;generalize Tl:o.ops.foldl (fun ks o=>BY ks (kG o)) []=ks at hk ⊢;refine bA.wk (Wk.ej ?_) (bA.pd (8+1) (SE qG ks c hc.lt (fun q hq j hj=>?_) (fun q hq h=>?_) 8 0 [0,0,0,0,0,0,0,0] rfl rfl (fun q hq=>by omega) (fun q _ hq=>?_) ?_))
 ·repeat' constructor
 ·obtain⟨x,h1,h2⟩:=hc.has q hq j hj;exact(hk _).2 (.inr ⟨x,h1,h2⟩)
 ·rcases(hk _).1 h with h | ⟨x,h1,h2⟩
  ·simp at h
  ·exact hc.no q hq x h1 h2
 ·rcases q with _ | _ | _ | _ | _ | _ | _ | _ | q<;>first | rfl | omega
 intros;simp only[VV,seval];refine hR _ (bA.wk ((Wk.ej (ys:=[u,u,u,u,u,u,.ptr (σ.length+2) 0,u,u,u,u,u,u,u,u,u,u,u,u,u,u,u,u,u,u,u,u,u,u,u,u,u,u,u,u,u,u,u,u,u,u,u,u,u,u,u,u,u,u,u,u,u,u,u]) (by repeat' constructor)).trans (Wk.afr (T:=98) (cs:=gB (gj c)) (ys:=[u,u,u,u,u,u,.ep 8 [gB (gj c)] 0 0,u,u,u,u,u,u,u,u,u,u,u,u,u,u,u,u,u,u,u,u,u,u,u,u,u,u,u,u,u,u,u,u,u,u,u,u,u,u,u,u,u,u,u,u,u,u,u]) 2 (aB _) aQ rfl ?_ ?_)) (aj ?_))
 ·intro x hx;simp only[gB,bK]at hx;obtain⟨n,_,rfl⟩:=hx;rfl
 ·have e:(gB (gj c)).length=8:=by simp[gB,gj]
  have hb:=Bv.ptr (n:=σ.length) (k:=2) (cs:=gB (gj c)) 0;rw[e]at hb
  repeat first | exact .nil | refine .cons (.forget _) ?_ | refine .cons hb ?_
 clear hR R;have e8:(gB (gj c)).length=8:=by simp[gB,gj]
 have e9:(gB (gj c)).map (fun x=>[x])=(gj c).map bj:=by simp[gB,bj]
 simp only[e8,e9,VV,seval];refine ai (I6 (gj c) _) rfl ?_;simp only[VV,seval];exact aO (.inr rfl) rfl ⟨rfl,rfl⟩
end Go.Proofs.Tryz
namespace Go.Proofs.Tryz
open Go Go.Pm Go.Bt
open Go.Pm.V(u)
def nq(ls:List (List Int)):Int:=ls.foldl (fun a l=>IntKind.i64.wrap (a+l.length)) 0
def rQ(l:List Int):List V:=[.sl 1 (l.map bj)]
theorem aei{n:Nat}{σ:ag}{K:Exit→St→Prop}(ls:List (List Int))(hlen:ls.length<2^63):∀ (rest pre:List (List Int)) (a:Int),ls=pre++rest →
  (∀ j0 j1 j2 j4 j5 j6 j7 j8 j9 cT cS cX cR cN cM cL cW df,K (.exit 0) ⟨[j0,j1,j2,.i .i64 (rest.foldl (fun a l=>IntKind.i64.wrap (a+l.length)) a),j4,j5,j6,j7,j8,j9,cT,cS,cX,cR,cN,cM,cL,cW,df],σ⟩) →
  fO n prog Va K (rest.length+1) ⟨[u,u,u,.i .i64 a,u,u,.sl 1 (ls.map rQ),.i .i64 ls.length,.i .i64 pre.length,u,u,u,u,u,u,u,u,u,u],σ⟩:=by
 intro rest
 induction rest with
 | nil =>
  intro pre a he h1;have he:ls=pre:=by simpa using he
  subst he;refine ax fun R hR=>?_;simp only[Va,VV,seval];exact⟨fun h=>by simp at h,fun _=>h1 ..⟩
 | cons x rest ih =>
  intro pre a he h1;subst he
  have hw:IntKind.i64.wrap ((pre.length:Int)+1)=(((pre++[x]).length:Nat):Int):=by
   rw[aV (by simp at hlen;omega)];simp
  have dY:fe (List.map rQ (pre++x::rest)) pre.length 0=some (.sl 1 (x.map bj)):=lU;refine ax fun R hR=>?_;simp only[Va,an,dY,hw,List.length_map,VV,seval];refine⟨fun _=>⟨by simp;omega,?_⟩,fun h=>by simp at h<;>omega⟩;refine hR _ (aW ?_ (ih (pre++[x]) (IntKind.i64.wrap (a+x.length)) (by simp) h1))
  repeat' constructor
theorem vU(ls:List (List Int))(σ:ag):PC prog 9 [.sl 1 (ls.map rQ)] σ (fun r σ'=>r=.b (decide (160<nq ls))∧σ'=σ):=by
 refine PC.intro func9 c9 fun aQ cz=>aj ?_;have hlen:=lD (cz 0 _ rfl).1;rw[List.length_map]at hlen;simp only[p9,SS,seval];simp only[List.length_map,VV,seval];refine bA.aW ?_ (ls.length+1) (aei ls hlen ls [] 0 rfl ?_)
 ·repeat' constructor
 ·intros;simp only[VV,seval];exact aO (.inr rfl) rfl ⟨rfl,rfl⟩
end Go.Proofs.Tryz

/- A part of the proof that for every input the law NetworkLimits returns true and leaves its argument as it was. -/
import Derived.Test.YtgihcpilgfbggaaGreatDoorL15
import Derived.Test.YtgihcpilgfbggaaGreatDoorL16
import Derived.Test.YtgihcpilgfbggaaGreatDoorL26
set_option linter.all false

namespace Go.Proofs.Tryz
open Go Go.Pm Go.Bt
open Go.Pm.V(u)
theorem A5:Ti prog 31 3 32:=kY (by kernel_rfl)
theorem KI:Ti prog 5 1 1:=kY (by kernel_rfl)
theorem qQ{σ:ah}{K:Exit→St→Prop}(its:List It)(aU:bG σ)(hlen:its.length<2^40):
  ∀ (n:Nat) (rest pre out:List It),its=pre++rest→rest.length≤n→bp rest<2^40→out.length≤pre.length →
  (∀ j0 j1 j2 j4 j5 j6 j7 j8 j9 cC cH cG cF cB cE cD cI cQ db de dh dm dv du dt dN dR dU dX ej eD eL eQ eP fb fi fh fg fw fG fF fK fW gj gi gB gA gz gy gx gY gW gU iq iD,K (.exit 0) ⟨[j0,j1,j2,.own σ.length (out++il n rest).length,j4,j5,j6,j7,j8,j9,cC,cH,cG,cF,cB,cE,cD,cI,cQ,db,de,dh,dm,dv,du,dt,dN,dR,dU,dX,ej,eD,eL,eQ,eP,fb,fi,fh,fg,fw,fG,fF,fK,fW,gj,gi,gB,gA,gz,gy,gx,gY,gW,gU,iq,iD],σ++[.row 31 3 32 (out++il n rest).length false ((out++il n rest).map It.cells)]⟩) →
  fp σ.length prog BN K (n+1) ⟨[.sl 3 (its.map It.cells),u,u,.own σ.length out.length,.i .i64 pre.length,u,u,u,u,u,u,u,u,u,u,u,u,u,u,u,u,u,u,u,u,u,u,u,u,u,u,u,u,u,u,u,u,u,u,u,u,u,u,u,u,u,u,u,u,u,u,u,u,u,u,u],σ++[.row 31 3 32 out.length false (out.map It.cells)]⟩
 | n,[],pre,out,he,hn,ht,ho,h1=>by
  have he:its=pre:=by simpa using he
  subst he;have e:out++il n []=out:=by cases n<;>simp[il]
  rw[e]at h1;refine ay fun R hR=>?_;simp only[BN,W,seval];exact⟨fun h=>by simp at h,fun _=>h1 ..⟩
 | 0,x::rest,pre,out,he,hn,ht,ho,h1=>by simp at hn
 | n+1,x::rest,pre,out,he,hn,ht,ho,h1=>by
  subst he;refine ay fun R hR=>?_;simp only[BN,It.cells,W,seval];refine⟨fun _=>⟨by simp;omega,fun hk=>?_,fun hk=>?_⟩,fun h=>by simp at h;omega⟩
  ·simp at hk;have e:out++il (n+1) (x::rest)=(out++[x])++il n rest:=by simp[il,hk]
   rw[e]at h1;have hr:out.map It.cells++[[.i .i64 x.kind,.s x.text,.i .i64 x.id]]=(out++[x]).map It.cells:=by simp[It.cells]
   have hl:out.length+1=(out++[x]).length:=by simp
   rw[hr,hl];simp only[bp]at ht;refine⟨by simp;omega,?_,?_⟩
   ·simp at hlen;simp[maxLen];omega
   ·refine hR _ (bb ?_ (qQ _ aU hlen n rest (pre++[x]) (out++[x]) (by simp) (by simp at hn;omega) (by omega) (by simp;omega) h1));rw[aX (by simp at hlen;omega)];simp only[List.length_append,ag,ai]
    repeat' constructor
  ·simp at hk;obtain⟨run,dx⟩:=rB (x::rest);have X3:=nJ (r:=rest) hk;have htt:=sD (x::rest)
   have Fq:(pre++x::rest).length - (runText (x::rest)).2.length=(pre++run).length:=by
    have:=congrArg List.length dx;simp only[List.length_append]at this ⊢;omega
   refine bX.wk ((Wk.mE (σ:=σ) [_] (k:=5) KI rfl).trans (Wk.ic ?_)) (bX.ml ((x::rest).length+1) (LH _ out.length (out.map It.cells) aU hlen (x::rest) pre [] 0 rfl (by simp;omega) ?_))
   ·simp only[W,seval]
    repeat' constructor
   ·intros;rw[Fq,aG];simp only[bO,jz,W,seval];have W2:pre++x::rest=(pre++run)++(runText (x::rest)).2:=by rw[List.append_assoc,← dx]
    have xR:1≤run.length:=by
     have:=congrArg List.length dx;simp only[List.length_append,ag]at this;omega
    refine⟨fun h=>⟨?_,?_⟩,fun h=>?_⟩
    ·simp at hlen;simp[maxLen];omega
    ·simp at h
     have e:out++il (n+1) (x::rest)=(out++[⟨1,(runText (x::rest)).1,0⟩])++il n (runText (x::rest)).2:=by
      have:¬ (runText (x::rest)).1.length=0:=by omega
      simp[il,hk,this]
     rw[e]at h1;have hr:out.map It.cells++[[.i .i64 1,.s (runText (x::rest)).1,.i .i64 0]]=(out++[(⟨1,(runText (x::rest)).1,0⟩:It)]).map It.cells:=by simp[It.cells]
     have hl:out.length+1=(out++[(⟨1,(runText (x::rest)).1,0⟩:It)]).length:=by simp
     rw[hr,hl];have pA:bG (σ++[.row 31 3 32 (out++[(⟨1,(runText (x::rest)).1,0⟩:It)]).length false ((out++[(⟨1,(runText (x::rest)).1,0⟩:It)]).map It.cells)]):=b9 aU (by simp);refine hR _ (cy [_] [_] pA ?_ ?_ (qQ _ aU hlen n (runText (x::rest)).2 (pre++run) (out++[⟨1,(runText (x::rest)).1,0⟩]) W2 (by simp at hn;omega) (by omega) (by simp;omega) h1))
     ·repeat' constructor
     ·simp only[LW,ag,ai,aI];omega
    ·simp at h
     have e:out++il (n+1) (x::rest)=out++il n (runText (x::rest)).2:=by
      simp[il,hk,h]
     rw[e]at h1;have pA:bG (σ++[.row 31 3 32 out.length false (out.map It.cells)]):=b9 aU (by simp);refine hR _ (cy [_] [_] pA ?_ ?_ (qQ _ aU hlen n (runText (x::rest)).2 (pre++run) out W2 (by simp at hn;omega) (by omega) (by simp;omega) h1))
     ·repeat' constructor
     ·simp only[LW,ag,ai,aI];omega
theorem B9(its:List It)(hlen:its.length<2^40)(ht:bp its<2^40)(σ:ah):PC prog 159 [.sl 3 (its.map It.cells)] σ (fun r σ'=>r=.sl 3 ((normalize its).map It.cells)∧σ'=σ):=by
 refine PC.intro func159 aao fun aU da=>al ?_;simp only[Vy,SS,seval];simp only[W,seval];refine bX.wk ((Wk.iZ (k:=3) A5 rfl).trans (Wk.ic ?_)) (bX.ml (its.length+1) (qQ its aU hlen its.length its [] [] rfl (aw _) ht (aw _) ?_))
 ·simp only[W,seval]
  repeat' constructor
 ·intros;simp only[W,seval];refine iy 0 aU (.inr rfl) rfl rfl ?_ ?_
  ·simp[fz,kF,gh,qc]
  ·simp[fz,kF,one,normalize]
theorem An{σ:ah}{K:Exit→St→Prop}(F:V)(fr to:List Int)(PA:fr.length<2^63):
  ∀ (i:Nat) (l:List (Int×Int)),i≤min fr.length to.length→(∀ x,fP x l=DA (fr.drop i) (to.drop i) x) →
  (∀ l,(∀ x,fP x l=DA fr to x)→(∀ j1 j2 j3 j4 j5 j6 j8 j9 cC cH cG cF cB cE cD cI cQ db de dh dm dv du dt dN dR dU dX ej eD eL eQ eP fb fi fh fg fw fG fF fK fW gj gi gB gA gz gy gx gY gW gU iq iD iN iM iL iK,K (.exit 0) ⟨[F,j1,j2,j3,j4,j5,j6,.mp σ.length,j8,j9,cC,cH,cG,cF,cB,cE,cD,cI,cQ,db,de,dh,dm,dv,du,dt,dN,dR,dU,dX,ej,eD,eL,eQ,eP,fb,fi,fh,fg,fw,fG,fF,fK,fW,gj,gi,gB,gA,gz,gy,gx,gY,gW,gU,iq,iD,iN,iM,iL,iK],σ++[.map 3 3 (mI l)]⟩)) →
  fp σ.length prog BZ K (i+1) ⟨[F,.sl 1 (fr.map bW),.sl 1 (to.map bW),u,u,u,u,.mp σ.length,.i .i64 ((i:Int) - 1),u,u,u,u,u,u,u,u,u,u,u,u,u,u,u,u,u,u,u,u,u,u,u,u,u,u,u,u,u,u,u,u,u,u,u,u,u,u,u,u,u,u,u,u,u,u,u,u,u,u,u],σ++[.map 3 3 (mI l)]⟩
 | 0,l,hi,hl,h1=>by
  refine ay fun R hR=>?_;simp only[BZ,W,seval];exact⟨fun h=>by simp at h,fun _=>h1 l (by simpa using hl) ..⟩
 | i+1,l,hi,hl,h1=>by
  have W3:i<fr.length:=by omega
  have zo:i<to.length:=by omega
  have e0:((i+1:Nat):Int) - 1=(i:Nat):=by omega
  have hw:IntKind.i64.wrap ((i:Int) - 1)=(i:Int) - 1:=IntWalk.i64_in _ (by omega);have Mq:∀ x,fP x (je l (fr.getD i 0) (to.getD i 0))=DA (fr.drop i) (to.drop i) x:=fun x=>by rw[oy,Dz W3 zo,hl x]
  rw[e0];refine ay fun R hR=>?_;simp only[BZ,aH,oD W3,oD zo,W,seval];rcases vt l (fr.getD i 0)with⟨_,h3,h4⟩ | ⟨k,b,_,h3,h4⟩
  all_goals
   simp only[h3,hw,kz,h4,W,seval];refine⟨fun _=>⟨by simp;omega,by simp;omega,by simp[V.mG,V.vS,V.pure],?_⟩,fun h=>by simp at h<;>omega⟩;refine hR _ (bb ?_ (An F fr to PA i _ (by omega) Mq h1))
   repeat' constructor
theorem Jy{σ:ah}{K:Exit→St→Prop}(its:List It)(fr to:List Int)(l:List (Int×Int))(aU:bG σ)(hlen:its.length<2^40)(hl:∀ x,fP x l=DA fr to x):∀ (rest pre:List It) (out:List It),its=pre++rest→out.length≤pre.length →
  (∀ j0 j1 j2 j3 j4 j5 j6 j7 j8 cC cH cG cF cB cE cD cI cQ db de dh dm dv du dt dN dR dU dX ej eD eL eQ eP fb fi fh fg fw fG fF fK fW gj gi gB gA gz gy gx gY gW gU iq iD iN iM iL iK,K (.exit 2) ⟨[j0,j1,j2,j3,j4,j5,j6,j7,j8,.own (σ.length+1) (out++renamed rest fr to).length,cC,cH,cG,cF,cB,cE,cD,cI,cQ,db,de,dh,dm,dv,du,dt,dN,dR,dU,dX,ej,eD,eL,eQ,eP,fb,fi,fh,fg,fw,fG,fF,fK,fW,gj,gi,gB,gA,gz,gy,gx,gY,gW,gU,iq,iD,iN,iM,iL,iK],σ++[.map 3 3 (mI l),.row 31 3 32 (out++renamed rest fr to).length false ((out++renamed rest fr to).map It.cells)]⟩) →
  fp σ.length prog xl K (rest.length+1) ⟨[u,u,u,u,u,u,u,.mp σ.length,u,.own (σ.length+1) out.length,u,u,u,u,u,u,u,u,u,u,u,u,u,u,u,u,u,u,u,u,u,u,u,u,.sl 3 (its.map It.cells),.i .i64 its.length,.i .i64 pre.length,u,u,u,u,u,u,u,u,u,u,u,u,u,u,u,u,u,u,u,u,u,u,u],σ++[.map 3 3 (mI l),.row 31 3 32 out.length false (out.map It.cells)]⟩:=by
 intro rest
 induction rest with
 | nil =>
  intro pre out he ho h1;have he:its=pre:=by simpa using he
  subst he;have e:out++renamed [] fr to=out:=by simp[renamed]
  rw[e]at h1;refine ay fun R hR=>?_;simp only[xl,W,seval];exact⟨fun h=>by simp at h,fun _=>h1 ..⟩
 | cons x rest ih =>
  intro pre out he ho h1;subst he
  have hw:IntKind.i64.wrap ((pre.length:Int)+1)=(((pre++[x]).length:Nat):Int):=by
   rw[aX (by simp at hlen;omega)];simp
  have Mx:pre++x::rest=(pre++[x])++rest:=by simp
  have put:∀ (y:It),Kl fr to x=some y→∀ {R:St→Prop} {f0:List V} ,(∀ st',fp σ.length prog xl K (rest.length+1) st'→R st')→nP f0 [u,u,u,u,u,u,u,.mp σ.length,u,.own (σ.length+1) (out++[y]).length,u,u,u,u,u,u,u,u,u,u,u,u,u,u,u,u,u,u,u,u,u,u,u,u,.sl 3 ((pre++x::rest).map It.cells),.i .i64 (pre++x::rest).length,.i .i64 (pre++[x]).length,u,u,u,u,u,u,u,u,u,u,u,u,u,u,u,u,u,u,u,u,u,u,u] →
    R ⟨f0,σ++[.map 3 3 (mI l),.row 31 3 32 (out++[y]).length false ((out++[y]).map It.cells),.box 31 y.cells]⟩:=fun y hy R f0 hR hc=>by
   have e:out++renamed (x::rest) fr to=(out++[y])++renamed rest fr to:=by simp[renamed,hy]
   rw[e]at h1;have pA:bG (σ++[.map 3 3 (mI l),.row 31 3 32 (out++[y]).length false ((out++[y]).map It.cells)]):=b9 aU (by simp);refine hR _ (cy [_,_] [_] pA hc ?_ (ih (pre++[x]) (out++[y]) Mx (by simp;omega) h1));simp only[LW,ag,ai,aI];omega
  have okA:∀ (m:Nat),m≤pre.length→((m+1)*32≤2^47∧m+1≤maxLen):=fun m hm=>by simp at hlen;simp[maxLen];omega
  have cm:∀ (y:It),out.map It.cells++[[.i .i64 y.kind,.s y.text,.i .i64 y.id]]=(out++[y]).map It.cells:=fun y=>by simp[It.cells]
  have lC:∀ (y:It),out.length+1=(out++[y]).length:=fun y=>by simp
  refine ay fun R hR=>?_;simp only[xl,It.cells,W,seval];refine⟨fun _=>⟨by simp;omega,?_⟩,fun h=>by simp at h;omega⟩;refine an (qj x _) rfl ?_;simp only[W,seval];refine⟨fun ht=>?_,fun ht=>?_⟩
  ·have hf:∀ s,fU (σ++(.map 3 3 (mI l))::s) 0 (.mp σ.length) (.i .i64 x.id)=fx 0 (.i .i64 x.id) (mI l) 0:=fun s=>by simp only[fU,fQ,ax]
   rcases vt l x.id with⟨h2,h3,h4⟩ | ⟨k,b,h2,h3,h4⟩
   ·have Mi:Kl fr to x=none:=by simp only[Kl,ht,if_true,← hl x.id,h2,Option.map_none]
    have e:out++renamed (x::rest) fr to=out++renamed rest fr to:=by simp[renamed,Mi]
    rw[e]at h1;simp only[hf,h3,W,seval];refine⟨by simp[V.mG],?_⟩;have pA:bG (σ++[.map 3 3 (mI l),.row 31 3 32 out.length false (out.map It.cells)]):=b9 aU (by simp);refine hR _ (cy [_,_] [_] pA ?_ ?_ (ih (pre++[x]) out Mx (by simp;omega) h1))
    ·rw[hw];repeat' constructor
    ·simp only[LW,ag,ai,aI];omega
   ·have Mi:Kl fr to x=some ⟨x.kind,x.text,b⟩:=by simp only[Kl,ht,if_true,← hl x.id,h2,cg]
    simp only[hf,h3,W,seval];refine⟨by simp[V.mG],⟨okA _ (by rw[ae];exact ho),?_⟩⟩;rw[lC ⟨x.kind,x.text,b⟩,cm ⟨x.kind,x.text,b⟩];refine put _ Mi hR ?_;rw[hw];repeat' constructor
  ·have Mi:Kl fr to x=some x:=by simp only[Kl,ht];rfl
   refine⟨okA _ (by rw[ae];exact ho),?_⟩;rw[lC x,cm x];refine put _ Mi hR ?_;rw[hw];repeat' constructor
theorem Ab(its:List It)(fr to:List Int)(hlen:its.length<2^40)(ht:bp its<2^40)(σ:ah):PC prog 118 [.sl 3 (its.map It.cells),.sl 1 (fr.map bW),.sl 1 (to.map bW)] σ (fun r σ'=>r=.sl 3 ((rename its fr to).map It.cells)∧σ'=σ):=by
 refine PC.intro func118 aaH fun aU da=>al ?_;have PA:=kS (da 1 _ rfl).1;have hto:=kS (da 2 _ rfl).1;rw[ae]at PA hto;simp only[VU,SS,seval];simp only[ae,W,seval]
 have Mu:IntKind.i64.wrap ((if((to.length:Int)<(fr.length:Int))then(to.length:Int)else(fr.length:Int)) - 1)=((min fr.length to.length:Nat):Int) - 1:=by
  rw[IntWalk.i64_in _ (by split<;>omega)];split<;>omega
 rw[Mu];refine bX.bb (fr':=[.sl 3 (its.map It.cells),.sl 1 (fr.map bW),.sl 1 (to.map bW),u,u,u,u,.mp σ.length,.i .i64 (((min fr.length to.length:Nat):Int) - 1),u,u,u,u,u,u,u,u,u,u,u,u,u,u,u,u,u,u,u,u,u,u,u,u,u,u,u,u,u,u,u,u,u,u,u,u,u,u,u,u,u,u,u,u,u,u,u,u,u,u,u]) ?_ _ (An _ fr to PA (min fr.length to.length) [] (aw _) (fun x=>by rw[G9 (aw _)];rfl) ?_)
 ·repeat' constructor
 ·intro l hl;intros;simp only[ae,W,seval];refine bX.wk ((Wk.mE (σ:=σ) [_] (k:=9) A5 rfl).trans (Wk.ic ?_)) (bX.ml (its.length+1) (Jy its fr to l aU hlen hl its [] [] rfl (aw _) ?_))
  ·simp only[W,seval]
   repeat' constructor
  ·intros;simp only[aG,W,seval];refine o0 (σ.length+1) (by simp only[qD];rfl) (B9 (renamed its fr to) (na (u7 _ _ _) hlen) (na (sF _ _ _) ht) _) (by simp[fz,kF,ev]) ?_;simp only[W,seval];exact aD aU (.inr rfl) rfl (by simp only[LW]) ⟨rfl,rfl⟩
theorem RZ{σ:ah}{K:Exit→St→Prop}(A B:V)(m:List Int)(hlen:m.length<2^40):∀ (rest pre l:List Int) (g:Nat) (sh:Bool),m=pre++rest→l.length+rest.length<2^40 →
  (∀ g sh,(∀ j2 j3 j4 j5 j7 j8 j9 cC cH cG cF cB cE cD cI cQ db de dh dm dv du dt dN dR dU dX ej eD eL eQ eP fb fi fh fg,K (.exit 0) ⟨[A,B,j2,j3,j4,j5,.own σ.length g,j7,j8,j9,cC,cH,cG,cF,cB,cE,cD,cI,cQ,db,de,dh,dm,dv,du,dt,dN,dR,dU,dX,ej,eD,eL,eQ,eP,fb,fi,fh,fg],σ++[.row 3 1 8 g sh ((ef l rest).map bW)]⟩)) →
  fp σ.length prog Hm K (rest.length+1) ⟨[A,B,u,u,u,u,.own σ.length g,u,u,u,u,u,.sl 1 (m.map bW),.i .i64 m.length,.i .i64 pre.length,u,u,u,u,u,u,u,u,u,u,u,u,u,u,u,u,u,u,u,u,u,u,u,u],σ++[.row 3 1 8 g sh (l.map bW)]⟩:=by
 intro rest
 induction rest with
 | nil =>
  intro pre l g sh he hl h1;have he:m=pre:=by simpa using he
  subst he;refine ay fun R hR=>?_;simp only[Hm,W,seval];exact⟨fun h=>by simp at h,fun _=>h1 _ _ ..⟩
 | cons x rest ih =>
  intro pre l g sh he hl h1;subst he
  have hw:IntKind.i64.wrap ((pre.length:Int)+1)=(((pre++[x]).length:Nat):Int):=by
   rw[aX (by simp at hlen;omega)];simp
  have Mx:pre++x::rest=(pre++[x])++rest:=by simp
  refine ay fun R hR=>?_;simp only[Hm,bW,W,seval];refine⟨fun _=>⟨by simp;omega,?_⟩,fun h=>by simp at h<;>omega⟩;refine o0 σ.length (by simp only[fQ];rfl) (yl l x _) (by simp[fz,kF,ev,bW]) ?_;simp only[W,seval];simp only[ag]at hl;refine⟨fun h=>⟨?_,?_⟩,fun h=>?_⟩
  ·simp[maxLen];omega
  ·have e:ef l (x::rest)=ef (l++[x]) rest:=by
    simp at h;simp[ef,h]
   rw[e]at h1;have hr:List.map (fun n=>[V.i .i64 n]) l++[[.i .i64 x]]=(l++[x]).map bW:=by simp[bW]
   refine hR _ ?_;have SN:l.map bW++[[.i .i64 x]]=(l++[x]).map bW:=by simp[bW]
   rw[SN];refine bb ?_ (ih (pre++[x]) (l++[x]) (g+1) _ Mx (by simp;omega) h1);rw[hw];repeat' constructor
  ·have e:ef l (x::rest)=ef l rest:=by
    simp at h;simp[ef,h]
   rw[e]at h1;refine hR _ (bb ?_ (ih (pre++[x]) l g _ Mx (by omega) h1));rw[hw];repeat' constructor
theorem CY(s t:List It)(hs:s.length<2^39)(ht:t.length<2^39)(WJ:bp s<2^40)(YM:bp t<2^40)(σ:ah):PC prog 83 [.sl 3 (s.map It.cells),.sl 3 (t.map It.cells)] σ (fun r σ'=>r=.gZ [.sl 3 ((lj s t).map It.cells),.sl 3 ((nO s t).map It.cells)]∧σ'=σ):=by
 refine PC.intro func83 c83 fun aU da=>al ?_;have h1:=pV s;have h2:=pV t;have h3:=vU (numbers t) (numbers s);simp only[p83,SS,seval];simp only[W,seval];refine an (vo s (by omega) _) rfl ?_;simp only[W,seval];refine an (F7 t (by omega) _) rfl ?_;simp only[ae,W,seval];refine bX.bb ?_ ((numbers t).length+1) (RZ (.sl 3 (s.map It.cells)) (.sl 3 (t.map It.cells)) (numbers t) (by omega) (numbers t) [] (numbers s) 0 false rfl (by omega) ?_)
 ·repeat' constructor
 ·intro g sh;intros;simp only[W,seval];have hc:(ef (numbers s) (numbers t)).length<2^40:=by omega
  refine an (vD (ef (numbers s) (numbers t)).length hc _) (by simp[ev]) ?_;simp only[W,seval];refine o0 σ.length (by simp only[fQ];rfl) (Ab s (cN s t) (dH (cN s t).length) (by omega) WJ _) (by simp[fz,kF,ev,cN]) ?_;simp only[W,seval];refine an (vD (ef (numbers s) (numbers t)).length hc _) (by simp[ev]) ?_;simp only[W,seval];refine o0 σ.length (by simp only[fQ];rfl) (Ab t (cN s t) (dH (cN s t).length) (by omega) YM _) (by simp[fz,kF,ev,cN]) ?_;simp only[W,seval];exact aD aU (.inr rfl) rfl (by simp only[LW]) ⟨rfl,rfl⟩
theorem ME(c:UInt8)(σ:ah):PC prog 188 [.i .u8 c.toNat] σ (fun r σ'=>r=.gZ [.i .u8 (gD c).1.toNat,.b (gD c).2]∧σ'=σ):=by
 refine PC.intro func188 Z6 fun aU da=>al ?_;simp only[Vg,SS,seval];simp only[W,seval];refine⟨fun h=>?_,fun h=>⟨fun h2=>?_,fun h2=>?_⟩⟩<;>refine aP (.inr rfl) rfl ?_
 ·simp at h;have:=PE c (by omega);simp[one,this]
 ·simp at h2;have:=PD c (by omega);simp[one,this]
 ·simp at h h2;have:=S1 c (by omega) (by omega);simp[one,this]
theorem DT(c:UInt8)(σ:ah):PC prog 163 [.i .u8 c.toNat] σ (fun r σ'=>r=.b (oM c)∧σ'=σ):=by
 refine PC.intro func163 aak fun aU da=>al ?_;simp only[Vu,SS,seval];simp only[W,seval];refine br (by simp only[W,seval];rfl) (fun _=>yq c _) rfl ?_;simp only[W,seval];refine aP (.inr rfl) rfl ⟨?_,rfl⟩;simp only[one,oM,ar,aC,V.b.injEq];simp only[← Rq];rfl
theorem J2(s:List UInt8)(σ:ah):PC prog 160 [.s s] σ (fun r σ'=>r=.gZ [.i .u8 (cz s).1.toNat,.i .i64 (cz s).2.1,.b (cz s).2.2]∧σ'=σ):=by
 refine PC.intro func160 aan fun aU da=>al ?_;simp only[Vx,SS,seval]
 by_cases h2:s.length<2
 ·have d2:decide ((s.length:Int)<2)=true:=by simp;omega
  simp only[d2,W,seval];refine aP (.inr rfl) rfl ⟨?_,rfl⟩;simp[one,cz,h2]
 have d2:decide ((s.length:Int)<2)=false:=by simp;omega
 have bnd:(0:Int)≤1∧(1:Int)<s.length:=by omega
 by_cases c92:s.getD 1 0=92
 ·simp only[d2,IA (k:=92) c92 rfl,W,Nat.reduceAdd,Nat.reduceSub,Nat.reduceLeDiff,Nat.reduceEqDiff,Int.reduceToNat,reduceIte,reduceCtorEq]
  repeat refine And.intro bnd ?_
  refine aP (.inr rfl) rfl ⟨?_,rfl⟩;have e:cz s=(s.getD 1 0,2,true):=by simp[cz,h2,← List.getD_eq_getElem?_getD,c92]
  rw[e];rfl
 by_cases c60:s.getD 1 0=60
 ·simp only[d2,nV (k:=92) c92 rfl,IA (k:=60) c60 rfl,W,Nat.reduceAdd,Nat.reduceSub,Nat.reduceLeDiff,Nat.reduceEqDiff,Int.reduceToNat,reduceIte,reduceCtorEq]
  repeat refine And.intro bnd ?_
  refine aP (.inr rfl) rfl ⟨?_,rfl⟩;have e:cz s=(s.getD 1 0,2,true):=by simp[cz,h2,← List.getD_eq_getElem?_getD,c92,c60]
  rw[e];rfl
 by_cases kR:s.getD 1 0=123
 ·simp only[d2,nV (k:=92) c92 rfl,nV (k:=60) c60 rfl,IA (k:=123) kR rfl,W,Nat.reduceAdd,Nat.reduceSub,Nat.reduceLeDiff,Nat.reduceEqDiff,Int.reduceToNat,reduceIte,reduceCtorEq]
  repeat refine And.intro bnd ?_
  refine aP (.inr rfl) rfl ⟨?_,rfl⟩;have e:cz s=(s.getD 1 0,2,true):=by simp[cz,h2,← List.getD_eq_getElem?_getD,c92,c60,kR]
  rw[e];rfl
 by_cases zI:s.getD 1 0=110
 ·simp only[d2,nV (k:=92) c92 rfl,nV (k:=60) c60 rfl,nV (k:=123) kR rfl,IA (k:=110) zI rfl,W,Nat.reduceAdd,Nat.reduceSub,Nat.reduceLeDiff,Nat.reduceEqDiff,Int.reduceToNat,reduceIte,reduceCtorEq]
  repeat refine And.intro bnd ?_
  refine aP (.inr rfl) rfl ⟨?_,rfl⟩;have e:cz s=(10,2,true):=by simp[cz,h2,← List.getD_eq_getElem?_getD,c92,c60,kR,zI]
  rw[e];rfl
 by_cases E0:s.getD 1 0=116
 ·simp only[d2,nV (k:=92) c92 rfl,nV (k:=60) c60 rfl,nV (k:=123) kR rfl,nV (k:=110) zI rfl,IA (k:=116) E0 rfl,W,Nat.reduceAdd,Nat.reduceSub,Nat.reduceLeDiff,Nat.reduceEqDiff,Int.reduceToNat,reduceIte,reduceCtorEq]
  repeat refine And.intro bnd ?_
  refine aP (.inr rfl) rfl ⟨?_,rfl⟩;have e:cz s=(9,2,true):=by simp[cz,h2,← List.getD_eq_getElem?_getD,c92,c60,kR,zI,E0]
  rw[e];rfl
 have all:∀ {c:UInt8},s.getD 1 0=c→c=120→cz s=if s.length<4 then(0,0,false)else(ir (s.getD 2 0) (s.getD 3 0),4,(gD (s.getD 2 0)).2&&(gD (s.getD 3 0)).2&&(ir (s.getD 2 0) (s.getD 3 0)==13||jG (ir (s.getD 2 0) (s.getD 3 0))==1)):=by
  rintro c h rfl;simp only[cz,h2,h,if_false];rfl
 by_cases GY:s.getD 1 0=120
 ·have e:=all GY rfl
  by_cases h4:s.length<4
  ·have d4:decide ((s.length:Int)<4)=true:=by simp;omega
   simp only[d2,d4,nV (k:=92) c92 rfl,nV (k:=60) c60 rfl,nV (k:=123) kR rfl,nV (k:=110) zI rfl,nV (k:=116) E0 rfl,IA (k:=120) GY rfl,W,Nat.reduceAdd,Nat.reduceSub,Nat.reduceLeDiff,Nat.reduceEqDiff,Int.reduceToNat,reduceIte,reduceCtorEq]
   repeat refine And.intro bnd ?_
   refine aP (.inr rfl) rfl ⟨?_,rfl⟩;rw[e,if_pos h4];rfl
  have d4:decide ((s.length:Int)<4)=false:=by simp;omega
  rw[if_neg h4]at e;simp only[d2,d4,nV (k:=92) c92 rfl,nV (k:=60) c60 rfl,nV (k:=123) kR rfl,nV (k:=110) zI rfl,nV (k:=116) E0 rfl,IA (k:=120) GY rfl,W,Nat.reduceAdd,Nat.reduceSub,Nat.reduceLeDiff,Nat.reduceEqDiff,Int.reduceToNat,reduceIte,reduceCtorEq]
  repeat refine And.intro bnd ?_
  refine⟨by omega,?_⟩;refine an (ME (s.getD 2 0) _) rfl ?_;simp only[Int.reduceToNat,W,seval];refine⟨by omega,?_⟩;refine an (ME (s.getD 3 0) _) rfl ?_;simp only[Gw,W,Nat.reduceAdd,Nat.reduceSub,Nat.reduceLeDiff,Nat.reduceEqDiff,Int.reduceToNat,reduceIte,reduceCtorEq];refine⟨by omega,?_⟩;refine br (by simp only[W,seval];rfl) (fun _=>yq (ir (s.getD 2 0) (s.getD 3 0)) _) rfl ?_;simp only[W,seval];refine aP (.inr rfl) rfl ⟨?_,rfl⟩;rw[e];simp only[one,ar,aC];rw[← tL];rfl
 ·simp only[d2,nV (k:=92) c92 rfl,nV (k:=60) c60 rfl,nV (k:=123) kR rfl,nV (k:=110) zI rfl,nV (k:=116) E0 rfl,nV (k:=120) GY rfl,W,Nat.reduceAdd,Nat.reduceSub,Nat.reduceLeDiff,Nat.reduceEqDiff,Int.reduceToNat,reduceIte,reduceCtorEq]
  repeat refine And.intro bnd ?_
  refine aP (.inr rfl) rfl ⟨?_,rfl⟩;have e:cz s=(0,0,false):=by simp[cz,h2,← List.getD_eq_getElem?_getD,c92,c60,kR,zI,E0,GY]
  rw[e];rfl
theorem OU{σ:ah}{K:Exit→St→Prop}(s:List UInt8)(hlen:s.length<4):∀ (rest pre:List UInt8) (n:Int),s=pre++rest→0≤n→n<10^pre.length →
  (rest.all di=true→(∀ j0 j1 j2 j3 j5 j6 j7 j8 j9 cC cH cG cF cB cE cD cI cQ db de dh dm dv du dt dN dR dU dX ej eD eL eQ eP fb fi fh fg fw fG fF fK fW gj gi,K (.exit 0) ⟨[j0,j1,j2,j3,.i .i64 (dq n rest),j5,j6,j7,j8,j9,cC,cH,cG,cF,cB,cE,cD,cI,cQ,db,de,dh,dm,dv,du,dt,dN,dR,dU,dX,ej,eD,eL,eQ,eP,fb,fi,fh,fg,fw,fG,fF,fK,fW,gj,gi],σ⟩)) →
  (rest.all di=false→(∀ j0 j1 j4 j5 j6 j7 j8 j9 cC cH cG cF cB cE cD cI cQ db de dh dm dv du dt dN dR dU dX ej eD eL eQ eP fb fi fh fg fw fG fF fK fW gj gi,K .ret ⟨[j0,j1,.i .i64 0,.b false,j4,j5,j6,j7,j8,j9,cC,cH,cG,cF,cB,cE,cD,cI,cQ,db,de,dh,dm,dv,du,dt,dN,dR,dU,dX,ej,eD,eL,eQ,eP,fb,fi,fh,fg,fw,fG,fF,fK,fW,gj,gi],σ⟩)) →
  fp σ.length prog BH K (rest.length+1) ⟨[.s s,u,u,u,.i .i64 n,.i .i64 pre.length,u,u,u,u,u,u,u,u,u,u,u,u,u,u,u,u,u,u,u,u,u,u,u,u,u,u,u,u,u,u,u,u,u,u,u,u,u,u,u,u],σ⟩:=by
 intro rest
 induction rest with
 | nil =>
  intro pre n he hn hn2 h1 h2;have he:s=pre:=by simpa using he
  subst he;refine ay fun R hR=>?_;simp only[BH,W,seval];exact⟨fun h=>by simp at h,fun _=>h1 rfl ..⟩
 | cons c rest ih =>
  intro pre n he hn hn2 h1 h2;subst he;refine ay fun R hR=>?_;simp only[BH,W,seval]
  have hd:di c=!(decide ((c.toNat:Int)<48)||decide (57<(c.toNat:Int))):=by
   rw[cP];simp[di];omega
  refine⟨fun _=>⟨by simp;omega,fun _=>by simp;omega,fun h=>?_,fun h=>⟨by simp;omega,?_⟩⟩,fun h=>by simp at h<;>omega⟩
  ·rw[h]at hd;exact h2 (by simp[hd]) ..
  ·rw[h]at hd;have hd:di c=true:=hd;have Fq:pre.length<3:=by simp at hlen;omega
   have hp:(10:Int)^pre.length≤10^2:=by
    have:pre.length=0∨pre.length=1∨pre.length=2:=by omega
    rcases this with h | h | h<;>rw[h]<;>decide
   have hb:=hd;simp only[di,aB,decide_eq_true_eq]at hb;have acx:n<100:=Int.lt_of_lt_of_le hn2 (by simpa using hp)
   have e0:IntKind.i64.wrap (IntKind.i64.wrap (10*n)+IntKind.i64.wrap (IntKind.u8.wrap ((c.toNat:Int) - 48)))=10*n+(c.toNat - 48:Int):=by
    rw[KF c hd,IntWalk.i64_in (10*n) (by omega),IntWalk.i64_in ((c.toNat:Int) - 48) (by omega),IntWalk.i64_in _ (by omega)]
   have e1:dq n (c::rest)=dq (10*n+(c.toNat - 48:Int)) rest:=rfl;have e2:(c::rest).all di=rest.all di:=by simp[hd]
   rw[e1,e2]at h1;rw[e2]at h2;refine hR _ (bb ?_ (ih (pre++[c]) (10*n+(c.toNat - 48:Int)) (by simp) (by omega) ?_ h1 h2))
   ·rw[e0,aX (by simp at hlen;omega)];simp only[List.length_append,ag,ai]
    repeat' constructor
   ·simp only[List.length_append,ag,ai,Int.pow_succ];omega
theorem ua(s:List UInt8)(σ:ah):PC prog 193 [.s s] σ (fun r σ'=>r=.gZ [.i .i64 (numberOf s).1,.b (numberOf s).2]∧σ'=σ):=by
 refine PC.intro func193 Z2 fun aU da=>al ?_;simp only[Vc,SS,seval]
 by_cases h1:s.length<1∨3<s.length∨s.getD 0 0=48
 ·have e:numberOf s=(0,false):=by simp only[numberOf,h1,if_true]
  have e2:((decide ((s.length:Int)<1)||decide (3<(s.length:Int)))||(((s.getD 0 0).toNat:Int)==48))=true:=by
   rcases h1 with h | h | h
   ·simp;omega
   ·simp;omega
   ·rw[IA (k:=48) h rfl];simp
  simp only[Int.reduceToNat,e2,W,seval];refine⟨fun h=>?_,aP (.inr rfl) rfl ⟨by rw[e];rfl,rfl⟩⟩;simp at h;omega
 ·have hl:¬ s.length<1∧¬ 3<s.length∧¬ s.getD 0 0=48:=by
   refine⟨fun h=>h1 (.inl h),fun h=>h1 (.inr (.inl h)),fun h=>h1 (.inr (.inr h))⟩
  have e2:((decide ((s.length:Int)<1)||decide (3<(s.length:Int)))||(((s.getD 0 0).toNat:Int)==48))=false:=by
   rw[nV (k:=48) hl.2.2 rfl];simp;omega
  simp only[e2,W,seval];refine⟨fun _=>by omega,?_⟩;refine bX.bb ?_ (s.length+1) (OU s (by omega) s [] 0 rfl (tH _) (by decide) (fun ha=>?_) (fun ha=>?_))
  ·repeat' constructor
  ·intros;simp only[W,seval];refine aP (.inr rfl) rfl ⟨?_,rfl⟩;have h3:=yi s 0 s.length rfl ha (tH _)
   have hp:(10:Int)^s.length≤10^3:=by
    have:s.length=1∨s.length=2∨s.length=3:=by omega
    rcases this with h | h | h<;>rw[h]<;>decide
   have h4:dq 0 s≤999:=by omega
   have e:numberOf s=(dq 0 s,true):=by simp only[numberOf,if_neg h1,ha,if_true]
   rw[e];simp[one,h4]
  ·intros;refine aP (.inr rfl) rfl ⟨?_,rfl⟩;have e:numberOf s=(0,false):=by simp only[numberOf,if_neg h1,ha];rfl
   rw[e];rfl
theorem Ru(s:List UInt8)(σ:ah):PC prog 162 [.s s] σ (fun r σ'=>r=.gZ [.agg (gd s).1.cells,.b (gd s).2]∧σ'=σ):=by
 refine PC.intro func162 aal fun aU da=>al ?_;have hlen:=yP (da 0 _ rfl).1;simp only[Vv,SS,seval];simp only[VV,seval];refine an (CF s [47] _) rfl ?_;simp only[VV,seval];refine⟨fun hp=>?_,fun hp=>?_⟩
 ·have hl:1≤s.length:=by
   simp only[hasPrefix,aB,decide_eq_true_eq]at hp;simpa using hp.1
  have e0:(s.drop 1).take (s.length - 1)=s.drop 1:=by
   rw[cJ];simp
  refine⟨by omega,?_⟩;refine an (yj (s.drop 1) 58 _) (by simp only[aW,aZ,VV,seval];rw[e0]) ?_;simp only[VV,seval];generalize hq:cutAt (s.drop 1) 58=q;obtain⟨a,b,f⟩:=q;refine br (c:=false) (v:=.b false) (by simp only[VV,seval]<;>rfl) (fun h=>by simp at h) rfl ?_;simp only[VV,seval];refine an (ua a _) rfl ?_;simp only[VV,seval];cases f with
  | false =>
   have e:gd s=(⟨0,[],0⟩,false):=by unfold gd;simp only[hp,if_true,hq];simp
   simp only[VV,seval];rw[e];exact aD aU (.inr rfl) (by simp only[RS,seval];rfl) (by simp only[LW]) ⟨rfl,rfl⟩
  | true =>
   simp only[VV,seval];refine⟨fun h=>?_,fun h=>?_⟩
   ·have h:(numberOf a).2=false:=by simpa using h
    have e:gd s=(⟨0,[],0⟩,false):=by unfold gd;simp only[hp,if_true,hq];simp[h]
    rw[e];exact aD aU (.inr rfl) (by simp only[RS,seval];rfl) (by simp only[LW]) ⟨rfl,rfl⟩
   ·have h:(numberOf a).2=true:=by simpa using h
    have e:gd s=(⟨3,b,(numberOf a).1⟩,isName b):=by unfold gd;simp only[hp,if_true,hq];simp[h]
    rw[e];refine an (k9 b _) rfl ?_;simp only[VV,seval];exact aD aU (.inr rfl) (by simp only[RS,seval];rfl) (by simp only[LW]) ⟨rfl,rfl⟩
 ·refine an (yj s 58 _) rfl ?_;simp only[VV,seval];generalize hq:cutAt s 58=q;obtain⟨a,b,f⟩:=q;refine br (c:=true) (by simp only[VV,seval]<;>rfl) (fun h=>CD b [47] _) rfl ?_;simp only[VV,seval]
  have tail:∀ (kind:Int) (content:List UInt8),kind≠3→gd s=(if f&&(numberOf a).2 then(⟨kind,content,(numberOf a).1⟩,if kind=3 then isName content else cA content)else(⟨0,[],0⟩,false)) →
    (((f=false)∨(numberOf a).2=false)→gd s=(⟨0,[],0⟩,false))∧(f=true→(numberOf a).2=true→gd s=(⟨kind,content,(numberOf a).1⟩,cA content)):=by
   intro kind content hk e;rw[e];refine⟨?_,?_⟩
   ·rintro(h | h)<;>rw[h]<;>simp
   ·intro h1 h2;simp[h1,h2,hk]
  refine⟨fun hs=>?_,fun hs=>?_⟩
  ·have hb:1≤b.length:=by
    simp only[hasSuffix,aB,decide_eq_true_eq]at hs;simpa using hs.1
   have hbl:b.length<2^63:=by
    have:b=(cutAt s 58).2.1:=by rw[hq]
    have h2:b.length≤s.length:=by
     rw[this];simp only[cutAt];split<;>simp
    omega
   have e1:IntKind.i64.wrap ((b.length:Int) - 1)=((b.length - 1:Nat):Int):=by rw[IntWalk.i64_in _ (by omega)];omega
   have t:=tail 4 (b.take (b.length - 1)) (by decide) (by unfold gd;simp[hp,hq,hs]);simp only[e1,aH,VV,seval];refine⟨by omega,?_⟩;refine an (ua a _) rfl ?_;simp only[VV,seval];cases f with
   | false =>
    simp only[VV,seval];rw[t.1 (.inl rfl)];exact aD aU (.inr rfl) (by simp only[RS,seval];rfl) (by simp only[LW]) ⟨rfl,rfl⟩
   | true =>
    simp only[VV,seval];refine⟨fun h=>?_,fun h=>?_⟩
    ·have h:(numberOf a).2=false:=by simpa using h
     rw[t.1 (.inr h)];exact aD aU (.inr rfl) (by simp only[RS,seval];rfl) (by simp only[LW]) ⟨rfl,rfl⟩
    ·have h:(numberOf a).2=true:=by simpa using h
     rw[t.2 rfl h];refine an (ma _ _) rfl ?_;simp only[VV,seval];refine aD aU (.inr rfl) (by simp only[RS,seval];rfl) (by simp only[LW]) ⟨rfl,rfl⟩
  ·have t:=tail 2 b (by decide) (by unfold gd;simp[hp,hq,hs]);refine an (ua a _) rfl ?_;simp only[VV,seval];cases f with
   | false =>
    simp only[VV,seval];rw[t.1 (.inl rfl)];exact aD aU (.inr rfl) (by simp only[RS,seval];rfl) (by simp only[LW]) ⟨rfl,rfl⟩
   | true =>
    simp only[VV,seval];refine⟨fun h=>?_,fun h=>?_⟩
    ·have h:(numberOf a).2=false:=by simpa using h
     rw[t.1 (.inr h)];exact aD aU (.inr rfl) (by simp only[RS,seval];rfl) (by simp only[LW]) ⟨rfl,rfl⟩
    ·have h:(numberOf a).2=true:=by simpa using h
     rw[t.2 rfl h];refine an (ma _ _) rfl ?_;simp only[VV,seval];refine aD aU (.inr rfl) (by simp only[RS,seval];rfl) (by simp only[LW]) ⟨rfl,rfl⟩
theorem GK(s:List UInt8)(hs:s≠[])(σ:ah):PC prog 121 [.s s] σ (fun r σ'=>r=.gZ [.agg (aR s).1.cells,.i .i64 (aR s).2.1,.b (aR s).2.2]∧σ'=σ):=by
 refine PC.intro func121 aaF fun aU da=>al ?_;have hlen:=yP (da 0 _ rfl).1;have hl:0<s.length:=cZ.2 hs;have bnd:(0:Int)≤0∧(0:Int)<s.length:=by omega
 simp only[VQ,SS,seval]
 by_cases c92:s.getD 0 0=92
 ·have e:aR s=(⟨1,[(cz s).1],0⟩,(cz s).2.1,(cz s).2.2):=by simp only[aR,c92,if_true]
  rw[e];simp only[IA (k:=92) c92 rfl,VV,Int.reduceBEq,Int.reduceBNe,Nat.reduceAdd,Nat.reduceSub,Nat.reduceLeDiff,Nat.reduceEqDiff,Int.reduceToNat,reduceIte,reduceCtorEq];refine⟨bnd,?_⟩;refine an (J2 s _) rfl ?_;simp only[VV,seval];exact aD aU (.inr rfl) (by simp only[RS,seval];rfl) (by simp only[LW]) ⟨rfl,rfl⟩
 have n92:=c92
 by_cases c60:s.getD 0 0=60
 ·simp only[nV (k:=92) c92 rfl,IA (k:=60) c60 rfl,VV,Int.reduceBEq,Int.reduceBNe,Nat.reduceAdd,Nat.reduceSub,Nat.reduceLeDiff,Nat.reduceEqDiff,Int.reduceToNat,reduceIte,reduceCtorEq];refine⟨bnd,bnd,?_⟩;refine an (oU s 62 _) rfl ?_;have hb:=jF s 62;simp only[VV,seval];refine⟨fun h=>?_,fun h=>?_⟩
  ·have h:Lib.indexByte s 62<0:=by simpa using h
   have e:aR s=(kQ,0,false):=by simp only[aR];rw[if_neg c92,if_pos c60];simp only[h,if_true,if_false]
   rw[e];exact aD aU (.inr rfl) (by simp only[RS,seval];rfl) (by simp only[LW]) ⟨rfl,rfl⟩
  ·have h:¬ Lib.indexByte s 62<0:=by simpa using h
   have h1:=lB s 62 (by rw[c60];decide) h;have e:aR s=((gd ((s.take (Lib.indexByte s 62).toNat).drop 1)).1,Lib.indexByte s 62+1,(gd ((s.take (Lib.indexByte s 62).toNat).drop 1)).2):=by simp only[aR];rw[if_neg c92,if_pos c60];simp only[h,if_true,if_false]
   rw[e];refine⟨by omega,?_⟩;have e2:(s.drop 1).take ((Lib.indexByte s 62).toNat - 1)=(s.take (Lib.indexByte s 62).toNat).drop 1:=by rw[TX]
   refine an (Ru _ _) (by simp only[aW,aZ,VV,seval];rw[e2]) ?_;simp only[It.cells,VV,seval];refine aD aU (.inr rfl) (by simp only[RS,seval];rfl) (by simp only[LW]) ⟨?_,rfl⟩;simp only[one,ar,aC];rw[IntWalk.i64_in _ (by omega)]
 by_cases kR:s.getD 0 0=123
 ·simp only[nV (k:=92) c92 rfl,nV (k:=60) c60 rfl,IA (k:=123) kR rfl,VV,Int.reduceBEq,Int.reduceBNe,Nat.reduceAdd,Nat.reduceSub,Nat.reduceLeDiff,Nat.reduceEqDiff,Int.reduceToNat,reduceIte,reduceCtorEq];refine⟨bnd,bnd,bnd,?_⟩;refine an (oU s 125 _) rfl ?_;have hb:=jF s 125;simp only[VV,seval]
  by_cases h:Lib.indexByte s 125<0
  ·have e:aR s=(kQ,0,false):=by simp only[aR];rw[if_neg c92,if_neg c60,if_pos kR];simp only[h,true_or,if_true]
   have hd:decide (Lib.indexByte s 125<0)=true:=by simpa using h
   rw[e];simp only[hd,VV,seval];refine⟨fun h=>by simp at h,?_⟩;refine br (c:=false) (v:=.b false) (by simp only[VV,seval]<;>rfl) (fun h=>by simp at h) rfl ?_;simp only[VV,seval];exact aD aU (.inr rfl) (by simp only[RS,seval];rfl) (by simp only[LW]) ⟨rfl,rfl⟩
  ·have hd:decide (Lib.indexByte s 125<0)=false:=by simpa using h
   have h1:=lB s 125 (by rw[kR];decide) h;have e:aR s=if isName ((s.take (Lib.indexByte s 125).toNat).drop 1)=false then(kQ,0,false)else(⟨5,(s.take (Lib.indexByte s 125).toNat).drop 1,0⟩,Lib.indexByte s 125+1,true):=by simp only[aR];rw[if_neg c92,if_neg c60,if_pos kR];simp only[h,false_or]
   have e2:(s.drop 1).take ((Lib.indexByte s 125).toNat - 1)=(s.take (Lib.indexByte s 125).toNat).drop 1:=by rw[TX]
   rw[e];simp only[hd,e2,VV,seval];refine⟨by omega,?_⟩;refine br (c:=true) (by simp only[VV,seval]<;>rfl) (fun _=>k9 ((s.take (Lib.indexByte s 125).toNat).drop 1) _) rfl ?_;simp only[VV,seval];refine⟨fun h=>?_,fun h=>?_⟩
   ·have h:isName ((s.take (Lib.indexByte s 125).toNat).drop 1)=false:=by simpa using h
    rw[if_pos h];exact aD aU (.inr rfl) (by simp only[RS,seval];rfl) (by simp only[LW]) ⟨rfl,rfl⟩
   ·have h:¬ isName ((s.take (Lib.indexByte s 125).toNat).drop 1)=false:=by simpa using h
    rw[if_neg h];simp only[e2,VV,seval];refine⟨by omega,?_⟩;refine aD aU (.inr rfl) (by simp only[RS,seval];rfl) (by simp only[LW]) ⟨?_,rfl⟩;simp only[one,ar,aC];rw[IntWalk.i64_in _ (by omega)];rfl
 ·have e:aR s=(⟨1,s.take 1,0⟩,1,oM (s.getD 0 0)):=by simp only[aR,c92,c60,kR,if_false]
  rw[e];simp only[nV (k:=92) c92 rfl,nV (k:=60) c60 rfl,nV (k:=123) kR rfl,VV,Int.reduceBEq,Int.reduceBNe,Nat.reduceAdd,Nat.reduceSub,Nat.reduceLeDiff,Nat.reduceEqDiff,Int.reduceToNat,reduceIte,reduceCtorEq];refine⟨bnd,bnd,bnd,by omega,bnd,?_⟩;refine an (DT (s.getD 0 0) _) rfl ?_;simp only[VV,seval];exact aD aU (.inr rfl) (by simp only[RS,seval];rfl) (by simp only[LW]) ⟨rfl,rfl⟩
def k6(n g1 g2:Nat)(s:Rd):ah :=
 [.map 3 31 (pn s.tags),.box 166 [.own (n+2) g1,.own (n+3) g2,.i .i64 s.len,.mp n],.row 31 3 32 g1 false (s.f.map It.cells),.row 5 1 1 g2 false (aQ s.text)]
def IX(n g1 g2:Nat)(s:Rd)(o:Ob)(x:It):ah :=
 [.map 3 31 (pn s.tags),.box 166 [.own (n+2) g1,.own (n+3) g2,.i .i64 s.len,.mp n],.row 31 3 32 g1 false (s.f.map It.cells),.row 5 1 1 g2 false (aQ s.text),o,.box 31 [.i .i64 x.kind,.s x.text,.i .i64 x.id]]
theorem EK(s:Rd)(g1 g2:Nat)(hf:s.f.length<2^40)(σ ext:ah):PC prog 123 [.ptr (σ.length+1) 0] (σ++(k6 σ.length g1 g2 s++ext)) (fun r σ'=>r=.gZ []∧∃ g1' g2',σ'=σ++(k6 σ.length g1' g2' (fk s)++ext)):=by
 refine PC.intro func123 kR fun aU da=>al ?_;simp only[VO,SS,seval];simp only[k6,W,seval];simp only[bO,jz,W,seval];refine⟨fun h=>⟨?_,?_⟩,fun h=>?_⟩
 ·simp[maxLen];omega
 ·have h:0<s.text.length:=by simpa using h
  have e:fk s=⟨s.f++[⟨1,s.text,0⟩],[],s.len,s.tags⟩:=by simp[fk,h]
  have hr:s.f.map It.cells++[[.i .i64 1,.s s.text,.i .i64 0]]=(s.f++[(⟨1,s.text,0⟩:It)]).map It.cells:=by simp[It.cells]
  rw[hr];refine ei (xs:=[]) (xs':=[]) (.inl rfl) rfl (Wk.UE (id:=σ.length+1) (j:=1) (idr:=σ.length+3) (by simp only[W,seval];rfl) rfl (by simp only[W,seval];rfl)) rfl ⟨rfl,g1+1,g2+1,?_⟩;simp only[k6,e,W,seval];rfl
 ·have h:¬ 0<s.text.length:=by simpa using h
  have e:fk s=s:=by simp[fk,h]
  rw[e];exact ei (xs:=[]) (.inl rfl) rfl (Wk.refl _ _) rfl ⟨rfl,g1,g2,rfl⟩
set_option maxHeartbeats 2000000 in
theorem TT(s:Rd)(x:It)(g1 g2:Nat)(hf:s.f.length<2^40)(ht:s.text.length+x.text.length<2^40)(hl:s.len<2^40)(σ:ah)(o:Ob):PC prog 122 [.ptr (σ.length+1) 0,.agg x.cells] (σ++(k6 σ.length g1 g2 s++[o]))
  (fun r σ'=>r=.i .i64 (iC s x).1∧∃ g1' g2',σ'=σ++(k6 σ.length g1' g2' (iC s x).2++[o])):=by
 refine PC.intro func122 aaE fun aU da=>?_;simp only[VP,SS,seval];have hm:∀ t,fU (σ++(.map 3 31 (pn s.tags))::t) 0 (.mp σ.length) (.i .i64 x.id)=fx 0 (.i .i64 x.id) (pn s.tags) 0:=fun t=>by simp only[fU,fQ,ax]
 refine bX.cut fun R hR=>?_;simp only[k6,It.cells,aJ,aG,W,seval];refine hR _ ?_;clear hR R;refine bX.cut fun R hR=>?_;simp only[W,seval];refine hR _ (bX.ic (fr':=[.ptr (σ.length+1) 0,u,u,.ptr (σ.length+5) 0,.i .i64 0,.b (tagged x),u,u,u,u,u,u,u,u,u,u,u,u,u,u,u,u,u,u,u,u,u,u,u,u,u,u,u,u,u,u,u,u,u,u,u,u,u,u,u,u,u,u,u,u,u,u,u,u,u,u,u,u,u,u,u,u,u,u,u,u,u,u,u,u,u,u,u,u,u,u,u,u,u,u,u,u,u,u,u,u,u,u,u,u,u,u,u,u,u,u,u,u,u,u,u,u,u,u,u,u,u,u,u,u,u,u,u,u,u,u,u,u,u,u,u,u,u]) ?_ ?_)
 rotate_left
 ·simp only[tagged]
  repeat' constructor
 clear hR R
 have hbo:match o with | .box _ cs=>gh (σ.length+5) cs | _=>True:=by
  cases o<;>first | trivial | skip
  rename_i T cs;refine eW.2 fun j y hj=>?_;have:=aU (σ.length+4) T cs (by rw[aM (by omega),dJ];rfl) j y hj;simpa[k6]using this
 have Zm:∀ (g1 g2:Nat) (s:Rd),bG (σ++(k6 σ.length g1 g2 s++[o])):=fun g1 g2 s =>
  vF aU (aw _) (by
   simp only[k6,ct,ag,ai,bK,false_imp_iff,implies_true,and_true,true_and,aJ,aG];refine⟨by simp only[LW];omega,?_⟩;cases o<;>first | trivial | exact hbo)
 have Zl:∀ (g1 g2:Nat) (s:Rd),bG (σ++IX σ.length g1 g2 s o x):=fun g1 g2 s =>
  vF aU (by simp[k6,IX]) (by
   simp only[IX,ct,ag,ai,bK,false_imp_iff,implies_true,and_true,true_and];refine⟨by simp only[LW];omega,?_,by simp only[LW]⟩;cases o<;>first | trivial | exact eW.2 fun j y hj=>(eW.1 hbo j y hj).mono (by omega))
 have fin:∀ {fr:List V} {n:Nat} (e:Int) (s':Rd) (g1' g2':Nat) {loc:ah},n≤σ.length+5→iC s x=(e,s')→fr.getD 4 u=.i .i64 e→wW prog n [.t 4] (fun r σ'=>r=.i .i64 (iC s x).1∧∃ g1' g2',σ'=σ++(k6 σ.length g1' g2' (iC s x).2++[o])) .ret ⟨fr,σ++((k6 σ.length g1' g2' s'++[o])++loc)⟩:=by
  intro fr n e s' g1' g2' loc hn he hf;rw[← List.append_assoc];refine ei (xs:=[.i .i64 e]) (.inr rfl) (by simp only[kh,tV,hf]) (Wk.vC (by simpa[k6]using hn) (Zm _ _ _) (eW.1 (by simp only[LW]))) rfl ⟨by rw[he];rfl,g1',g2',by rw[he]⟩
 refine bX.cut fun R hR=>?_
 have xS:∀ {fr:List V} {loc:ah},nP fr [.ptr (σ.length+1) 0,u,u,.ptr (σ.length+5) 0,.i .i64 0,.b (tagged x),u,u,u,u,u,u,u,u,u,u,u,u,u,u,u,u,u,u,u,u,u,u,u,u,u,u,u,u,u,u,u,u,u,u,u,u,u,u,u,u,u,u,u,u,u,u,u,u,u,u,u,u,u,u,u,u,u,u,u,u,u,u,u,u,u,u,u,u,u,u,u,u,u,u,u,u,u,u,u,u,u,u,u,u,u,u,u,u,u,u,u,u,u,u,u,u,u,u,u,u,u,u,u,u,u,u,u,u,u,u,u,u,u,u,u,u,u]→¬ (tagged x&&tq s x)=true→R ⟨fr,σ++(IX σ.length g1 g2 s o x++loc)⟩:=by
  intro fr loc hc rW;refine hR _ (bX.drop _ _ (by simp[k6,IX]) (Zl g1 g2 s) hc (by simp[gh,LF,OB,Wq,Wj,IX]) ?_);clear hR R;refine bX.cut fun R hR=>?_;simp only[IX,W,seval];refine hR _ ?_;clear hR R;refine bX.cut fun R hR=>?_;simp only[IX,ae,bO,VV,seval]
  have W3:∀ {fr:List V},nP fr [.ptr (σ.length+1) 0,u,u,.ptr (σ.length+5) 0,.i .i64 0,.b (tagged x),u,u,.i .i64 ((s.f.length+(if 0<s.text.length then 1 else 0):Nat):Int),u,u,u,u,u,u,u,u,u,u,u,u,u,u,u,u,u,u,u,u,u,u,u,u,u,u,u,u,u,u,u,u,u,u,u,u,u,u,u,u,u,u,u,u,u,u,u,u,u,u,u,u,u,u,u,u,u,u,u,u,u,u,u,u,u,u,u,u,u,u,u,u,u,u,u,u,u,u,u,u,u,u,u,u,u,u,u,u,u,u,u,u,u,u,u,u,u,u,u,u,u,u,u,u,u,u,u,u,u,u,u,u,u,u]→R ⟨fr,σ++IX σ.length g1 g2 s o x⟩:=by
   intro fr hc;refine hR _ (bX.ic ?_ hc);clear hR R;refine bX.cut fun R hR=>?_;simp only[IX,ae,bO,VV,seval]
   have zo:∀ {fr:List V},nP fr [.ptr (σ.length+1) 0,u,u,.ptr (σ.length+5) 0,.i .i64 0,.b (tagged x),u,u,.i .i64 ((jS s x:Nat):Int),u,u,u,u,u,u,u,u,u,u,u,u,u,u,u,u,u,u,u,u,u,u,u,u,u,u,u,u,u,u,u,u,u,u,u,u,u,u,u,u,u,u,u,u,u,u,u,u,u,u,u,u,u,u,u,u,u,u,u,u,u,u,u,u,u,u,u,u,u,u,u,u,u,u,u,u,u,u,u,u,u,u,u,u,u,u,u,u,u,u,u,u,u,u,u,u,u,u,u,u,u,u,u,u,u,u,u,u,u,u,u,u,u,u]→R ⟨fr,σ++IX σ.length g1 g2 s o x⟩:=by
    intro fr hc;refine hR _ (bX.ic ?_ hc);clear hR R;have hlw:IntKind.i64.wrap ((s.len:Int)+1)=((s.len+1:Nat):Int):=aX (by omega);refine bX.cut fun R hR=>?_;simp only[IX,hlw,VV,seval];refine⟨fun h=>?_,fun h=>?_⟩
    ·have h1:512<jS s x∨1024<s.len+1:=by
      simp at h;omega
     have e:iC s x=(3,s):=by simp only[iC,rW,h1,if_true];rfl
     exact fin 3 s g1 g2 (loc:=[_]) (by simp[k6]) e (by rfl)
    ·have h1:¬ (512<jS s x∨1024<s.len+1):=by
      simp at h;omega
     refine hR _ ?_;clear hR R;refine bX.cut fun R hR=>?_;simp only[hlw,VV,seval];refine hR _ ?_;clear hR R;refine bX.cut fun R hR=>?_;simp only[VV,seval];refine⟨fun hk=>⟨⟨by simp only[bO];omega,by simp only[bO,maxLen];omega⟩,?_⟩,fun hk=>?_⟩
     ·have hk:x.kind=1:=by simpa using hk
      have e:iC s x=(0,⟨s.f,s.text++x.text,s.len+1,s.tags⟩):=by simp only[iC,rW,h1,hk,if_true,if_false];rfl
      rw[cT];exact fin 0 ⟨s.f,s.text++x.text,s.len+1,s.tags⟩ g1 (g2+1) (loc:=[_]) (by simp[k6]) e (by rfl)
     ·have hk:¬ x.kind=1:=by simpa using hk
      have e:iC s x=(0,sI (fk (lT s x)) x):=by simp only[iC,rW,h1,hk,if_true,if_false];rfl
      refine hR _ (bX.ic (fr':=[.ptr (σ.length+1) 0,u,u,.ptr (σ.length+5) 0,.i .i64 0,.b (tagged x),u,u,u,u,u,u,u,u,u,u,u,u,u,u,u,u,u,u,u,u,u,u,u,u,u,u,u,u,u,u,u,u,u,u,u,u,u,u,u,u,u,u,u,u,u,u,u,u,u,u,u,u,u,u,u,u,u,u,u,u,u,u,u,u,u,u,u,u,u,u,u,u,u,u,u,u,u,u,u,u,u,u,u,u,u,u,u,u,u,u,u,u,u,u,u,u,u,u,u,u,u,u,u,u,u,u,u,u,u,u,u,u,u,u,u,u,u]) ?_ (by repeat' constructor));clear hR R;refine bX.cut fun R hR=>?_
      have vZ:∀ {fr:List V},nP fr [.ptr (σ.length+1) 0,u,u,.ptr (σ.length+5) 0,.i .i64 0,u,u,u,u,u,u,u,u,u,u,u,u,u,u,u,u,u,u,u,u,u,u,u,u,u,u,u,u,u,u,u,u,u,u,u,u,u,u,u,u,u,u,u,u,u,u,u,u,u,u,u,u,u,u,u,u,u,u,u,u,u,u,u,u,u,u,u,u,u,u,u,u,u,u,u,u,u,u,u,u,u,u,u,u,u,u,u,u,u,u,u,u,u,u,u,u,u,u,u,u,u,u,u,u,u,u,u,u,u,u,u,u,u,u,u,u,u,u]→R ⟨fr,σ++IX σ.length g1 g2 (lT s x) o x⟩:=by
       intro fr hc;refine hR _ (bX.ic ?_ hc);clear hR R;refine bX.cut fun R hR=>?_;simp only[W,seval];refine jc (EK (lT s x) g1 g2 hf σ [o,.box 31 [.i .i64 x.kind,.s x.text,.i .i64 x.id]]) rfl ?_;rintro r σ' ⟨rfl,g3,g4,rfl⟩;simp only[W,seval];refine hR _ (bX.ic (fr':=[.ptr (σ.length+1) 0,u,u,.ptr (σ.length+5) 0,.i .i64 0,u,u,u,u,u,u,u,u,u,u,u,u,u,u,u,u,u,u,u,u,u,u,u,u,u,u,u,u,u,u,u,u,u,u,u,u,u,u,u,u,u,u,u,u,u,u,u,u,u,u,u,u,u,u,u,u,u,u,u,u,u,u,u,u,u,u,u,u,u,u,u,u,u,u,u,u,u,u,u,u,u,u,u,u,u,u,u,u,u,u,u,u,u,u,u,u,u,u,u,u,u,u,u,u,u,u,u,u,u,u,u,u,u,u,u,u,u,u]) ?_ (by repeat' constructor));clear hR R;refine al ?_
       have hff:(fk (lT s x)).f.length≤s.f.length+1:=by
        simp only[fk];split<;>simp[lT]
       simp only[k6,VV,seval];refine⟨?_,?_⟩
       ·simp[maxLen];omega
       ·have hr:(fk (lT s x)).f.map It.cells++[[.i .i64 x.kind,.s x.text,.i .i64 x.id]]=(sI (fk (lT s x)) x).f.map It.cells:=by simp[It.cells,sI]
        rw[hr];exact fin 0 (sI (fk (lT s x)) x) (g3+1) g4 (loc:=[_]) (by simp[k6]) e (by rfl)
      cases s3:tagged x with
      | true =>
       rcases vr s.tags x.id with⟨h2,h3,h4⟩ | ⟨k,b,h2,h3,h4⟩
       all_goals
        have h5:pn (lT s x).tags=pn (je s.tags x.id x):=by simp only[lT,s3,if_true]
        simp only[s3,h3,kz,VV,seval];have h6:=h4 x;simp only[SG,It.cells]at h6;rw[h6,← h5];refine⟨by simp[V.mG,V.vS,V.pure],?_⟩;refine vZ (by repeat' constructor)
      | false =>
       simp only[s3,VV,seval];have:=vZ (fr:=[.ptr (σ.length+1) 0,u,u,.ptr (σ.length+5) 0,.i .i64 0,.b false,u,u,u,u,u,u,u,u,u,u,u,u,u,u,u,u,u,u,u,u,u,u,u,u,u,u,u,u,u,u,u,u,u,u,u,u,u,u,u,u,u,u,u,u,u,u,u,u,u,u,u,u,u,u,u,u,u,u,u,u,u,u,u,u,u,u,u,u,u,u,u,u,u,u,u,u,u,u,u,u,u,u,u,u,u,u,u,u,u,u,u,u,u,u,u,u,u,.b false,u,u,u,u,u,u,u,u,u,u,u,u,u,u,u,u,u,u,u]) (by repeat' constructor);simp only[lT,s3]at this;exact this
   have YH:IntKind.i64.wrap (((s.f.length+(if 0<s.text.length then 1 else 0):Nat):Int)+1)=((s.f.length+(if 0<s.text.length then 1 else 0)+1:Nat):Int):=aX (by split<;>omega);refine⟨fun h=>?_,fun h=>?_⟩
   ·have h1:x.kind≠1∨s.text.length=0:=by simpa using h
    have e:jS s x=s.f.length+(if 0<s.text.length then 1 else 0)+1:=by simp only[jS,h1,if_true]
    refine zo ?_;rw[YH,e];repeat' constructor
   ·have h1:¬ (x.kind≠1∨s.text.length=0):=by simpa using h
    have e:jS s x=s.f.length+(if 0<s.text.length then 1 else 0):=by simp only[jS,h1,if_false];rfl
    refine zo ?_;rw[e];repeat' constructor
  refine⟨fun h=>?_,fun h=>?_⟩
  ·have h1:0<s.text.length:=by simpa using h
   refine W3 ?_;rw[aX (by omega),if_pos h1];repeat' constructor
  ·have h1:¬ 0<s.text.length:=by simpa using h
   refine W3 ?_;rw[if_neg h1];repeat' constructor
 have YS:(tagged x&&tq s x)=true→iC s x=(7,s):=fun h=>by simp[iC,h]
 cases s3:tagged x with
 | false =>
  simp only[s3,VV,seval];exact xS (loc:=[]) (by rw[s3];repeat' constructor) (by simp[s3])
 | true =>
  rcases vr s.tags x.id with⟨h2,h3,h4⟩ | ⟨k,b,h2,h3,h4⟩
  ·simp only[s3,hm,h3,SG,VV,seval];refine⟨by simp[V.mG],by simp[V.mG],br (c:=false) (v:=.s []) (by simp only[VV,seval]<;>rfl) (fun h=>by simp at h) rfl ?_⟩;simp only[VV,seval];refine xS (loc:=[_]) (by rw[s3];repeat' constructor) (by simp[tq,h2])
  ·simp only[s3,hm,h3,SG,It.cells,VV,seval];refine⟨by simp[V.mG],by simp[V.mG],br (by simp only[VV,seval]<;>rfl) (fun _=>vR b.text _) rfl ?_⟩;simp only[VV,seval];have aU:tq s x=(x.kind != 3||b.kind != 2||dz b.text != x.text):=by simp only[tq,h2]
   have hb:(!dz b.text==x.text)=(dz b.text != x.text):=rfl;rw[hb,← aU];refine⟨fun h=>?_,fun h=>?_⟩
   ·exact fin 7 s g1 g2 (loc:=[_,_]) (by simp[k6]) (YS (by simp[s3,h])) (by rfl)
   ·exact xS (loc:=[_]) (by rw[s3];repeat' constructor) (by simp[s3,h])
theorem J8{σ:ah}(aU:bG σ)(g1 g2:Nat)(r:Rd):bG (σ++k6 σ.length g1 g2 r):=b9 aU (by
 simp only[k6,ct,ag,ai,bK,false_imp_iff,implies_true,and_true,true_and];simp only[LW];omega)
theorem LI{σ:ah}{K:Exit→St→Prop}(s:List UInt8)(aU:bG σ)(hlen:s.length<2^39):
  ∀ (n:Nat) (rest pre:List UInt8) (r:Rd) (g1 g2:Nat),s=pre++rest→rest.length<n→r.ok →
  (∀ r',iI n r rest pre.length=((fk r').f,0,0)→r'.ok→∀ g1 g2,(∀ j0 j1 j2 j3 j4 j6 j7 j8 j9 cC cH cG cF cB cE cD cI cQ db de dh dm dv du dt dN dR dU dX ej eD eL eQ eP fb fi fh fg,K (.exit 0) ⟨[j0,j1,j2,j3,j4,.ptr (σ.length+1) 0,j6,j7,j8,j9,cC,cH,cG,cF,cB,cE,cD,cI,cQ,db,de,dh,dm,dv,du,dt,dN,dR,dU,dX,ej,eD,eL,eQ,eP,fb,fi,fh,fg],σ++k6 σ.length g1 g2 r'⟩)) →
  (∀ at' e,iI n r rest pre.length=([],at',e)→∀ loc,(∀ j0 j1 j5 j6 j7 j8 j9 cC cH cG cF cB cE cD cI cQ db de dh dm dv du dt dN dR dU dX ej eD eL eQ eP fb fi fh fg,K .ret ⟨[j0,j1,.nil,.i .i64 at',.i .i64 e,j5,j6,j7,j8,j9,cC,cH,cG,cF,cB,cE,cD,cI,cQ,db,de,dh,dm,dv,du,dt,dN,dR,dU,dX,ej,eD,eL,eQ,eP,fb,fi,fh,fg],σ++loc⟩)) →
  fp σ.length prog Hl K n ⟨[.s s,u,u,.i .i64 pre.length,u,.ptr (σ.length+1) 0,u,u,u,u,u,u,u,u,u,u,u,u,u,u,u,u,u,u,u,u,u,u,u,u,u,u,u,u,u,u,u,u,u],σ++k6 σ.length g1 g2 r⟩
 | 0,rest,pre,r,g1,g2,he,hn,hr,h1,h2=>by omega
 | n+1,[],pre,r,g1,g2,he,hn,hr,h1,h2=>by
  have he:s=pre:=by simpa using he
  subst he;refine ay fun R hR=>?_;simp only[Hl,W,seval];exact⟨fun h=>by simp at h,fun _=>h1 r rfl hr g1 g2 ..⟩
 | n+1,c::rest,pre,r,g1,g2,he,hn,hr,h1,h2=>by
  subst he;have hd:(pre++c::rest).drop pre.length=c::rest:=by simp
  have YK:((pre++c::rest).drop pre.length).take ((pre++c::rest).length - pre.length)=c::rest:=by rw[hd,cJ];simp
  have Ze:=oY (s:=c::rest) (by simp);have Fq:pre.length+(c::rest).length<2^39:=by rw[← List.length_append];exact hlen
  refine ay fun R hR=>?_;simp only[Hl,W,seval];refine⟨fun _=>⟨by simp;omega,?_⟩,fun h=>by simp at h<;>omega⟩;refine an (GK (c::rest) (by simp) _) (by simp only[aW,aZ,aH,VV,seval];rw[YK]) ?_;simp only[It.cells,VV,seval];refine⟨fun h=>?_,fun h=>?_⟩
  ·have h:(aR (c::rest)).2.2=false:=by simpa using h
   exact h2 pre.length 2 (by simp only[iI,h,if_true]) ..
  ·have h:(aR (c::rest)).2.2=true:=by simpa using h
   have hn1:=Ze.2.2 h;have sj:=Ze.1;have ok:=hr;obtain⟨hf,ht,hl⟩:=hr;have hff:r.f.length≤r.len:=by split at hf<;>omega
   refine jc (TT r (aR (c::rest)).1 g1 g2 (by omega) (by omega) (by omega) σ _) rfl ?_
   ·rintro v σ' ⟨rfl,g3,g4,rfl⟩;simp only[VV,seval];refine⟨fun h3=>?_,fun h3=>?_⟩
    ·have h3:(iC r (aR (c::rest)).1).1≠0:=by simpa using h3
     exact h2 pre.length _ (by simp only[iI,h];rw[if_neg (by simp),if_pos h3]) ..
    ·have h3:(iC r (aR (c::rest)).1).1=0:=by simpa using h3
     have h4:=Lf ok Ze.2.1 h3;obtain⟨k,hk⟩:∃ k:Nat,(aR (c::rest)).2.1=k:=⟨(aR (c::rest)).2.1.toNat,by omega⟩
     have e:iI (n+1) r (c::rest) pre.length=iI n (iC r (aR (c::rest)).1).2 ((c::rest).drop k) ((pre++(c::rest).take k).length:Nat):=by
      simp only[iI,h];rw[if_neg (by simp),if_neg (by simp[h3]),hk];simp only[aH,List.length_append,ba];congr 1;omega
     rw[e]at h1 h2;refine hR _ (cy _ _ (J8 aU _ _ _) ?_ ?_ (LI _ aU hlen n ((c::rest).drop k) (pre++(c::rest).take k) (iC r (aR (c::rest)).1).2 g3 g4 (by rw[List.append_assoc,List.take_append_drop]) (by simp only[bB];simp at hn ⊢;omega) h4 h1 h2))
     ·have e3:(((pre++(c::rest).take k).length:Nat):Int)=(pre.length:Int)+k:=by
       rw[List.length_append,ba,show min k (c::rest).length=k by omega];omega
      rw[hk,IntWalk.i64_in _ (by omega),e3]
      repeat' constructor
     ·simp only[LW];simp[k6]
theorem Ld{n:Nat}{xs:List V}{σ:ah}:Wk prog n xs (σ++[.map 3 31 [],.box 166 [.nil,.nil,.i .i64 0,.mp σ.length]]) xs (σ++k6 σ.length 0 0 wY):=by
 have h1:=Wk.qq (P:=prog) (n:=n) (xs:=xs) (id:=σ.length+1) (j:=0) (σ:=σ++[.map 3 31 [],.box 166 [.nil,.nil,.i .i64 0,.mp σ.length]]) A5 (by simp only[W,seval];rfl) rfl;simp only[W,seval]at h1;have h2:=Wk.qq (P:=prog) (n:=n) (xs:=xs) (id:=σ.length+1) (j:=1) (σ:=σ++[.map 3 31 [],.box 166 [.own (σ.length+2) 0,.nil,.i .i64 0,.mp σ.length],.row 31 3 32 0 false []]) KI (by simp only[W,seval];rfl) rfl;simp only[W,seval]at h2;exact h1.trans h2
theorem om(s:List UInt8)(hlen:s.length<2^39)(σ:ah):PC prog 85 [.s s] σ (fun r σ'=>r=.gZ [.sl 3 ((parse s).1.map It.cells),.i .i64 (parse s).2.1,.i .i64 (parse s).2.2]∧σ'=σ):=by
 refine PC.intro func85 c85 fun aU da=>al ?_;simp only[p85,SS,seval];simp only[VV,seval];have e0:parse s=iI (s.length+1) wY s (([]:List UInt8).length:Nat):=rfl;refine bX.wk (Ld.trans (Wk.ic (ys:=[.s s,u,u,.i .i64 (([]:List UInt8).length:Nat),u,.ptr (σ.length+1) 0,u,u,u,u,u,u,u,u,u,u,u,u,u,u,u,u,u,u,u,u,u,u,u,u,u,u,u,u,u,u,u,u,u]) (by repeat' constructor))) (bX.ml (s.length+1) (LI s aU hlen (s.length+1) s [] wY 0 0 rfl (by omega) ⟨by simp[wY],by simp[wY],by simp[wY]⟩ ?_ ?_))
 ·intro r' hp gC g1 g2;intros;simp only[W,seval];refine jc (EK r' g1 g2 (by have:=gC.f;have:=gC.len;split at*<;> omega) σ []) (by simp[ev]) ?_;rintro r σ' ⟨rfl,g3,g4,rfl⟩;simp only[k6,bt,W,seval];refine iy 2 aU (.inr rfl) rfl rfl ?_ ?_
  ·simp[fz,kF,gh,qc,OB]
  ·rw[e0,hp];simp[fz,kF,one]
 ·intro at' e hp loc;intros;simp only[W,seval];refine jW aU (.inr rfl) rfl (ys:=[.sl 3 [],.i .i64 at',.i .i64 e]) (.cons (.nil _) (.cons (.refl _) (.cons (.refl _) .nil))) (by simp only[LW]) ⟨?_,rfl⟩;rw[e0,hp];rfl
end Go.Proofs.Tryz

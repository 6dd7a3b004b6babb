/- A part of the proof of the statement of the last text of this claim; its conditions stand there. -/
import Derived.Test.YtkkjfegefckehaaGreatDoorB27
set_option linter.all false

namespace Go.Proofs.Tryz
open Go Go.Pm Go.Bt
open Go.Pm.V(u)
theorem GC:Ti prog 76 3 32:=nR (by kernel_rfl)
theorem Rt:Ti prog 5 1 1:=nR (by kernel_rfl)
theorem vS{σ:ag}{K:Exit→St→Prop}(its:List It)(aQ:bP σ)(hlen:its.length<2^40):
  ∀ (n:Nat) (rest pre out:List It),its=pre++rest→rest.length≤n→aM rest<2^40→out.length≤pre.length →
  (∀ j0 j1 j2 j4 j5 j6 j7 j8 j9 cT cS cX cR cN cM cL cW df dn dx dy dD dI dH dG dX ez eA eH eW fg fi ft fw fG fM fL fK fX gi gF gR gQ il ix iV iU iT iS iR jo jn jm jK jY,K (.exit 0) ⟨[j0,j1,j2,.own σ.length (out++jX n rest).length,j4,j5,j6,j7,j8,j9,cT,cS,cX,cR,cN,cM,cL,cW,df,dn,dx,dy,dD,dI,dH,dG,dX,ez,eA,eH,eW,fg,fi,ft,fw,fG,fM,fL,fK,fX,gi,gF,gR,gQ,il,ix,iV,iU,iT,iS,iR,jo,jn,jm,jK,jY],σ++[.row 76 3 32 (out++jX n rest).length false ((out++jX n rest).map It.cells)]⟩) →
  fO σ.length prog Hc K (n+1) ⟨[.sl 3 (its.map It.cells),u,u,.own σ.length out.length,.i .i64 pre.length,u,u,u,u,u,u,u,u,u,u,u,u,u,u,u,u,u,u,u,u,u,u,u,u,u,u,u,u,u,u,u,u,u,u,u,u,u,u,u,u,u,u,u,u,u,u,u,u,u,u,u],σ++[.row 76 3 32 out.length false (out.map It.cells)]⟩
 | n,[],pre,out,he,hn,ht,ho,h1=>by
  have he:its=pre:=by simpa using he
  subst he;have e:out++jX n []=out:=by cases n<;>simp[jX]
  rw[e]at h1;refine ax fun R hR=>?_;simp only[Hc,W,seval];exact⟨fun h=>by simp at h,fun _=>h1 ..⟩
 | 0,x::rest,pre,out,he,hn,ht,ho,h1=>by simp at hn
 | n+1,x::rest,pre,out,he,hn,ht,ho,h1=>by
  subst he;refine ax fun R hR=>?_;simp only[Hc,It.cells,W,seval];refine⟨fun _=>⟨by simp;omega,fun hk=>?_,fun hk=>?_⟩,fun h=>by simp at h;omega⟩
  ·simp at hk;have e:out++jX (n+1) (x::rest)=(out++[x])++jX n rest:=by simp[jX,hk]
   rw[e]at h1;have hr:out.map It.cells++[[.i .i64 x.kind,.s x.text,.i .i64 x.id]]=(out++[x]).map It.cells:=by simp[It.cells]
   have hl:out.length+1=(out++[x]).length:=by simp
   rw[hr,hl];simp only[aM]at ht;refine⟨by simp;omega,?_,?_⟩
   ·simp at hlen;simp[maxLen];omega
   ·refine hR _ (aW ?_ (vS _ aQ hlen n rest (pre++[x]) (out++[x]) (by simp) (by simp at hn;omega) (by omega) (by simp;omega) h1));rw[aV (by simp at hlen;omega)];simp only[List.length_append,ab,ah]
    repeat' constructor
  ·simp at hk;obtain⟨run,eP⟩:=wv (x::rest);have hlr:=q8 (r:=rest) hk;have htt:=yu (x::rest)
   have rV:(pre++x::rest).length - (runText (x::rest)).2.length=(pre++run).length:=by
    have:=congrArg List.length eP;simp only[List.length_append]at this ⊢;omega
   refine bA.wk ((Wk.nV (σ:=σ) [_] (k:=5) Rt rfl).trans (Wk.ej ?_)) (bA.pd ((x::rest).length+1) (Sz _ out.length (out.map It.cells) aQ hlen (x::rest) pre [] 0 rfl (by simp;omega) ?_))
   ·simp only[W,seval]
    repeat' constructor
   ·intros;rw[rV,ak];simp only[aL,gK,W,seval];have aeU:pre++x::rest=(pre++run)++(runText (x::rest)).2:=by rw[List.append_assoc,← eP]
    have KE:1≤run.length:=by
     have:=congrArg List.length eP;simp only[List.length_append,ab]at this;omega
    refine⟨fun h=>⟨?_,?_⟩,fun h=>?_⟩
    ·simp at hlen;simp[maxLen];omega
    ·simp at h
     have e:out++jX (n+1) (x::rest)=(out++[⟨1,(runText (x::rest)).1,0⟩])++jX n (runText (x::rest)).2:=by
      have:¬ (runText (x::rest)).1.length=0:=by omega
      simp[jX,hk,this]
     rw[e]at h1;have hr:out.map It.cells++[[.i .i64 1,.s (runText (x::rest)).1,.i .i64 0]]=(out++[(⟨1,(runText (x::rest)).1,0⟩:It)]).map It.cells:=by simp[It.cells]
     have hl:out.length+1=(out++[(⟨1,(runText (x::rest)).1,0⟩:It)]).length:=by simp
     rw[hr,hl];have qG:bP (σ++[.row 76 3 32 (out++[(⟨1,(runText (x::rest)).1,0⟩:It)]).length false ((out++[(⟨1,(runText (x::rest)).1,0⟩:It)]).map It.cells)]):=bU aQ (by simp);refine hR _ (cH [_] [_] qG ?_ ?_ (vS _ aQ hlen n (runText (x::rest)).2 (pre++run) (out++[⟨1,(runText (x::rest)).1,0⟩]) aeU (by simp at hn;omega) (by omega) (by simp;omega) h1))
     ·repeat' constructor
     ·simp only[LW,ab,ah,aK];omega
    ·simp at h
     have e:out++jX (n+1) (x::rest)=out++jX n (runText (x::rest)).2:=by
      simp[jX,hk,h]
     rw[e]at h1;have qG:bP (σ++[.row 76 3 32 out.length false (out.map It.cells)]):=bU aQ (by simp);refine hR _ (cH [_] [_] qG ?_ ?_ (vS _ aQ hlen n (runText (x::rest)).2 (pre++run) out aeU (by simp at hn;omega) (by omega) (by simp;omega) h1))
     ·repeat' constructor
     ·simp only[LW,ab,ah,aK];omega
theorem HU(its:List It)(hlen:its.length<2^40)(ht:aM its<2^40)(σ:ag):PC prog 207 [.sl 3 (its.map It.cells)] σ (fun r σ'=>r=.sl 3 ((normalize its).map It.cells)∧σ'=σ):=by
 refine PC.intro func207 ajF fun aQ cz=>aj ?_;simp only[acQ,SS,seval];simp only[W,seval];refine bA.wk ((Wk.gZ (k:=3) GC rfl).trans (Wk.ej ?_)) (bA.pd (its.length+1) (vS its aQ hlen its.length its [] [] rfl (aB _) ht (aB _) ?_))
 ·simp only[W,seval]
  repeat' constructor
 ·intros;simp only[W,seval];refine gg 0 aQ (.inr rfl) rfl rfl ?_ ?_
  ·simp[fz,kc,gM,uG]
  ·simp[fz,kc,one,normalize]
theorem FQ{σ:ag}{K:Exit→St→Prop}(F:V)(fr to:List Int)(Qn:fr.length<2^63):
  ∀ (i:Nat) (l:List (Int×Int)),i≤min fr.length to.length→(∀ x,gz x l=Eu (fr.drop i) (to.drop i) x) →
  (∀ l,(∀ x,gz x l=Eu fr to x)→(∀ j1 j2 j3 j4 j5 j6 j8 j9 cT cS cX cR cN cM cL cW df dn dx dy dD dI dH dG dX ez eA eH eW fg fi ft fw fG fM fL fK fX gi gF gR gQ il ix iV iU iT iS iR jo jn jm jK jY kx ku kt kH,K (.exit 0) ⟨[F,j1,j2,j3,j4,j5,j6,.mp σ.length,j8,j9,cT,cS,cX,cR,cN,cM,cL,cW,df,dn,dx,dy,dD,dI,dH,dG,dX,ez,eA,eH,eW,fg,fi,ft,fw,fG,fM,fL,fK,fX,gi,gF,gR,gQ,il,ix,iV,iU,iT,iS,iR,jo,jn,jm,jK,jY,kx,ku,kt,kH],σ++[.map 3 3 (qj l)]⟩)) →
  fO σ.length prog Hp K (i+1) ⟨[F,.sl 1 (fr.map bj),.sl 1 (to.map bj),u,u,u,u,.mp σ.length,.i .i64 ((i:Int) - 1),u,u,u,u,u,u,u,u,u,u,u,u,u,u,u,u,u,u,u,u,u,u,u,u,u,u,u,u,u,u,u,u,u,u,u,u,u,u,u,u,u,u,u,u,u,u,u,u,u,u,u],σ++[.map 3 3 (qj l)]⟩
 | 0,l,hi,hl,h1=>by
  refine ax fun R hR=>?_;simp only[Hp,W,seval];exact⟨fun h=>by simp at h,fun _=>h1 l (by simpa using hl) ..⟩
 | i+1,l,hi,hl,h1=>by
  have hi1:i<fr.length:=by omega
  have Lv:i<to.length:=by omega
  have e0:((i+1:Nat):Int) - 1=(i:Nat):=by omega
  have hw:IntKind.i64.wrap ((i:Int) - 1)=(i:Int) - 1:=IntWalk.i64_in _ (by omega);have Td:∀ x,gz x (ln l (fr.getD i 0) (to.getD i 0))=Eu (fr.drop i) (to.drop i) x:=fun x=>by rw[rW,Jh hi1 Lv,hl x]
  rw[e0];refine ax fun R hR=>?_;simp only[Hp,an,qv hi1,qv Lv,W,seval];rcases Bh l (fr.getD i 0)with⟨_,h3,h4⟩ | ⟨k,b,_,h3,h4⟩
  all_goals
   simp only[h3,hw,nk,h4,W,seval];refine⟨fun _=>⟨by simp;omega,by simp;omega,by simp[V.qi,V.BQ,V.pure],?_⟩,fun h=>by simp at h<;>omega⟩;refine hR _ (aW ?_ (FQ F fr to Qn i _ (by omega) Td h1))
   repeat' constructor
theorem P3{σ:ag}{K:Exit→St→Prop}(its:List It)(fr to:List Int)(l:List (Int×Int))(aQ:bP σ)(hlen:its.length<2^40)(hl:∀ x,gz x l=Eu fr to x):∀ (rest pre:List It) (out:List It),its=pre++rest→out.length≤pre.length →
  (∀ j0 j1 j2 j3 j4 j5 j6 j7 j8 cT cS cX cR cN cM cL cW df dn dx dy dD dI dH dG dX ez eA eH eW fg fi ft fw fG fM fL fK fX gi gF gR gQ il ix iV iU iT iS iR jo jn jm jK jY kx ku kt kH,K (.exit 2) ⟨[j0,j1,j2,j3,j4,j5,j6,j7,j8,.own (σ.length+1) (out++renamed rest fr to).length,cT,cS,cX,cR,cN,cM,cL,cW,df,dn,dx,dy,dD,dI,dH,dG,dX,ez,eA,eH,eW,fg,fi,ft,fw,fG,fM,fL,fK,fX,gi,gF,gR,gQ,il,ix,iV,iU,iT,iS,iR,jo,jn,jm,jK,jY,kx,ku,kt,kH],σ++[.map 3 3 (qj l),.row 76 3 32 (out++renamed rest fr to).length false ((out++renamed rest fr to).map It.cells)]⟩) →
  fO σ.length prog C1 K (rest.length+1) ⟨[u,u,u,u,u,u,u,.mp σ.length,u,.own (σ.length+1) out.length,u,u,u,u,u,u,u,u,u,u,u,u,u,u,u,u,u,u,u,u,u,u,u,u,.sl 3 (its.map It.cells),.i .i64 its.length,.i .i64 pre.length,u,u,u,u,u,u,u,u,u,u,u,u,u,u,u,u,u,u,u,u,u,u,u],σ++[.map 3 3 (qj l),.row 76 3 32 out.length false (out.map It.cells)]⟩:=by
 intro rest
 induction rest with
 | nil =>
  intro pre out he ho h1;have he:its=pre:=by simpa using he
  subst he;have e:out++renamed [] fr to=out:=by simp[renamed]
  rw[e]at h1;refine ax fun R hR=>?_;simp only[C1,W,seval];exact⟨fun h=>by simp at h,fun _=>h1 ..⟩
 | cons x rest ih =>
  intro pre out he ho h1;subst he
  have hw:IntKind.i64.wrap ((pre.length:Int)+1)=(((pre++[x]).length:Nat):Int):=by
   rw[aV (by simp at hlen;omega)];simp
  have Tm:pre++x::rest=(pre++[x])++rest:=by simp
  have put:∀ (y:It),NA fr to x=some y→∀ {R:St→Prop} {f0:List V} ,(∀ st',fO σ.length prog C1 K (rest.length+1) st'→R st')→pH f0 [u,u,u,u,u,u,u,.mp σ.length,u,.own (σ.length+1) (out++[y]).length,u,u,u,u,u,u,u,u,u,u,u,u,u,u,u,u,u,u,u,u,u,u,u,u,.sl 3 ((pre++x::rest).map It.cells),.i .i64 (pre++x::rest).length,.i .i64 (pre++[x]).length,u,u,u,u,u,u,u,u,u,u,u,u,u,u,u,u,u,u,u,u,u,u,u] →
    R ⟨f0,σ++[.map 3 3 (qj l),.row 76 3 32 (out++[y]).length false ((out++[y]).map It.cells),.box 76 y.cells]⟩:=fun y hy R f0 hR hc=>by
   have e:out++renamed (x::rest) fr to=(out++[y])++renamed rest fr to:=by simp[renamed,hy]
   rw[e]at h1;have qG:bP (σ++[.map 3 3 (qj l),.row 76 3 32 (out++[y]).length false ((out++[y]).map It.cells)]):=bU aQ (by simp);refine hR _ (cH [_,_] [_] qG hc ?_ (ih (pre++[x]) (out++[y]) Tm (by simp;omega) h1));simp only[LW,ab,ah,aK];omega
  have okA:∀ (m:Nat),m≤pre.length→((m+1)*32≤2^47∧m+1≤maxLen):=fun m hm=>by simp at hlen;simp[maxLen];omega
  have cP:∀ (y:It),out.map It.cells++[[.i .i64 y.kind,.s y.text,.i .i64 y.id]]=(out++[y]).map It.cells:=fun y=>by simp[It.cells]
  have rB:∀ (y:It),out.length+1=(out++[y]).length:=fun y=>by simp
  refine ax fun R hR=>?_;simp only[C1,It.cells,W,seval];refine⟨fun _=>⟨by simp;omega,?_⟩,fun h=>by simp at h;omega⟩;refine ai (uX x _) rfl ?_;simp only[W,seval];refine⟨fun ht=>?_,fun ht=>?_⟩
  ·have hf:∀ s,iD (σ++(.map 3 3 (qj l))::s) 0 (.mp σ.length) (.i .i64 x.id)=gH 0 (.i .i64 x.id) (qj l) 0:=fun s=>by simp only[iD,gr,ao]
   rcases Bh l x.id with⟨h2,h3,h4⟩ | ⟨k,b,h2,h3,h4⟩
   ·have S3:NA fr to x=none:=by simp only[NA,ht,if_true,← hl x.id,h2,Option.map_none]
    have e:out++renamed (x::rest) fr to=out++renamed rest fr to:=by simp[renamed,S3]
    rw[e]at h1;simp only[hf,h3,W,seval];refine⟨by simp[V.qi],?_⟩;have qG:bP (σ++[.map 3 3 (qj l),.row 76 3 32 out.length false (out.map It.cells)]):=bU aQ (by simp);refine hR _ (cH [_,_] [_] qG ?_ ?_ (ih (pre++[x]) out Tm (by simp;omega) h1))
    ·rw[hw];repeat' constructor
    ·simp only[LW,ab,ah,aK];omega
   ·have S3:NA fr to x=some ⟨x.kind,x.text,b⟩:=by simp only[NA,ht,if_true,← hl x.id,h2,cU]
    simp only[hf,h3,W,seval];refine⟨by simp[V.qi],⟨okA _ (by rw[List.length_map];exact ho),?_⟩⟩;rw[rB ⟨x.kind,x.text,b⟩,cP ⟨x.kind,x.text,b⟩];refine put _ S3 hR ?_;rw[hw];repeat' constructor
  ·have S3:NA fr to x=some x:=by simp only[NA,ht];rfl
   refine⟨okA _ (by rw[List.length_map];exact ho),?_⟩;rw[rB x,cP x];refine put _ S3 hR ?_;rw[hw];repeat' constructor
theorem FE(its:List It)(fr to:List Int)(hlen:its.length<2^40)(ht:aM its<2^40)(σ:ag):PC prog 167 [.sl 3 (its.map It.cells),.sl 1 (fr.map bj),.sl 1 (to.map bj)] σ (fun r σ'=>r=.sl 3 ((rename its fr to).map It.cells)∧σ'=σ):=by
 refine PC.intro func167 aj6 fun aQ cz=>aj ?_;have Qn:=lD (cz 1 _ rfl).1;have hto:=lD (cz 2 _ rfl).1;rw[List.length_map]at Qn hto;simp only[adi,SS,seval];simp only[List.length_map,W,seval]
 have Th:IntKind.i64.wrap ((if((to.length:Int)<(fr.length:Int))then(to.length:Int)else(fr.length:Int)) - 1)=((min fr.length to.length:Nat):Int) - 1:=by
  rw[IntWalk.i64_in _ (by split<;>omega)];split<;>omega
 rw[Th];refine bA.aW (fr':=[.sl 3 (its.map It.cells),.sl 1 (fr.map bj),.sl 1 (to.map bj),u,u,u,u,.mp σ.length,.i .i64 (((min fr.length to.length:Nat):Int) - 1),u,u,u,u,u,u,u,u,u,u,u,u,u,u,u,u,u,u,u,u,u,u,u,u,u,u,u,u,u,u,u,u,u,u,u,u,u,u,u,u,u,u,u,u,u,u,u,u,u,u,u]) ?_ _ (FQ _ fr to Qn (min fr.length to.length) [] (aB _) (fun x=>by rw[Nw (aB _)];rfl) ?_)
 ·repeat' constructor
 ·intro l hl;intros;simp only[List.length_map,W,seval];refine bA.wk ((Wk.nV (σ:=σ) [_] (k:=9) GC rfl).trans (Wk.ej ?_)) (bA.pd (its.length+1) (P3 its fr to l aQ hlen hl its [] [] rfl (aB _) ?_))
  ·simp only[W,seval]
   repeat' constructor
  ·intros;simp only[ak,W,seval];refine oD (σ.length+1) (by simp only[nC];rfl) (HU (renamed its fr to) (qy (A1 _ _ _) hlen) (qy (yC _ _ _) ht) _) (by simp[fz,kc,ev]) ?_;simp only[W,seval];exact aG aQ (.inr rfl) rfl (by simp only[LW]) ⟨rfl,rfl⟩
theorem V8{σ:ag}{K:Exit→St→Prop}(A B:V)(m:List Int)(hlen:m.length<2^40):∀ (rest pre l:List Int) (g:Nat) (sh:Bool),m=pre++rest→l.length+rest.length<2^40 →
  (∀ g sh,(∀ j2 j3 j4 j5 j7 j8 j9 cT cS cX cR cN cM cL cW df dn dx dy dD dI dH dG dX ez eA eH eW fg fi ft fw fG fM fL fK,K (.exit 0) ⟨[A,B,j2,j3,j4,j5,.own σ.length g,j7,j8,j9,cT,cS,cX,cR,cN,cM,cL,cW,df,dn,dx,dy,dD,dI,dH,dG,dX,ez,eA,eH,eW,fg,fi,ft,fw,fG,fM,fL,fK],σ++[.row 3 1 8 g sh ((fj l rest).map bj)]⟩)) →
  fO σ.length prog HL K (rest.length+1) ⟨[A,B,u,u,u,u,.own σ.length g,u,u,u,u,u,.sl 1 (m.map bj),.i .i64 m.length,.i .i64 pre.length,u,u,u,u,u,u,u,u,u,u,u,u,u,u,u,u,u,u,u,u,u,u,u,u],σ++[.row 3 1 8 g sh (l.map bj)]⟩:=by
 intro rest
 induction rest with
 | nil =>
  intro pre l g sh he hl h1;have he:m=pre:=by simpa using he
  subst he;refine ax fun R hR=>?_;simp only[HL,W,seval];exact⟨fun h=>by simp at h,fun _=>h1 _ _ ..⟩
 | cons x rest ih =>
  intro pre l g sh he hl h1;subst he
  have hw:IntKind.i64.wrap ((pre.length:Int)+1)=(((pre++[x]).length:Nat):Int):=by
   rw[aV (by simp at hlen;omega)];simp
  have Tm:pre++x::rest=(pre++[x])++rest:=by simp
  refine ax fun R hR=>?_;simp only[HL,bj,W,seval];refine⟨fun _=>⟨by simp;omega,?_⟩,fun h=>by simp at h<;>omega⟩;refine oD σ.length (by simp only[gr];rfl) (D1 l x _) (by simp[fz,kc,ev,bj]) ?_;simp only[W,seval];simp only[ab]at hl;refine⟨fun h=>⟨?_,?_⟩,fun h=>?_⟩
  ·simp[maxLen];omega
  ·have e:fj l (x::rest)=fj (l++[x]) rest:=by
    simp at h;simp[fj,h]
   rw[e]at h1;have hr:List.map (fun n=>[V.i .i64 n]) l++[[.i .i64 x]]=(l++[x]).map bj:=by simp[bj]
   refine hR _ ?_;have ZN:l.map bj++[[.i .i64 x]]=(l++[x]).map bj:=by simp[bj]
   rw[ZN];refine aW ?_ (ih (pre++[x]) (l++[x]) (g+1) _ Tm (by simp;omega) h1);rw[hw];repeat' constructor
  ·have e:fj l (x::rest)=fj l rest:=by
    simp at h;simp[fj,h]
   rw[e]at h1;refine hR _ (aW ?_ (ih (pre++[x]) l g _ Tm (by omega) h1));rw[hw];repeat' constructor
theorem II(s t:List It)(hs:s.length<2^39)(ht:t.length<2^39)(hs2:aM s<2^40)(ht2:aM t<2^40)(σ:ag):PC prog 104 [.sl 3 (s.map It.cells),.sl 3 (t.map It.cells)] σ (fun r σ'=>r=.iK [.sl 3 ((fZ s t).map It.cells),.sl 3 ((gT s t).map It.cells)]∧σ'=σ):=by
 refine PC.intro func104 akO fun aQ cz=>aj ?_;have h1:=oM s;have h2:=oM t;have h3:=tv (numbers t) (numbers s);simp only[ad3,SS,seval];simp only[W,seval];refine ai (Bd s (by omega) _) rfl ?_;simp only[W,seval];refine ai (Mm t (by omega) _) rfl ?_;simp only[List.length_map,W,seval];refine bA.aW ?_ ((numbers t).length+1) (V8 (.sl 3 (s.map It.cells)) (.sl 3 (t.map It.cells)) (numbers t) (by omega) (numbers t) [] (numbers s) 0 false rfl (by omega) ?_)
 ·repeat' constructor
 ·intro g sh;intros;simp only[W,seval];have hc:(fj (numbers s) (numbers t)).length<2^40:=by omega
  refine ai (Br (fj (numbers s) (numbers t)).length hc _) (by simp[ev]) ?_;simp only[W,seval];refine oD σ.length (by simp only[gr];rfl) (FE s (bG s t) (cu (bG s t).length) (by omega) hs2 _) (by simp[fz,kc,ev,bG]) ?_;simp only[W,seval];refine ai (Br (fj (numbers s) (numbers t)).length hc _) (by simp[ev]) ?_;simp only[W,seval];refine oD σ.length (by simp only[gr];rfl) (FE t (bG s t) (cu (bG s t).length) (by omega) ht2 _) (by simp[fz,kc,ev,bG]) ?_;simp only[W,seval];exact aG aQ (.inr rfl) rfl (by simp only[LW]) ⟨rfl,rfl⟩
theorem Tp(c:UInt8)(σ:ag):PC prog 231 [.i .u8 c.toNat] σ (fun r σ'=>r=.iK [.i .u8 (ji c).1.toNat,.b (ji c).2]∧σ'=σ):=by
 refine PC.intro func231 ajo fun aQ cz=>aj ?_;simp only[acA,SS,seval];simp only[W,seval];refine⟨fun h=>?_,fun h=>⟨fun h2=>?_,fun h2=>?_⟩⟩<;>refine aO (.inr rfl) rfl ?_
 ·simp at h;have:=WG c (by omega);simp[one,this]
 ·simp at h2;have:=WE c (by omega);simp[one,this]
 ·simp at h h2;have:=ZZ c (by omega) (by omega);simp[one,this]
theorem JP(c:UInt8)(σ:ag):PC prog 211 [.i .u8 c.toNat] σ (fun r σ'=>r=.b (sq c)∧σ'=σ):=by
 refine PC.intro func211 ajB fun aQ cz=>aj ?_;simp only[acM,SS,seval];simp only[W,seval];refine bg (by simp only[W,seval];rfl) (fun _=>D6 c _) rfl ?_;simp only[W,seval];refine aO (.inr rfl) rfl ⟨?_,rfl⟩;simp only[one,sq,aE,aT,V.b.injEq];simp only[← Yw];rfl
theorem QF(s:List UInt8)(σ:ag):PC prog 208 [.s s] σ (fun r σ'=>r=.iK [.i .u8 (dp s).1.toNat,.i .i64 (dp s).2.1,.b (dp s).2.2]∧σ'=σ):=by
 refine PC.intro func208 ajE fun aQ cz=>aj ?_;simp only[acP,SS,seval]
 by_cases h2:s.length<2
 ·have d2:decide ((s.length:Int)<2)=true:=by simp;omega
  simp only[d2,W,seval];refine aO (.inr rfl) rfl ⟨?_,rfl⟩;simp[one,dp,h2]
 have d2:decide ((s.length:Int)<2)=false:=by simp;omega
 have bnd:(0:Int)≤1∧(1:Int)<s.length:=by omega
 by_cases c92:s.getD 1 0=92
 ·simp only[d2,OV (k:=92) c92 rfl,W,Int.reduceToNat,reduceIte,reduceCtorEq]
  repeat refine And.intro bnd ?_
  refine aO (.inr rfl) rfl ⟨?_,rfl⟩;have e:dp s=(s.getD 1 0,2,true):=by simp[dp,h2,← List.getD_eq_getElem?_getD,c92]
  rw[e];rfl
 by_cases wm:s.getD 1 0=60
 ·simp only[d2,rD (k:=92) c92 rfl,OV (k:=60) wm rfl,W,Int.reduceToNat,reduceIte,reduceCtorEq]
  repeat refine And.intro bnd ?_
  refine aO (.inr rfl) rfl ⟨?_,rfl⟩;have e:dp s=(s.getD 1 0,2,true):=by simp[dp,h2,← List.getD_eq_getElem?_getD,c92,wm]
  rw[e];rfl
 by_cases nJ:s.getD 1 0=123
 ·simp only[d2,rD (k:=92) c92 rfl,rD (k:=60) wm rfl,OV (k:=123) nJ rfl,W,Int.reduceToNat,reduceIte,reduceCtorEq]
  repeat refine And.intro bnd ?_
  refine aO (.inr rfl) rfl ⟨?_,rfl⟩;have e:dp s=(s.getD 1 0,2,true):=by simp[dp,h2,← List.getD_eq_getElem?_getD,c92,wm,nJ]
  rw[e];rfl
 by_cases Fj:s.getD 1 0=110
 ·simp only[d2,rD (k:=92) c92 rfl,rD (k:=60) wm rfl,rD (k:=123) nJ rfl,OV (k:=110) Fj rfl,W,Int.reduceToNat,reduceIte,reduceCtorEq]
  repeat refine And.intro bnd ?_
  refine aO (.inr rfl) rfl ⟨?_,rfl⟩;have e:dp s=(10,2,true):=by simp[dp,h2,← List.getD_eq_getElem?_getD,c92,wm,nJ,Fj]
  rw[e];rfl
 by_cases Ld:s.getD 1 0=116
 ·simp only[d2,rD (k:=92) c92 rfl,rD (k:=60) wm rfl,rD (k:=123) nJ rfl,rD (k:=110) Fj rfl,OV (k:=116) Ld rfl,W,Int.reduceToNat,reduceIte,reduceCtorEq]
  repeat refine And.intro bnd ?_
  refine aO (.inr rfl) rfl ⟨?_,rfl⟩;have e:dp s=(9,2,true):=by simp[dp,h2,← List.getD_eq_getElem?_getD,c92,wm,nJ,Fj,Ld]
  rw[e];rfl
 have all:∀ {c:UInt8},s.getD 1 0=c→c=120→dp s=if s.length<4 then(0,0,false)else(jZ (s.getD 2 0) (s.getD 3 0),4,(ji (s.getD 2 0)).2&&(ji (s.getD 3 0)).2&&(jZ (s.getD 2 0) (s.getD 3 0)==13||l0 (jZ (s.getD 2 0) (s.getD 3 0))==1)):=by
  rintro c h rfl;simp only[dp,h2,h,if_false];rfl
 by_cases Nb:s.getD 1 0=120
 ·have e:=all Nb rfl
  by_cases h4:s.length<4
  ·have d4:decide ((s.length:Int)<4)=true:=by simp;omega
   simp only[d2,d4,rD (k:=92) c92 rfl,rD (k:=60) wm rfl,rD (k:=123) nJ rfl,rD (k:=110) Fj rfl,rD (k:=116) Ld rfl,OV (k:=120) Nb rfl,W,Int.reduceToNat,reduceIte,reduceCtorEq]
   repeat refine And.intro bnd ?_
   refine aO (.inr rfl) rfl ⟨?_,rfl⟩;rw[e,if_pos h4];rfl
  have d4:decide ((s.length:Int)<4)=false:=by simp;omega
  rw[if_neg h4]at e;simp only[d2,d4,rD (k:=92) c92 rfl,rD (k:=60) wm rfl,rD (k:=123) nJ rfl,rD (k:=110) Fj rfl,rD (k:=116) Ld rfl,OV (k:=120) Nb rfl,W,Int.reduceToNat,reduceIte,reduceCtorEq]
  repeat refine And.intro bnd ?_
  refine⟨by omega,?_⟩;refine ai (Tp (s.getD 2 0) _) rfl ?_;simp only[Int.reduceToNat,W,seval];refine⟨by omega,?_⟩;refine ai (Tp (s.getD 3 0) _) rfl ?_;simp only[MK,W,Int.reduceToNat,reduceIte];refine⟨by omega,?_⟩;refine bg (by simp only[W,seval];rfl) (fun _=>D6 (jZ (s.getD 2 0) (s.getD 3 0)) _) rfl ?_;simp only[W,seval];refine aO (.inr rfl) rfl ⟨?_,rfl⟩;rw[e];simp only[one,aE,aT];rw[← zV];rfl
 ·simp only[d2,rD (k:=92) c92 rfl,rD (k:=60) wm rfl,rD (k:=123) nJ rfl,rD (k:=110) Fj rfl,rD (k:=116) Ld rfl,rD (k:=120) Nb rfl,W,Int.reduceToNat,reduceIte,reduceCtorEq]
  repeat refine And.intro bnd ?_
  refine aO (.inr rfl) rfl ⟨?_,rfl⟩;have e:dp s=(0,0,false):=by simp[dp,h2,← List.getD_eq_getElem?_getD,c92,wm,nJ,Fj,Ld,Nb]
  rw[e];rfl
theorem Vz{σ:ag}{K:Exit→St→Prop}(s:List UInt8)(hlen:s.length<4):∀ (rest pre:List UInt8) (n:Int),s=pre++rest→0≤n→n<10^pre.length →
  (rest.all dP=true→(∀ j0 j1 j2 j3 j5 j6 j7 j8 j9 cT cS cX cR cN cM cL cW df dn dx dy dD dI dH dG dX ez eA eH eW fg fi ft fw fG fM fL fK fX gi gF gR gQ il ix,K (.exit 0) ⟨[j0,j1,j2,j3,.i .i64 (dZ n rest),j5,j6,j7,j8,j9,cT,cS,cX,cR,cN,cM,cL,cW,df,dn,dx,dy,dD,dI,dH,dG,dX,ez,eA,eH,eW,fg,fi,ft,fw,fG,fM,fL,fK,fX,gi,gF,gR,gQ,il,ix],σ⟩)) →
  (rest.all dP=false→(∀ j0 j1 j4 j5 j6 j7 j8 j9 cT cS cX cR cN cM cL cW df dn dx dy dD dI dH dG dX ez eA eH eW fg fi ft fw fG fM fL fK fX gi gF gR gQ il ix,K .ret ⟨[j0,j1,.i .i64 0,.b false,j4,j5,j6,j7,j8,j9,cT,cS,cX,cR,cN,cM,cL,cW,df,dn,dx,dy,dD,dI,dH,dG,dX,ez,eA,eH,eW,fg,fi,ft,fw,fG,fM,fL,fK,fX,gi,gF,gR,gQ,il,ix],σ⟩)) →
  fO σ.length prog G8 K (rest.length+1) ⟨[.s s,u,u,u,.i .i64 n,.i .i64 pre.length,u,u,u,u,u,u,u,u,u,u,u,u,u,u,u,u,u,u,u,u,u,u,u,u,u,u,u,u,u,u,u,u,u,u,u,u,u,u,u,u],σ⟩:=by
 intro rest
 induction rest with
 | nil =>
  intro pre n he hn Wy h1 h2;have he:s=pre:=by simpa using he
  subst he;refine ax fun R hR=>?_;simp only[G8,W,seval];exact⟨fun h=>by simp at h,fun _=>h1 rfl ..⟩
 | cons c rest ih =>
  intro pre n he hn Wy h1 h2;subst he;refine ax fun R hR=>?_;simp only[G8,W,seval]
  have hd:dP c=!(decide ((c.toNat:Int)<48)||decide (57<(c.toNat:Int))):=by
   rw[du];simp[dP];omega
  refine⟨fun _=>⟨by simp;omega,fun _=>by simp;omega,fun h=>?_,fun h=>⟨by simp;omega,?_⟩⟩,fun h=>by simp at h<;>omega⟩
  ·rw[h]at hd;exact h2 (by simp[hd]) ..
  ·rw[h]at hd;have hd:dP c=true:=hd;have rV:pre.length<3:=by simp at hlen;omega
   have hp:(10:Int)^pre.length≤10^2:=by
    have:pre.length=0∨pre.length=1∨pre.length=2:=by omega
    rcases this with h | h | h<;>rw[h]<;>decide
   have hb:=hd;simp only[dP,aC,decide_eq_true_eq]at hb;have amT:n<100:=Int.lt_of_lt_of_le Wy (by simpa using hp)
   have e0:IntKind.i64.wrap (IntKind.i64.wrap (10*n)+IntKind.i64.wrap (IntKind.u8.wrap ((c.toNat:Int) - 48)))=10*n+(c.toNat - 48:Int):=by
    rw[Rq c hd,IntWalk.i64_in (10*n) (by omega),IntWalk.i64_in ((c.toNat:Int) - 48) (by omega),IntWalk.i64_in _ (by omega)]
   have e1:dZ n (c::rest)=dZ (10*n+(c.toNat - 48:Int)) rest:=rfl;have e2:(c::rest).all dP=rest.all dP:=by simp[hd]
   rw[e1,e2]at h1;rw[e2]at h2;refine hR _ (aW ?_ (ih (pre++[c]) (10*n+(c.toNat - 48:Int)) (by simp) (by omega) ?_ h1 h2))
   ·rw[e0,aV (by simp at hlen;omega)];simp only[List.length_append,ab,ah]
    repeat' constructor
   ·simp only[List.length_append,ab,ah,Int.pow_succ];omega
theorem An(s:List UInt8)(σ:ag):PC prog 236 [.s s] σ (fun r σ'=>r=.iK [.i .i64 (numberOf s).1,.b (numberOf s).2]∧σ'=σ):=by
 refine PC.intro func236 ajk fun aQ cz=>aj ?_;simp only[acw,SS,seval]
 by_cases h1:s.length<1∨3<s.length∨s.getD 0 0=48
 ·have e:numberOf s=(0,false):=by simp only[numberOf,h1,if_true]
  have e2:((decide ((s.length:Int)<1)||decide (3<(s.length:Int)))||(((s.getD 0 0).toNat:Int)==48))=true:=by
   rcases h1 with h | h | h
   ·simp;omega
   ·simp;omega
   ·rw[OV (k:=48) h rfl];simp
  simp only[Int.reduceToNat,e2,W,seval];refine⟨fun h=>?_,aO (.inr rfl) rfl ⟨by rw[e];rfl,rfl⟩⟩;simp at h;omega
 ·have hl:¬ s.length<1∧¬ 3<s.length∧¬ s.getD 0 0=48:=by
   refine⟨fun h=>h1 (.inl h),fun h=>h1 (.inr (.inl h)),fun h=>h1 (.inr (.inr h))⟩
  have e2:((decide ((s.length:Int)<1)||decide (3<(s.length:Int)))||(((s.getD 0 0).toNat:Int)==48))=false:=by
   rw[rD (k:=48) hl.2.2 rfl];simp;omega
  simp only[e2,W,seval];refine⟨fun _=>by omega,?_⟩;refine bA.aW ?_ (s.length+1) (Vz s (by omega) s [] 0 rfl (UK _) (by decide) (fun ha=>?_) (fun ha=>?_))
  ·repeat' constructor
  ·intros;simp only[W,seval];refine aO (.inr rfl) rfl ⟨?_,rfl⟩;have h3:=DW s 0 s.length rfl ha (UK _)
   have hp:(10:Int)^s.length≤10^3:=by
    have:s.length=1∨s.length=2∨s.length=3:=by omega
    rcases this with h | h | h<;>rw[h]<;>decide
   have h4:dZ 0 s≤999:=by omega
   have e:numberOf s=(dZ 0 s,true):=by simp only[numberOf,if_neg h1,ha,if_true]
   rw[e];simp[one,h4]
  ·intros;refine aO (.inr rfl) rfl ⟨?_,rfl⟩;have e:numberOf s=(0,false):=by simp only[numberOf,if_neg h1,ha];rfl
   rw[e];rfl
theorem Yz(s:List UInt8)(σ:ag):PC prog 210 [.s s] σ (fun r σ'=>r=.iK [.agg (iL s).1.cells,.b (iL s).2]∧σ'=σ):=by
 refine PC.intro func210 ajC fun aQ cz=>aj ?_;have hlen:=Er (cz 0 _ rfl).1;simp only[acN,SS,seval];simp only[VV,seval];refine ai (Iq s [47] _) rfl ?_;simp only[VV,seval];refine⟨fun hp=>?_,fun hp=>?_⟩
 ·have hl:1≤s.length:=by
   simp only[hasPrefix,aC,decide_eq_true_eq]at hp;simpa using hp.1
  have e0:(s.drop 1).take (s.length - 1)=s.drop 1:=by
   rw[bJ];simp
  refine⟨by omega,?_⟩;refine ai (DX (s.drop 1) 58 _) (by simp only[ay,az,VV,seval];rw[e0]) ?_;simp only[VV,seval];generalize hq:cutAt (s.drop 1) 58=q;obtain⟨a,b,f⟩:=q;refine bg (c:=false) (v:=.b false) (by simp only[VV,seval]<;>rfl) (fun h=>by simp at h) rfl ?_;simp only[VV,seval];refine ai (An a _) rfl ?_;simp only[VV,seval];cases f with
  | false =>
   have e:iL s=(⟨0,[],0⟩,false):=by unfold iL;simp only[hp,if_true,hq];simp
   simp only[VV,seval];rw[e];exact aG aQ (.inr rfl) (by simp only[RS,seval];rfl) (by simp only[LW]) ⟨rfl,rfl⟩
  | true =>
   simp only[VV,seval];refine⟨fun h=>?_,fun h=>?_⟩
   ·have h:(numberOf a).2=false:=by simpa using h
    have e:iL s=(⟨0,[],0⟩,false):=by unfold iL;simp only[hp,if_true,hq];simp[h]
    rw[e];exact aG aQ (.inr rfl) (by simp only[RS,seval];rfl) (by simp only[LW]) ⟨rfl,rfl⟩
   ·have h:(numberOf a).2=true:=by simpa using h
    have e:iL s=(⟨3,b,(numberOf a).1⟩,isName b):=by unfold iL;simp only[hp,if_true,hq];simp[h]
    rw[e];refine ai (oa b _) rfl ?_;simp only[VV,seval];exact aG aQ (.inr rfl) (by simp only[RS,seval];rfl) (by simp only[LW]) ⟨rfl,rfl⟩
 ·refine ai (DX s 58 _) rfl ?_;simp only[VV,seval];generalize hq:cutAt s 58=q;obtain⟨a,b,f⟩:=q;refine bg (c:=true) (by simp only[VV,seval]<;>rfl) (fun h=>Im b [47] _) rfl ?_;simp only[VV,seval]
  have tail:∀ (kind:Int) (content:List UInt8),kind≠3→iL s=(if f&&(numberOf a).2 then(⟨kind,content,(numberOf a).1⟩,if kind=3 then isName content else db content)else(⟨0,[],0⟩,false)) →
    (((f=false)∨(numberOf a).2=false)→iL s=(⟨0,[],0⟩,false))∧(f=true→(numberOf a).2=true→iL s=(⟨kind,content,(numberOf a).1⟩,db content)):=by
   intro kind content hk e;rw[e];refine⟨?_,?_⟩
   ·rintro(h | h)<;>rw[h]<;>simp
   ·intro h1 h2;simp[h1,h2,hk]
  refine⟨fun hs=>?_,fun hs=>?_⟩
  ·have hb:1≤b.length:=by
    simp only[hasSuffix,aC,decide_eq_true_eq]at hs;simpa using hs.1
   have Z5:b.length<2^63:=by
    have:b=(cutAt s 58).2.1:=by rw[hq]
    have h2:b.length≤s.length:=by
     rw[this];simp only[cutAt];split<;>simp
    omega
   have e1:IntKind.i64.wrap ((b.length:Int) - 1)=((b.length - 1:Nat):Int):=by rw[IntWalk.i64_in _ (by omega)];omega
   have t:=tail 4 (b.take (b.length - 1)) (by decide) (by unfold iL;simp[hp,hq,hs]);simp only[e1,an,seval];refine⟨by omega,?_⟩;refine ai (An a _) rfl ?_;simp only[VV,seval];cases f with
   | false =>
    simp only[VV,seval];rw[t.1 (.inl rfl)];exact aG aQ (.inr rfl) (by simp only[RS,seval];rfl) (by simp only[LW]) ⟨rfl,rfl⟩
   | true =>
    simp only[VV,seval];refine⟨fun h=>?_,fun h=>?_⟩
    ·have h:(numberOf a).2=false:=by simpa using h
     rw[t.1 (.inr h)];exact aG aQ (.inr rfl) (by simp only[RS,seval];rfl) (by simp only[LW]) ⟨rfl,rfl⟩
    ·have h:(numberOf a).2=true:=by simpa using h
     rw[t.2 rfl h];refine ai (pz _ _) rfl ?_;simp only[VV,seval];refine aG aQ (.inr rfl) (by simp only[RS,seval];rfl) (by simp only[LW]) ⟨rfl,rfl⟩
  ·have t:=tail 2 b (by decide) (by unfold iL;simp[hp,hq,hs]);refine ai (An a _) rfl ?_;simp only[VV,seval];cases f with
   | false =>
    simp only[VV,seval];rw[t.1 (.inl rfl)];exact aG aQ (.inr rfl) (by simp only[RS,seval];rfl) (by simp only[LW]) ⟨rfl,rfl⟩
   | true =>
    simp only[VV,seval];refine⟨fun h=>?_,fun h=>?_⟩
    ·have h:(numberOf a).2=false:=by simpa using h
     rw[t.1 (.inr h)];exact aG aQ (.inr rfl) (by simp only[RS,seval];rfl) (by simp only[LW]) ⟨rfl,rfl⟩
    ·have h:(numberOf a).2=true:=by simpa using h
     rw[t.2 rfl h];refine ai (pz _ _) rfl ?_;simp only[VV,seval];refine aG aQ (.inr rfl) (by simp only[RS,seval];rfl) (by simp only[LW]) ⟨rfl,rfl⟩
theorem MY(s:List UInt8)(hs:s≠[])(σ:ag):PC prog 170 [.s s] σ (fun r σ'=>r=.iK [.agg (aX s).1.cells,.i .i64 (aX s).2.1,.b (aX s).2.2]∧σ'=σ):=by
 refine PC.intro func170 aj2 fun aQ cz=>aj ?_;have hlen:=Er (cz 0 _ rfl).1;have hl:0<s.length:=dK.2 hs;have bnd:(0:Int)≤0∧(0:Int)<s.length:=by omega
 simp only[adf,SS,seval]
 by_cases c92:s.getD 0 0=92
 ·have e:aX s=(⟨1,[(dp s).1],0⟩,(dp s).2.1,(dp s).2.2):=by simp only[aX,c92,if_true]
  rw[e];simp only[OV (k:=92) c92 rfl,VV,Nat.reduceAdd,Nat.reduceLeDiff,Int.reduceToNat,reduceIte,reduceCtorEq];refine⟨bnd,?_⟩;refine ai (QF s _) rfl ?_;simp only[VV,seval];exact aG aQ (.inr rfl) (by simp only[RS,seval];rfl) (by simp only[LW]) ⟨rfl,rfl⟩
 have n92:=c92
 by_cases wm:s.getD 0 0=60
 ·simp only[rD (k:=92) c92 rfl,OV (k:=60) wm rfl,VV,Nat.reduceAdd,Nat.reduceLeDiff,Int.reduceToNat,reduceIte,reduceCtorEq];refine⟨bnd,bnd,?_⟩;refine ai (sP s 62 _) rfl ?_;have hb:=lY s 62;simp only[VV,seval];refine⟨fun h=>?_,fun h=>?_⟩
  ·have h:Lib.indexByte s 62<0:=by simpa using h
   have e:aX s=(nE,0,false):=by simp only[aX];rw[if_neg c92,if_pos wm];simp only[h,if_true]
   rw[e];exact aG aQ (.inr rfl) (by simp only[RS,seval];rfl) (by simp only[LW]) ⟨rfl,rfl⟩
  ·have h:¬ Lib.indexByte s 62<0:=by simpa using h
   have h1:=oz s 62 (by rw[wm];decide) h;have e:aX s=((iL ((s.take (Lib.indexByte s 62).toNat).drop 1)).1,Lib.indexByte s 62+1,(iL ((s.take (Lib.indexByte s 62).toNat).drop 1)).2):=by simp only[aX];rw[if_neg c92,if_pos wm];simp only[h,if_false]
   rw[e];refine⟨by omega,?_⟩;have e2:(s.drop 1).take ((Lib.indexByte s 62).toNat - 1)=(s.take (Lib.indexByte s 62).toNat).drop 1:=by rw[aaV]
   refine ai (Yz _ _) (by simp only[ay,az,VV,seval];rw[e2]) ?_;simp only[It.cells,VV,seval];refine aG aQ (.inr rfl) (by simp only[RS,seval];rfl) (by simp only[LW]) ⟨?_,rfl⟩;simp only[one];rw[IntWalk.i64_in _ (by omega)]
 by_cases nJ:s.getD 0 0=123
 ·simp only[rD (k:=92) c92 rfl,rD (k:=60) wm rfl,OV (k:=123) nJ rfl,VV,Nat.reduceAdd,Nat.reduceLeDiff,Int.reduceToNat,reduceIte,reduceCtorEq];refine⟨bnd,bnd,bnd,?_⟩;refine ai (sP s 125 _) rfl ?_;have hb:=lY s 125;simp only[VV,seval]
  by_cases h:Lib.indexByte s 125<0
  ·have e:aX s=(nE,0,false):=by simp only[aX];rw[if_neg c92,if_neg wm,if_pos nJ];simp only[h,true_or,if_true]
   have hd:decide (Lib.indexByte s 125<0)=true:=by simpa using h
   rw[e];simp only[hd,seval];refine⟨fun h=>by simp at h,?_⟩;refine bg (c:=false) (v:=.b false) (by simp only[VV,seval]<;>rfl) (fun h=>by simp at h) rfl ?_;simp only[VV,seval];exact aG aQ (.inr rfl) (by simp only[RS,seval];rfl) (by simp only[LW]) ⟨rfl,rfl⟩
  ·have hd:decide (Lib.indexByte s 125<0)=false:=by simpa using h
   have h1:=oz s 125 (by rw[nJ];decide) h;have e:aX s=if isName ((s.take (Lib.indexByte s 125).toNat).drop 1)=false then(nE,0,false)else(⟨5,(s.take (Lib.indexByte s 125).toNat).drop 1,0⟩,Lib.indexByte s 125+1,true):=by simp only[aX];rw[if_neg c92,if_neg wm,if_pos nJ];simp only[h,false_or]
   have e2:(s.drop 1).take ((Lib.indexByte s 125).toNat - 1)=(s.take (Lib.indexByte s 125).toNat).drop 1:=by rw[aaV]
   rw[e];simp only[hd,e2,VV,seval];refine⟨by omega,?_⟩;refine bg (c:=true) (by simp only[VV,seval]<;>rfl) (fun _=>oa ((s.take (Lib.indexByte s 125).toNat).drop 1) _) rfl ?_;simp only[VV,seval];refine⟨fun h=>?_,fun h=>?_⟩
   ·have h:isName ((s.take (Lib.indexByte s 125).toNat).drop 1)=false:=by simpa using h
    rw[if_pos h];exact aG aQ (.inr rfl) (by simp only[RS,seval];rfl) (by simp only[LW]) ⟨rfl,rfl⟩
   ·have h:¬ isName ((s.take (Lib.indexByte s 125).toNat).drop 1)=false:=by simpa using h
    rw[if_neg h];simp only[e2,seval];refine⟨by omega,?_⟩;refine aG aQ (.inr rfl) (by simp only[RS,seval];rfl) (by simp only[LW]) ⟨?_,rfl⟩;simp only[one];rw[IntWalk.i64_in _ (by omega)];rfl
 ·have e:aX s=(⟨1,s.take 1,0⟩,1,sq (s.getD 0 0)):=by simp only[aX,c92,wm,nJ,if_false]
  rw[e];simp only[rD (k:=92) c92 rfl,rD (k:=60) wm rfl,rD (k:=123) nJ rfl,VV,Nat.reduceAdd,Nat.reduceLeDiff,Int.reduceToNat,reduceIte,reduceCtorEq];refine⟨bnd,bnd,bnd,by omega,bnd,?_⟩;refine ai (JP (s.getD 0 0) _) rfl ?_;simp only[VV,seval];exact aG aQ (.inr rfl) (by simp only[RS,seval];rfl) (by simp only[LW]) ⟨rfl,rfl⟩
def oJ(n g1 g2:Nat)(s:Rd):ag :=
 [.map 3 76 (tx s.tags),.box 180 [.own (n+2) g1,.own (n+3) g2,.i .i64 s.len,.mp n],.row 76 3 32 g1 false (s.f.map It.cells),.row 5 1 1 g2 false (al s.text)]
def Q3(n g1 g2:Nat)(s:Rd)(o:Ob)(x:It):ag :=
 [.map 3 76 (tx s.tags),.box 180 [.own (n+2) g1,.own (n+3) g2,.i .i64 s.len,.mp n],.row 76 3 32 g1 false (s.f.map It.cells),.row 5 1 1 g2 false (al s.text),o,.box 76 [.i .i64 x.kind,.s x.text,.i .i64 x.id]]
theorem KR(s:Rd)(g1 g2:Nat)(hf:s.f.length<2^40)(σ ext:ag):PC prog 172 [.ptr (σ.length+1) 0] (σ++(oJ σ.length g1 g2 s++ext)) (fun r σ'=>r=.iK []∧∃ g1' g2',σ'=σ++(oJ σ.length g1' g2' (gv s)++ext)):=by
 refine PC.intro func172 aj0 fun aQ cz=>aj ?_;simp only[adb,SS,seval];simp only[oJ,W,seval];simp only[aL,gK,W,seval];refine⟨fun h=>⟨?_,?_⟩,fun h=>?_⟩
 ·simp[maxLen];omega
 ·have h:0<s.text.length:=by simpa using h
  have e:gv s=⟨s.f++[⟨1,s.text,0⟩],[],s.len,s.tags⟩:=by simp[gv,h]
  have hr:s.f.map It.cells++[[.i .i64 1,.s s.text,.i .i64 0]]=(s.f++[(⟨1,s.text,0⟩:It)]).map It.cells:=by simp[It.cells]
  rw[hr];refine ed (xs:=[]) (xs':=[]) (.inl rfl) rfl (Wk.abE (id:=σ.length+1) (j:=1) (idr:=σ.length+3) (by simp only[W,seval];rfl) rfl (by simp only[W,seval];rfl)) rfl ⟨rfl,g1+1,g2+1,?_⟩;simp only[e,W,seval];rfl
 ·have h:¬ 0<s.text.length:=by simpa using h
  have e:gv s=s:=by simp[gv,h]
  rw[e];exact ed (xs:=[]) (.inl rfl) rfl (Wk.refl _ _) rfl ⟨rfl,g1,g2,rfl⟩
set_option maxHeartbeats 2000000 in
theorem aaT(s:Rd)(x:It)(g1 g2:Nat)(hf:s.f.length<2^40)(ht:s.text.length+x.text.length<2^40)(hl:s.len<2^40)(σ:ag)(o:Ob):PC prog 171 [.ptr (σ.length+1) 0,.agg x.cells] (σ++(oJ σ.length g1 g2 s++[o]))
  (fun r σ'=>r=.i .i64 (kr s x).1∧∃ g1' g2',σ'=σ++(oJ σ.length g1' g2' (kr s x).2++[o])):=by
 refine PC.intro func171 aj1 fun aQ cz=>?_;simp only[ade,SS,seval];have hm:∀ t,iD (σ++(.map 3 76 (tx s.tags))::t) 0 (.mp σ.length) (.i .i64 x.id)=gH 0 (.i .i64 x.id) (tx s.tags) 0:=fun t=>by simp only[iD,gr,ao]
 refine bA.cut fun R hR=>?_;simp only[oJ,It.cells,aq,ak,W,seval];refine hR _ ?_;clear hR R;refine bA.cut fun R hR=>?_;simp only[W,seval];refine hR _ (bA.ej (fr':=[.ptr (σ.length+1) 0,u,u,.ptr (σ.length+5) 0,.i .i64 0,.b (tagged x),u,u,u,u,u,u,u,u,u,u,u,u,u,u,u,u,u,u,u,u,u,u,u,u,u,u,u,u,u,u,u,u,u,u,u,u,u,u,u,u,u,u,u,u,u,u,u,u,u,u,u,u,u,u,u,u,u,u,u,u,u,u,u,u,u,u,u,u,u,u,u,u,u,u,u,u,u,u,u,u,u,u,u,u,u,u,u,u,u,u,u,u,u,u,u,u,u,u,u,u,u,u,u,u,u,u,u,u,u,u,u,u,u,u,u,u,u]) ?_ ?_)
 rotate_left
 ·simp only[tagged]
  repeat' constructor
 clear hR R
 have hbo:match o with | .box _ cs=>gM (σ.length+5) cs | _=>True:=by
  cases o<;>first | trivial | skip
  rename_i T cs;refine eX.2 fun j y hj=>?_;have:=aQ (σ.length+4) T cs (by rw[aN (by omega),cx];rfl) j y hj;simpa[oJ]using this
 have WK:∀ (g1 g2:Nat) (s:Rd),bP (σ++(oJ σ.length g1 g2 s++[o])):=fun g1 g2 s =>
  Bu aQ (aB _) (by
   simp only[oJ,bV,ab,ah,bD,false_imp_iff,implies_true,and_true,true_and,aq,ak];refine⟨by simp only[LW];omega,?_⟩;cases o<;>first | trivial | exact hbo)
 have ai1:∀ (g1 g2:Nat) (s:Rd),bP (σ++Q3 σ.length g1 g2 s o x):=fun g1 g2 s =>
  Bu aQ (by simp[oJ,Q3]) (by
   simp only[Q3,bV,ab,ah,bD,false_imp_iff,implies_true,and_true,true_and];refine⟨by simp only[LW];omega,?_,by simp only[LW]⟩;cases o<;>first | trivial | exact eX.2 fun j y hj=>(eX.1 hbo j y hj).mono (by omega))
 have fin:∀ {fr:List V} {n:Nat} (e:Int) (s':Rd) (g1' g2':Nat) {loc:ag},n≤σ.length+5→kr s x=(e,s')→fr.getD 4 u=.i .i64 e→BI prog n [.t 4] (fun r σ'=>r=.i .i64 (kr s x).1∧∃ g1' g2',σ'=σ++(oJ σ.length g1' g2' (kr s x).2++[o])) .ret ⟨fr,σ++((oJ σ.length g1' g2' s'++[o])++loc)⟩:=by
  intro fr n e s' g1' g2' loc hn he hf;rw[← List.append_assoc];refine ed (xs:=[.i .i64 e]) (.inr rfl) (by simp only[kO,sj,hf]) (Wk.r3 (by simpa[oJ]using hn) (WK _ _ _) (eX.1 (by simp only[LW]))) rfl ⟨by rw[he];rfl,g1',g2',by rw[he]⟩
 refine bA.cut fun R hR=>?_
 have Dz:∀ {fr:List V} {loc:ag},pH fr [.ptr (σ.length+1) 0,u,u,.ptr (σ.length+5) 0,.i .i64 0,.b (tagged x),u,u,u,u,u,u,u,u,u,u,u,u,u,u,u,u,u,u,u,u,u,u,u,u,u,u,u,u,u,u,u,u,u,u,u,u,u,u,u,u,u,u,u,u,u,u,u,u,u,u,u,u,u,u,u,u,u,u,u,u,u,u,u,u,u,u,u,u,u,u,u,u,u,u,u,u,u,u,u,u,u,u,u,u,u,u,u,u,u,u,u,u,u,u,u,u,u,u,u,u,u,u,u,u,u,u,u,u,u,u,u,u,u,u,u,u,u]→¬ (tagged x&&wN s x)=true→R ⟨fr,σ++(Q3 σ.length g1 g2 s o x++loc)⟩:=by
  intro fr loc hc qT;refine hR _ (bA.drop _ _ (by simp[oJ,Q3]) (ai1 g1 g2 s) hc (by simp[gM,Sx,Vs,aeh,aec,Q3]) ?_);clear hR R;refine bA.cut fun R hR=>?_;simp only[Q3,W,seval];refine hR _ ?_;clear hR R;refine bA.cut fun R hR=>?_;simp only[List.length_map,aL,VV,seval]
  have hi1:∀ {fr:List V},pH fr [.ptr (σ.length+1) 0,u,u,.ptr (σ.length+5) 0,.i .i64 0,.b (tagged x),u,u,.i .i64 ((s.f.length+(if 0<s.text.length then 1 else 0):Nat):Int),u,u,u,u,u,u,u,u,u,u,u,u,u,u,u,u,u,u,u,u,u,u,u,u,u,u,u,u,u,u,u,u,u,u,u,u,u,u,u,u,u,u,u,u,u,u,u,u,u,u,u,u,u,u,u,u,u,u,u,u,u,u,u,u,u,u,u,u,u,u,u,u,u,u,u,u,u,u,u,u,u,u,u,u,u,u,u,u,u,u,u,u,u,u,u,u,u,u,u,u,u,u,u,u,u,u,u,u,u,u,u,u,u,u]→R ⟨fr,σ++Q3 σ.length g1 g2 s o x⟩:=by
   intro fr hc;refine hR _ (bA.ej ?_ hc);clear hR R;refine bA.cut fun R hR=>?_;simp only[Q3,aL,VV,seval]
   have Lv:∀ {fr:List V},pH fr [.ptr (σ.length+1) 0,u,u,.ptr (σ.length+5) 0,.i .i64 0,.b (tagged x),u,u,.i .i64 ((mo s x:Nat):Int),u,u,u,u,u,u,u,u,u,u,u,u,u,u,u,u,u,u,u,u,u,u,u,u,u,u,u,u,u,u,u,u,u,u,u,u,u,u,u,u,u,u,u,u,u,u,u,u,u,u,u,u,u,u,u,u,u,u,u,u,u,u,u,u,u,u,u,u,u,u,u,u,u,u,u,u,u,u,u,u,u,u,u,u,u,u,u,u,u,u,u,u,u,u,u,u,u,u,u,u,u,u,u,u,u,u,u,u,u,u,u,u,u,u]→R ⟨fr,σ++Q3 σ.length g1 g2 s o x⟩:=by
    intro fr hc;refine hR _ (bA.ej ?_ hc);clear hR R;have hlw:IntKind.i64.wrap ((s.len:Int)+1)=((s.len+1:Nat):Int):=aV (by omega);refine bA.cut fun R hR=>?_;simp only[Q3,hlw,VV,seval];refine⟨fun h=>?_,fun h=>?_⟩
    ·have h1:512<mo s x∨1024<s.len+1:=by
      simp at h;omega
     have e:kr s x=(3,s):=by simp only[kr,qT,h1,if_true];rfl
     exact fin 3 s g1 g2 (loc:=[_]) (by simp[oJ]) e (by rfl)
    ·have h1:¬ (512<mo s x∨1024<s.len+1):=by
      simp at h;omega
     refine hR _ ?_;clear hR R;refine bA.cut fun R hR=>?_;simp only[hlw,VV,seval];refine hR _ ?_;clear hR R;refine bA.cut fun R hR=>?_;simp only[VV,seval];refine⟨fun hk=>⟨⟨by simp only[aL];omega,by simp only[aL,maxLen];omega⟩,?_⟩,fun hk=>?_⟩
     ·have hk:x.kind=1:=by simpa using hk
      have e:kr s x=(0,⟨s.f,s.text++x.text,s.len+1,s.tags⟩):=by simp only[kr,qT,h1,hk,if_true,if_false];rfl
      rw[dO];exact fin 0 ⟨s.f,s.text++x.text,s.len+1,s.tags⟩ g1 (g2+1) (loc:=[_]) (by simp[oJ]) e (by rfl)
     ·have hk:¬ x.kind=1:=by simpa using hk
      have e:kr s x=(0,yH (gv (o0 s x)) x):=by simp only[kr,qT,h1,hk,if_false];rfl
      refine hR _ (bA.ej (fr':=[.ptr (σ.length+1) 0,u,u,.ptr (σ.length+5) 0,.i .i64 0,.b (tagged x),u,u,u,u,u,u,u,u,u,u,u,u,u,u,u,u,u,u,u,u,u,u,u,u,u,u,u,u,u,u,u,u,u,u,u,u,u,u,u,u,u,u,u,u,u,u,u,u,u,u,u,u,u,u,u,u,u,u,u,u,u,u,u,u,u,u,u,u,u,u,u,u,u,u,u,u,u,u,u,u,u,u,u,u,u,u,u,u,u,u,u,u,u,u,u,u,u,u,u,u,u,u,u,u,u,u,u,u,u,u,u,u,u,u,u,u,u]) ?_ (by repeat' constructor));clear hR R;refine bA.cut fun R hR=>?_
      have u0:∀ {fr:List V},pH fr [.ptr (σ.length+1) 0,u,u,.ptr (σ.length+5) 0,.i .i64 0,u,u,u,u,u,u,u,u,u,u,u,u,u,u,u,u,u,u,u,u,u,u,u,u,u,u,u,u,u,u,u,u,u,u,u,u,u,u,u,u,u,u,u,u,u,u,u,u,u,u,u,u,u,u,u,u,u,u,u,u,u,u,u,u,u,u,u,u,u,u,u,u,u,u,u,u,u,u,u,u,u,u,u,u,u,u,u,u,u,u,u,u,u,u,u,u,u,u,u,u,u,u,u,u,u,u,u,u,u,u,u,u,u,u,u,u,u,u]→R ⟨fr,σ++Q3 σ.length g1 g2 (o0 s x) o x⟩:=by
       intro fr hc;refine hR _ (bA.ej ?_ hc);clear hR R;refine bA.cut fun R hR=>?_;simp only[W,seval];refine cG (KR (o0 s x) g1 g2 hf σ [o,.box 76 [.i .i64 x.kind,.s x.text,.i .i64 x.id]]) rfl ?_;rintro r σ' ⟨rfl,g3,g4,rfl⟩;simp only[W,seval];refine hR _ (bA.ej (fr':=[.ptr (σ.length+1) 0,u,u,.ptr (σ.length+5) 0,.i .i64 0,u,u,u,u,u,u,u,u,u,u,u,u,u,u,u,u,u,u,u,u,u,u,u,u,u,u,u,u,u,u,u,u,u,u,u,u,u,u,u,u,u,u,u,u,u,u,u,u,u,u,u,u,u,u,u,u,u,u,u,u,u,u,u,u,u,u,u,u,u,u,u,u,u,u,u,u,u,u,u,u,u,u,u,u,u,u,u,u,u,u,u,u,u,u,u,u,u,u,u,u,u,u,u,u,u,u,u,u,u,u,u,u,u,u,u,u,u,u]) ?_ (by repeat' constructor));clear hR R;refine aj ?_
       have hff:(gv (o0 s x)).f.length≤s.f.length+1:=by
        simp only[gv];split<;>simp[o0]
       simp only[oJ,VV,seval];refine⟨?_,?_⟩
       ·simp[maxLen];omega
       ·have hr:(gv (o0 s x)).f.map It.cells++[[.i .i64 x.kind,.s x.text,.i .i64 x.id]]=(yH (gv (o0 s x)) x).f.map It.cells:=by simp[It.cells,yH]
        rw[hr];exact fin 0 (yH (gv (o0 s x)) x) (g3+1) g4 (loc:=[_]) (by simp[oJ]) e (by rfl)
      cases Ie:tagged x with
      | true =>
       rcases Bg s.tags x.id with⟨h2,h3,h4⟩ | ⟨k,b,h2,h3,h4⟩
       all_goals
        have h5:tx (o0 s x).tags=tx (ln s.tags x.id x):=by simp only[o0,Ie,if_true]
        simp only[h3,nk,VV,seval];have h6:=h4 x;simp only[itV,It.cells]at h6;rw[h6,← h5];refine⟨by simp[V.qi,V.BQ,V.pure],?_⟩;refine u0 (by repeat' constructor)
      | false =>
       simp only[VV,seval];have:=u0 (fr:=[.ptr (σ.length+1) 0,u,u,.ptr (σ.length+5) 0,.i .i64 0,.b false,u,u,u,u,u,u,u,u,u,u,u,u,u,u,u,u,u,u,u,u,u,u,u,u,u,u,u,u,u,u,u,u,u,u,u,u,u,u,u,u,u,u,u,u,u,u,u,u,u,u,u,u,u,u,u,u,u,u,u,u,u,u,u,u,u,u,u,u,u,u,u,u,u,u,u,u,u,u,u,u,u,u,u,u,u,u,u,u,u,u,u,u,u,u,u,u,u,.b false,u,u,u,u,u,u,u,u,u,u,u,u,u,u,u,u,u,u,u]) (by repeat' constructor);simp only[o0,Ie]at this;exact this
   have Qe:IntKind.i64.wrap (((s.f.length+(if 0<s.text.length then 1 else 0):Nat):Int)+1)=((s.f.length+(if 0<s.text.length then 1 else 0)+1:Nat):Int):=aV (by split<;>omega);refine⟨fun h=>?_,fun h=>?_⟩
   ·have h1:x.kind≠1∨s.text.length=0:=by simpa using h
    have e:mo s x=s.f.length+(if 0<s.text.length then 1 else 0)+1:=by simp only[mo,h1,if_true]
    refine Lv ?_;rw[Qe,e];repeat' constructor
   ·have h1:¬ (x.kind≠1∨s.text.length=0):=by simpa using h
    have e:mo s x=s.f.length+(if 0<s.text.length then 1 else 0):=by simp only[mo,h1,if_false];rfl
    refine Lv ?_;rw[e];repeat' constructor
  refine⟨fun h=>?_,fun h=>?_⟩
  ·have h1:0<s.text.length:=by simpa using h
   refine hi1 ?_;rw[aV (by omega),if_pos h1];repeat' constructor
  ·have h1:¬ 0<s.text.length:=by simpa using h
   refine hi1 ?_;rw[if_neg h1];repeat' constructor
 have aik:(tagged x&&wN s x)=true→kr s x=(7,s):=fun h=>by simp[kr,h]
 cases Ie:tagged x with
 | false =>
  simp only[VV,seval];exact Dz (loc:=[]) (by rw[Ie];repeat' constructor) (by simp[Ie])
 | true =>
  rcases Bg s.tags x.id with⟨h2,h3,h4⟩ | ⟨k,b,h2,h3,h4⟩
  ·simp only[hm,h3,VV,seval];refine⟨by simp[V.qi],by simp[V.qi],bg (c:=false) (v:=.s []) (by simp only[VV,seval]<;>rfl) (fun h=>by simp at h) rfl ?_⟩;simp only[VV,seval];refine Dz (loc:=[_]) (by rw[Ie];repeat' constructor) (by simp[wN,h2])
  ·simp only[hm,h3,itV,It.cells,VV,seval];refine⟨by simp[V.qi],by simp[V.qi],bg (by simp only[VV,seval]<;>rfl) (fun _=>BO b.text _) rfl ?_⟩;simp only[VV,seval];have aQ:wN s x=(x.kind != 3||b.kind != 2||dm b.text != x.text):=by simp only[wN,h2]
   have hb:(!dm b.text==x.text)=(dm b.text != x.text):=rfl;rw[hb,← aQ];refine⟨fun h=>?_,fun h=>?_⟩
   ·exact fin 7 s g1 g2 (loc:=[_,_]) (by simp[oJ]) (aik (by simp[Ie,h])) (by rfl)
   ·exact Dz (loc:=[_]) (by rw[Ie];repeat' constructor) (by simp[Ie,h])
theorem QO{σ:ag}(aQ:bP σ)(g1 g2:Nat)(r:Rd):bP (σ++oJ σ.length g1 g2 r):=bU aQ (by
 simp only[oJ,bV,ab,ah,bD,false_imp_iff,implies_true,and_true,true_and];simp only[LW];omega)
theorem Ol{σ:ag}{K:Exit→St→Prop}(s:List UInt8)(aQ:bP σ)(hlen:s.length<2^39):
  ∀ (n:Nat) (rest pre:List UInt8) (r:Rd) (g1 g2:Nat),s=pre++rest→rest.length<n→r.ok →
  (∀ r',jl n r rest pre.length=((gv r').f,0,0)→r'.ok→∀ g1 g2,(∀ j0 j1 j2 j3 j4 j6 j7 j8 j9 cT cS cX cR cN cM cL cW df dn dx dy dD dI dH dG dX ez eA eH eW fg fi ft fw fG fM fL fK,K (.exit 0) ⟨[j0,j1,j2,j3,j4,.ptr (σ.length+1) 0,j6,j7,j8,j9,cT,cS,cX,cR,cN,cM,cL,cW,df,dn,dx,dy,dD,dI,dH,dG,dX,ez,eA,eH,eW,fg,fi,ft,fw,fG,fM,fL,fK],σ++oJ σ.length g1 g2 r'⟩)) →
  (∀ at' e,jl n r rest pre.length=([],at',e)→∀ loc,(∀ j0 j1 j5 j6 j7 j8 j9 cT cS cX cR cN cM cL cW df dn dx dy dD dI dH dG dX ez eA eH eW fg fi ft fw fG fM fL fK,K .ret ⟨[j0,j1,.nil,.i .i64 at',.i .i64 e,j5,j6,j7,j8,j9,cT,cS,cX,cR,cN,cM,cL,cW,df,dn,dx,dy,dD,dI,dH,dG,dX,ez,eA,eH,eW,fg,fi,ft,fw,fG,fM,fL,fK],σ++loc⟩)) →
  fO σ.length prog HK K n ⟨[.s s,u,u,.i .i64 pre.length,u,.ptr (σ.length+1) 0,u,u,u,u,u,u,u,u,u,u,u,u,u,u,u,u,u,u,u,u,u,u,u,u,u,u,u,u,u,u,u,u,u],σ++oJ σ.length g1 g2 r⟩
 | 0,rest,pre,r,g1,g2,he,hn,hr,h1,h2=>by omega
 | n+1,[],pre,r,g1,g2,he,hn,hr,h1,h2=>by
  have he:s=pre:=by simpa using he
  subst he;refine ax fun R hR=>?_;simp only[HK,W,seval];exact⟨fun h=>by simp at h,fun _=>h1 r rfl hr g1 g2 ..⟩
 | n+1,c::rest,pre,r,g1,g2,he,hn,hr,h1,h2=>by
  subst he;have hd:(pre++c::rest).drop pre.length=c::rest:=by simp
  have htk:((pre++c::rest).drop pre.length).take ((pre++c::rest).length - pre.length)=c::rest:=by rw[hd,bJ];simp
  have hel:=sW (s:=c::rest) (by simp);have rV:pre.length+(c::rest).length<2^39:=by rw[← List.length_append];exact hlen
  refine ax fun R hR=>?_;simp only[HK,W,seval];refine⟨fun _=>⟨by simp;omega,?_⟩,fun h=>by simp at h<;>omega⟩;refine ai (MY (c::rest) (by simp) _) (by simp only[ay,az,VV,seval];rw[htk]) ?_;simp only[It.cells,VV,seval];refine⟨fun h=>?_,fun h=>?_⟩
  ·have h:(aX (c::rest)).2.2=false:=by simpa using h
   exact h2 pre.length 2 (by simp only[jl,h,if_true]) ..
  ·have h:(aX (c::rest)).2.2=true:=by simpa using h
   have hn1:=hel.2.2 h;have tC:=hel.1;have ok:=hr;obtain⟨hf,ht,hl⟩:=hr;have hff:r.f.length≤r.len:=by split at hf<;>omega
   refine cG (aaT r (aX (c::rest)).1 g1 g2 (by omega) (by omega) (by omega) σ _) rfl ?_
   ·rintro v σ' ⟨rfl,g3,g4,rfl⟩;simp only[VV,seval];refine⟨fun h3=>?_,fun h3=>?_⟩
    ·have h3:(kr r (aX (c::rest)).1).1≠0:=by simpa using h3
     exact h2 pre.length _ (by simp only[jl,h];rw[if_neg (by simp),if_pos h3]) ..
    ·have h3:(kr r (aX (c::rest)).1).1=0:=by simpa using h3
     have h4:=RY ok hel.2.1 h3;obtain⟨k,hk⟩:∃ k:Nat,(aX (c::rest)).2.1=k:=⟨(aX (c::rest)).2.1.toNat,by omega⟩
     have e:jl (n+1) r (c::rest) pre.length=jl n (kr r (aX (c::rest)).1).2 ((c::rest).drop k) ((pre++(c::rest).take k).length:Nat):=by
      simp only[jl,h];rw[if_neg (by simp),if_neg (by simp[h3]),hk];simp only[an,List.length_append,aR];congr 1;omega
     rw[e]at h1 h2;refine hR _ (cH _ _ (QO aQ _ _ _) ?_ ?_ (Ol _ aQ hlen n ((c::rest).drop k) (pre++(c::rest).take k) (kr r (aX (c::rest)).1).2 g3 g4 (by rw[List.append_assoc,List.take_append_drop]) (by simp only[bH];simp at hn ⊢;omega) h4 h1 h2))
     ·have e3:(((pre++(c::rest).take k).length:Nat):Int)=(pre.length:Int)+k:=by
       rw[List.length_append,aR,show min k (c::rest).length=k by omega];omega
      rw[hk,IntWalk.i64_in _ (by omega),e3]
      repeat' constructor
     ·simp only[LW];simp[oJ]
theorem RX{n:Nat}{xs:List V}{σ:ag}:Wk prog n xs (σ++[.map 3 76 [],.box 180 [.nil,.nil,.i .i64 0,.mp σ.length]]) xs (σ++oJ σ.length 0 0 CH):=by
 have h1:=Wk.vd (P:=prog) (n:=n) (xs:=xs) (id:=σ.length+1) (j:=0) (σ:=σ++[.map 3 76 [],.box 180 [.nil,.nil,.i .i64 0,.mp σ.length]]) GC (by simp only[W,seval];rfl) rfl;simp only[W,seval]at h1;have h2:=Wk.vd (P:=prog) (n:=n) (xs:=xs) (id:=σ.length+1) (j:=1) (σ:=σ++[.map 3 76 [],.box 180 [.own (σ.length+2) 0,.nil,.i .i64 0,.mp σ.length],.row 76 3 32 0 false []]) Rt (by simp only[W,seval];rfl) rfl;simp only[W,seval]at h2;exact h1.trans h2
theorem nX(s:List UInt8)(hlen:s.length<2^39)(σ:ag):PC prog 106 [.s s] σ (fun r σ'=>r=.iK [.sl 3 ((parse s).1.map It.cells),.i .i64 (parse s).2.1,.i .i64 (parse s).2.2]∧σ'=σ):=by
 refine PC.intro func106 akM fun aQ cz=>aj ?_;simp only[ad1,SS,seval];simp only[VV,seval];have e0:parse s=jl (s.length+1) CH s (([]:List UInt8).length:Nat):=rfl;refine bA.wk (RX.trans (Wk.ej (ys:=[.s s,u,u,.i .i64 (([]:List UInt8).length:Nat),u,.ptr (σ.length+1) 0,u,u,u,u,u,u,u,u,u,u,u,u,u,u,u,u,u,u,u,u,u,u,u,u,u,u,u,u,u,u,u,u,u]) (by repeat' constructor))) (bA.pd (s.length+1) (Ol s aQ hlen (s.length+1) s [] CH 0 0 rfl (by omega) ⟨by simp[CH],by simp[CH],by simp[CH]⟩ ?_ ?_))
 ·intro r' hp fD g1 g2;intros;simp only[W,seval];refine cG (KR r' g1 g2 (by have:=fD.f;have:=fD.len;split at*<;> omega) σ []) (by simp[ev]) ?_;rintro r σ' ⟨rfl,g3,g4,rfl⟩;simp only[oJ,bf,W,seval];refine gg 2 aQ (.inr rfl) rfl rfl ?_ ?_
  ·simp[fz,kc,gM,uG,Vs]
  ·rw[e0,hp];simp[fz,kc,one]
 ·intro at' e hp loc;intros;simp only[W,seval];refine dv aQ (.inr rfl) rfl (ys:=[.sl 3 [],.i .i64 at',.i .i64 e]) (.cons (.nil _) (.cons (.refl _) (.cons (.refl _) .nil))) (by simp only[LW]) ⟨?_,rfl⟩;rw[e0,hp];rfl
end Go.Proofs.Tryz

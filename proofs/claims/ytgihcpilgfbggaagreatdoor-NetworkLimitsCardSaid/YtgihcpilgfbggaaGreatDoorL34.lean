/- A part of the proof that for every input the law NetworkLimits returns true and leaves its argument as it was. -/
import Derived.Test.YtgihcpilgfbggaaGreatDoorL5
import Derived.Test.YtgihcpilgfbggaaGreatDoorL14
import Derived.Test.YtgihcpilgfbggaaGreatDoorL16
import Derived.Test.YtgihcpilgfbggaaGreatDoorL18
import Derived.Test.YtgihcpilgfbggaaGreatDoorL20
import Derived.Test.YtgihcpilgfbggaaGreatDoorL21
import Derived.Test.YtgihcpilgfbggaaGreatDoorL23
import Derived.Test.YtgihcpilgfbggaaGreatDoorL24
import Derived.Test.YtgihcpilgfbggaaGreatDoorL27
set_option linter.all false

namespace Go.Proofs.Tryz
open Go Go.Pm Go.Bt
open Go.Pm.V(u)
theorem Pj(n:Int)(h0 : -9223372036854775808≤n)(h1:n≤9223372036854775807)(σ:ah):PC prog 165 [.i .i64 n] σ (fun r σ'=>r=.s (Lib.itoa n)∧σ'=σ):=by
 refine PC.RK fun B w0 w μ vs hB hv=>?_;have H5:=(hv.2 0 _ rfl).gl;have Cx:vs=#[.int .i64 n]:=by rw[TZ hv.1,H5]
 have hs:(prog.globalNamed "internal/strconv.uint64pow10").isSome=true:=by kernel_rfl
 obtain⟨g,hg⟩:=Option.isSome_iff_exists.1 hs;have ht:=hB.tab (t:=("internal/strconv.uint64pow10",.u64,xa)) (by simp[N4]) hg;rw[I6]at ht;refine⟨_,?_,fun w'=>Pk n h0 h1⟩;rw[Cx];refine(Tryz.strconv_Itoa n h0 h1 w ht).mono ?_;rintro e w' ⟨he,k,os,rfl⟩;exact⟨he,CG w k os⟩
theorem OY{n:Nat}{σ ext:ah}{K:Exit→St→Prop}(s:List UInt8)(hlen:s.length<2^40):∀ (rest pre b:List UInt8) (g:Nat),s=pre++rest→b.length+4*rest.length<2^42 →
  (∀ j1 j2 j3 j4 j5 j6 j7 j8 j9 cC cH cG cF cB cE cD cI cQ db de dh dm dv du dt dN dR dU dX ej eD eL eQ eP fb fi fh fg fw fG fF fK fW gj gi gB gA gz gy gx gY gW gU iq iD iN iM iL iK,K (.exit 0) ⟨[.own σ.length (g+rest.length),j1,j2,j3,j4,j5,j6,j7,j8,j9,cC,cH,cG,cF,cB,cE,cD,cI,cQ,db,de,dh,dm,dv,du,dt,dN,dR,dU,dX,ej,eD,eL,eQ,eP,fb,fi,fh,fg,fw,fG,fF,fK,fW,gj,gi,gB,gA,gz,gy,gx,gY,gW,gU,iq,iD,iN,iM,iL,iK],σ++(.row 5 1 1 (g+rest.length) false (aQ (b++rest.flatMap dC))::ext)⟩) →
  fp n prog xi K (rest.length+1) ⟨[.own σ.length g,.s s,u,u,u,.i .i64 pre.length,u,u,u,u,u,u,u,u,u,u,u,u,u,u,u,u,u,u,u,u,u,u,u,u,u,u,u,u,u,u,u,u,u,u,u,u,u,u,u,u,u,u,u,u,u,u,u,u,u,u,u,u,u,u],σ++(.row 5 1 1 g false (aQ b)::ext)⟩:=by
 intro rest
 induction rest with
 | nil =>
  intro pre b g he hb h1;have he:s=pre:=by simpa using he
  subst he;refine ay fun R hR=>?_;simp only[xi,W,seval];simp only[iU,bt,ai,cn]at h1;exact⟨fun h=>by simp at h,fun _=>h1 ..⟩
 | cons c rest ih =>
  intro pre b g he hb h1;subst he
  have hw:IntKind.i64.wrap ((pre.length:Int)+1)=(((pre++[c]).length:Nat):Int):=by
   rw[aX (by simp at hlen;omega)];simp
  have Mx:pre++c::rest=(pre++[c])++rest:=by simp
  simp only[ag]at hb
  have next:∀ (t:List UInt8),dC c=t→t.length≤4→∀ {R:St→Prop} {fr:List V},(∀ st',fp n prog xi K (rest.length+1) st'→R st') →
    nP fr [.own σ.length (g+1),.s (pre++c::rest),u,u,u,.i .i64 (pre++[c]).length,u,u,u,u,u,u,u,u,u,u,u,u,u,u,u,u,u,u,u,u,u,u,u,u,u,u,u,u,u,u,u,u,u,u,u,u,u,u,u,u,u,u,u,u,u,u,u,u,u,u,u,u,u,u]→R ⟨fr,σ++(.row 5 1 1 (g+1) false (aQ (b++t))::ext)⟩:=by
   intro t ht hl R fr hR hc;have e1:b++(c::rest).flatMap dC=(b++t)++rest.flatMap dC:=by simp[ht]
   have e2:g+(c::rest).length=(g+1)+rest.length:=by simp;omega
   rw[e1,e2]at h1;refine hR _ ?_;exact bb hc (ih (pre++[c]) (b++t) (g+1) Mx (by simp;omega) h1)
  have okA:∀ n:Nat,n≤4→((aQ b).length+n)*1≤2^47∧(aQ b).length+n≤maxLen:=fun n hn=>by simp only[bO,maxLen];omega
  have bv:∀ (t:List UInt8),aQ b++aQ t=aQ (b++t):=fun t=>cT;refine ay fun R hR=>?_;simp only[xi,VV,seval];refine⟨fun _=>⟨by simp;omega,?_⟩,fun h=>by simp at h<;>omega⟩;refine an (DT c _) rfl ?_;cases hp:oM c with
  | true =>
   simp only[VV,seval];refine⟨okA 1 (by omega),?_⟩;rw[show aQ b++[[V.i .u8 c.toNat]]=aQ (b++[c])from bv [c]];refine next [c] (by simp[dC,hp]) (by simp) hR ?_
   rw[hw];repeat' constructor
  | false =>
   by_cases NR:c=10
   ·simp only[IA (k:=10) NR rfl,VV,seval];refine⟨okA 2 (by omega),?_⟩;rw[show aQ b++[[V.i .u8 92],[V.i .u8 110]]=aQ (b++[92,110])from bv [92,110]];refine next [92,110] (by simp only[dC,hp,if_pos NR];rfl) (by simp) hR ?_
    rw[hw];repeat' constructor
   by_cases c9:c=9
   ·simp only[nV (k:=10) NR rfl,IA (k:=9) c9 rfl,VV,seval];refine⟨okA 2 (by omega),?_⟩;rw[show aQ b++[[V.i .u8 92],[V.i .u8 116]]=aQ (b++[92,116])from bv [92,116]];refine next [92,116] (by simp only[dC,hp,if_neg NR,if_pos c9];rfl) (by simp) hR ?_
    rw[hw];repeat' constructor
   by_cases cs:c=92∨c=60∨c=123
   ·have hs:((((c.toNat:Int)==92)||((c.toNat:Int)==60))||((c.toNat:Int)==123))=true:=by
     rcases cs with h | h | h<;>rw[h]<;>rfl
    simp only[nV (k:=10) NR rfl,nV (k:=9) c9 rfl,hs,VV,seval];refine⟨okA 2 (by omega),?_⟩;rw[show aQ b++[[V.i .u8 92],[V.i .u8 c.toNat]]=aQ (b++[92,c])from bv [92,c]];refine next [92,c] (by simp only[dC,hp,if_neg NR,if_neg c9,if_pos cs];rfl) (by simp) hR ?_
    rw[hw];repeat' constructor
   ·have hs:((((c.toNat:Int)==92)||((c.toNat:Int)==60))||((c.toNat:Int)==123))=false:=by
     rw[nV (k:=92) (fun h=>cs (.inl h)) rfl,nV (k:=60) (fun h=>cs (.inr (.inl h))) rfl,nV (k:=123) (fun h=>cs (.inr (.inr h))) rfl];rfl
    have hi:=W9 c;have lo:=W8 c;simp only[nV (k:=10) NR rfl,nV (k:=9) c9 rfl,hs,hi.2.2,lo.2.2,VV,Int.reduceBEq,Int.reduceBNe,Nat.reduceAdd,Nat.reduceSub,Nat.reduceLeDiff,Nat.reduceEqDiff,Int.reduceToNat,reduceIte,reduceCtorEq];refine⟨by simp,by simpa using⟨hi.1,hi.2.1⟩,by simpa using⟨lo.1,lo.2.1⟩,okA 4 (by omega),?_⟩;rw[show aQ b++[[V.i .u8 92],[V.i .u8 120],[V.i .u8 (ia (c.toNat / 16)).toNat],[V.i .u8 (ia (c.toNat % 16)).toNat]]=aQ (b++[92,120,ia (c.toNat / 16),ia (c.toNat % 16)])from bv [92,120,ia (c.toNat / 16),ia (c.toNat % 16)]];refine next [92,120,ia (c.toNat / 16),ia (c.toNat % 16)] (by simp only[dC,hp,if_neg NR,if_neg c9,if_neg cs];rfl) (by simp) hR ?_
    rw[hw];repeat' constructor
theorem zM(b s:List UInt8)(g:Nat)(hlen:b.length+4*s.length<2^42)(σ ext:ah):PC prog 166 [.own σ.length g,.s s] (σ++(.row 5 1 1 g false (aQ b)::ext))
  (fun r σ'=>r=.own σ.length (g+s.length)∧σ'=σ++(.row 5 1 1 (g+s.length) false (aQ (b++s.flatMap dC))::ext)):=by
 refine PC.intro func166 aai fun aU da=>al ?_;simp only[Vs,SS,seval];simp only[W,seval];refine bX.bb ?_ (s.length+1) (OY s (by omega) s [] b g rfl hlen ?_)
 ·repeat' constructor
 ·intros;simp only[W,seval];exact ei (.inr rfl) rfl (Wk.refl _ _) rfl ⟨rfl,rfl⟩
theorem O8{σ:ah}{K:Exit→St→Prop}(its:List It)(aU:bG σ)(hlen:its.length<2^40)(hid:∀ x∈its,-9223372036854775808≤x.id∧x.id≤9223372036854775807)(uJ:∀ x∈its,1≤x.kind∧x.kind≤5):
  ∀ (rest pre:List It) (b:List UInt8) (g:Nat),its=pre++rest→b.length+4*bp rest+40*rest.length<2^42 →
  (∀ g,(∀ j0 j1 j2 j3 j4 j6 j7 j8 j9 cC cH cG cF cB cE cD cI cQ db de dh dm dv du dt dN dR dU dX ej eD eL eQ eP fb fi fh fg fw fG fF fK fW gj gi gB gA gz gy gx gY gW gU iq iD iN iM iL iK jf jD jP kt kr kq k8 mP mO mN mM mL mK nL qf,K (.exit 0) ⟨[j0,j1,j2,j3,j4,.own σ.length g,j6,j7,j8,j9,cC,cH,cG,cF,cB,cE,cD,cI,cQ,db,de,dh,dm,dv,du,dt,dN,dR,dU,dX,ej,eD,eL,eQ,eP,fb,fi,fh,fg,fw,fG,fF,fK,fW,gj,gi,gB,gA,gz,gy,gx,gY,gW,gU,iq,iD,iN,iM,iL,iK,jf,jD,jP,kt,kr,kq,k8,mP,mO,mN,mM,mL,mK,nL,qf],σ++[.row 5 1 1 g false (aQ (b++rest.flatMap bT))]⟩)) →
  fp σ.length prog xk K (rest.length+1) ⟨[u,u,u,u,u,.own σ.length g,u,u,u,u,u,u,u,u,.sl 3 (its.map It.cells),.i .i64 its.length,.i .i64 pre.length,u,u,u,u,u,u,u,u,u,u,u,u,u,u,u,u,u,u,u,u,u,u,u,u,u,u,u,u,u,u,u,u,u,u,u,u,u,u,u,u,u,u,u,u,u,u,u,u,u,u,u,u,u,u,u,u,u,u],σ++[.row 5 1 1 g false (aQ b)]⟩:=by
 intro rest
 induction rest with
 | nil =>
  intro pre b g he hb h1;have he:its=pre:=by simpa using he
  subst he;refine ay fun R hR=>?_;simp only[xk,W,seval];simp only[iU,bt]at h1;exact⟨fun h=>by simp at h,fun _=>h1 g ..⟩
 | cons x rest ih =>
  intro pre b g he hb h1;subst he
  have hw:IntKind.i64.wrap ((pre.length:Int)+1)=(((pre++[x]).length:Nat):Int):=by
   rw[aX (by simp at hlen;omega)];simp
  have Mx:pre++x::rest=(pre++[x])++rest:=by simp
  simp only[bp,ag]at hb;have hx:=hid x (by simp);have hk:=uJ x (by simp);have pC:=Lib.itoa_length_le x.id hx.1 hx.2
  have next:∀ (t:List UInt8) (g':Nat) {o:Ob},bT x=t→t.length≤4*x.text.length+30→∀ {R:St→Prop} {fr:List V},(∀ st',fp σ.length prog xk K (rest.length+1) st'→R st') →
    nP fr [u,u,u,u,u,.own σ.length g',u,u,u,u,u,u,u,u,.sl 3 ((pre++x::rest).map It.cells),.i .i64 (pre++x::rest).length,.i .i64 (pre++[x]).length,u,u,u,u,u,u,u,u,u,u,u,u,u,u,u,u,u,u,u,u,u,u,u,u,u,u,u,u,u,u,u,u,u,u,u,u,u,u,u,u,u,u,u,u,u,u,u,u,u,u,u,u,u,u,u,u,u,u]→R ⟨fr,σ++[.row 5 1 1 g' false (aQ (b++t)),o]⟩:=by
   intro t g' o ht hl R fr hR hc;have e1:b++(x::rest).flatMap bT=(b++t)++rest.flatMap bT:=by simp[ht]
   rw[e1]at h1;refine hR _ (cy [_] [_] (b9 aU (by simp)) hc ?_ (ih (pre++[x]) (b++t) g' Mx (by simp;omega) h1));simp only[LW,ag,ai,aI];omega
  have okA:∀ n:Nat,n≤x.text.length+30→((aQ b).length+n)*1≤2^47∧(aQ b).length+n≤maxLen:=fun n hn=>by simp only[bO,maxLen];omega
  have small:∀ n:Nat,n≤x.text.length+30→n≤maxLen:=fun n hn=>by simp only[maxLen];omega
  refine ay fun R hR=>?_;simp only[xk,It.cells,VV,seval];refine⟨fun _=>⟨by simp;omega,?_⟩,fun h=>by simp at h<;>omega⟩;refine an (Pj x.id hx.1 hx.2 _) rfl ?_;rcases(by omega:x.kind=1∨x.kind=2∨x.kind=3∨x.kind=4∨x.kind=5)with h | h | h | h | h
  ·simp only[h,VV,seval];refine an (zM b x.text g (by omega) σ [_]) rfl ?_;simp only[VV,seval];refine next (x.text.flatMap dC) (g+x.text.length) (by simp only[bT,h,if_true]) (by have:=AF x.text;omega) hR ?_
   rw[hw];repeat' constructor
  ·simp only[h,VV,seval];refine⟨small _ (by omega),small _ (by omega),small _ (by simp;omega),small _ (by simp;omega),okA _ (by simp only[bO,ag,List.length_append,ai];omega),?_⟩;rw[cT];refine next (60::(Lib.itoa x.id++58::(x.text++[62]))) (g+1) (by simp[bT,h]) (by simp;omega) hR ?_
   rw[hw];repeat' constructor
  ·simp only[h,VV,seval];refine⟨small _ (by omega),small _ (by simp;omega),small _ (by simp;omega),small _ (by simp;omega),okA _ (by simp only[bO,ag,List.length_append,ai];omega),?_⟩;rw[cT];refine next (60::47::(Lib.itoa x.id++58::(x.text++[62]))) (g+1) (by simp[bT,h]) (by simp;omega) hR ?_
   rw[hw];repeat' constructor
  ·simp only[h,VV,seval];refine⟨small _ (by omega),small _ (by omega),small _ (by simp;omega),small _ (by simp;omega),okA _ (by simp only[bO,ag,List.length_append,ai];omega),?_⟩;rw[cT];refine next (60::(Lib.itoa x.id++58::(x.text++[47,62]))) (g+1) (by simp[bT,h]) (by simp;omega) hR ?_
   rw[hw];repeat' constructor
  ·simp only[h,VV,seval];refine⟨small _ (by omega),small _ (by first | omega | (simp;omega)),okA _ (by simp only[bO,ag,List.length_append,ai];omega),?_⟩;rw[cT];refine next (123::(x.text++[125])) (g+1) (by simp[bT,h]) (by simp;omega) hR ?_
   rw[hw];repeat' constructor
theorem uN(its:List It)(hlen:its.length<2^30)(ht:bp its<2^30)(hid:∀ x∈its,-9223372036854775808≤x.id∧x.id≤9223372036854775807)(σ:ah):PC prog 125 [.sl 3 (its.map It.cells)] σ (fun r σ'=>r=.gZ [.s (format its).1,.i .i64 (format its).2]∧σ'=σ):=by
 refine PC.intro func125 aaD fun aU da=>al ?_;simp only[VN,SS,seval];simp only[VV,seval];refine an (lN its _) rfl ?_;simp only[ae,VV,seval];refine⟨fun h=>?_,fun h=>?_⟩
 ·have h:bC its≠0:=by simpa using h
  exact aP (.inr rfl) rfl ⟨by simp only[format,h,if_true,ne_eq,not_false_eq_true];rfl,rfl⟩
 ·have h:bC its=0:=by simpa using h
  have e:format its=(its.flatMap bT,0):=by simp only[format,h,ne_eq,not_true,if_false]
  rw[e];refine bX.wk ((Wk.iZ (k:=5) KI rfl).trans (Wk.ic ?_)) (bX.ml (its.length+1) (O8 its aU (by omega) hid (pg h) its [] [] 0 rfl (by simp only[ai];omega) ?_))
  ·simp only[W,seval]
   repeat' constructor
  ·intro g;intros;simp only[jz,aG,W,seval];exact aD aU (.inr rfl) rfl (by simp only[LW]) ⟨rfl,rfl⟩
theorem mH(e:En)(hs:e.small)(σ:ah):PC prog 56 [.agg e.cells] σ (fun r σ'=>r=.i .i64 (cM e)∧σ'=σ):=by
 refine PC.intro func56 c56 fun aU da=>al ?_;simp only[p56,SS,seval];simp only[En.cells,VV,seval];refine an (lN e.source _) rfl ?_;simp only[VV,seval];refine⟨fun h=>?_,fun h=>?_⟩
 ·have h:bC e.source≠0:=by simpa using h
  exact aD aU (.inr rfl) rfl (by simp only[LW]) ⟨by simp only[cM,h,if_true,ne_eq,not_false_eq_true];rfl,rfl⟩
 have h1:bC e.source=0:=by simpa using h
 refine an (lN e.target _) rfl ?_;simp only[VV,seval];refine⟨fun h=>?_,fun h=>?_⟩
 ·have h:bC e.target≠0:=by simpa using h
  refine aD aU (.inr rfl) rfl (by simp only[LW]) ⟨?_,rfl⟩;simp only[cM,h1,h,if_true,ne_eq,not_false_eq_true,not_true,if_false];rfl
 have h2:bC e.target=0:=by simpa using h
 refine an (CY e.source e.target (by have:=hs.source;omega) (by have:=hs.target;omega) (by have:=hs.iG;omega) (by have:=hs.nh;omega) _) rfl ?_;simp only[ae,VV,seval];refine br (by simp only[VV,seval]<;>rfl) (fun _=>nv (lj e.source e.target) e.source _) rfl ?_;simp only[VV,seval];refine br (by simp only[VV,seval]<;>rfl) (fun _=>nv (nO e.source e.target) e.target _) rfl ?_;simp only[VV,seval]
 have PG:lD e=!((((e.source.length:Int)==0)||!eM (lj e.source e.target) e.source)||!eM (nO e.source e.target) e.target):=by
  have:((e.source.length:Int)==0)=(e.source.length==0):=by rw[cP];simp
  simp only[lD,this];cases(e.source.length==0)<;>cases eM (lj e.source e.target) e.source<;>cases eM (nO e.source e.target) e.target<;>rfl
 refine⟨fun h=>?_,fun h=>?_⟩
 ·rw[h]at PG;refine aD aU (.inr rfl) rfl (by simp only[LW]) ⟨?_,rfl⟩;simp only[cM,h1,h2,PG,ne_eq,not_true,if_false];rfl
 rw[h]at PG
 have e1:cM e=if(parse e.bN).2.2≠0 then(parse e.bN).2.2 else if(parse e.next).2.2≠0 then(parse e.next).2.2 else
   if(named e.cw&&named e.bV)=false then 4 else if e.created<0∨1073741824<e.created∨e.origin<1∨3<e.origin then 1 else 0:=by
  simp only[cM,h1,h2,PG,ne_eq,not_true,if_false];rfl
 refine an (om e.bN (by have:=hs.bN;omega) _) rfl ?_;simp only[VV,seval];refine⟨fun h=>?_,fun h=>?_⟩
 ·have h:(parse e.bN).2.2≠0:=by simpa using h
  rw[e1,if_pos h];exact aD aU (.inr rfl) rfl (by simp only[LW]) ⟨rfl,rfl⟩
 have h3:¬ (parse e.bN).2.2≠0:=by simpa using h
 refine an (om e.next (by have:=hs.next;omega) _) rfl ?_;simp only[VV,seval];refine⟨fun h=>?_,fun h=>?_⟩
 ·have h:(parse e.next).2.2≠0:=by simpa using h
  rw[e1,if_neg h3,if_pos h];exact aD aU (.inr rfl) rfl (by simp only[LW]) ⟨rfl,rfl⟩
 have h4:¬ (parse e.next).2.2≠0:=by simpa using h
 rw[if_neg h3,if_neg h4]at e1;refine br (by simp only[VV,seval]<;>rfl) (fun _=>k9 e.cw _) rfl ?_;simp only[VV,seval];refine br (by simp only[VV,seval]<;>rfl) (fun _=>k9 e.bV _) rfl ?_;simp only[VV,seval]
 have Y0:((!e.cw==[]&&!isName e.cw)||(!e.bV==[]&&!isName e.bV))=!(named e.cw&&named e.bV):=by
  simp only[named];cases e.cw==[]<;>cases e.bV==[]<;>cases isName e.cw<;>cases isName e.bV<;>rfl
 rw[Y0];refine⟨fun h=>?_,fun h=>⟨fun h5=>?_,fun h5=>?_⟩⟩
 ·have h:(named e.cw&&named e.bV)=false:=by rw[bU]at h;exact h
  rw[e1,if_pos h];exact aD aU (.inr rfl) rfl (by simp only[LW]) ⟨rfl,rfl⟩
 ·have h:¬ (named e.cw&&named e.bV)=false:=by rw[cL]at h;rw[h];simp
  have h5:e.created<0∨1073741824<e.created∨e.origin<1∨3<e.origin:=by
   simp at h5;omega
  rw[e1,if_neg h,if_pos h5];exact aD aU (.inr rfl) rfl (by simp only[LW]) ⟨rfl,rfl⟩
 ·have h:¬ (named e.cw&&named e.bV)=false:=by rw[cL]at h;rw[h];simp
  have h5:¬ (e.created<0∨1073741824<e.created∨e.origin<1∨3<e.origin):=by
   simp at h5;omega
  rw[e1,if_neg h,if_neg h5];exact aD aU (.inr rfl) rfl (by simp only[LW]) ⟨rfl,rfl⟩
theorem Gd(e:En)(hs:e.small)(σ:ah):PC prog 89 [.agg e.cells] σ (fun r σ'=>r=.s (sZ e)∧σ'=σ):=by
 refine PC.intro func89 c89 fun aU da=>al ?_;simp only[p89,SS,seval];simp only[En.cells,VV,seval];refine an (uN e.source hs.source hs.iG (fun x hx=>hs.ids x (by simp[hx])) _) rfl ?_;simp only[VV,seval];have hf:=kf e.source hs.source hs.iG (fun x hx=>hs.ids x (by simp[hx]));have h1:=hs.bN;have h2:=hs.next;refine⟨by simp[maxLen];omega,by simp[maxLen];omega,by simp[maxLen];omega,by simp[maxLen];omega,?_⟩;refine aD aU (.inr rfl) rfl (by simp only[LW]) ⟨?_,rfl⟩;simp[Pm.one,sZ]
theorem Jl(e:En)(hs:e.small)(σ:ah):PC prog 59 [.agg e.cells] σ (fun r σ'=>r=.s (kG e)∧σ'=σ):=by
 refine PC.intro func59 c59 fun aU da=>al ?_;simp only[p59,SS,seval];simp only[En.cells,VV,seval];refine an (mH e hs _) rfl ?_;simp only[VV,seval];refine⟨fun h=>?_,fun h=>?_⟩
 ·have h:cM e≠0:=by simpa using h
  exact aD aU (.inr rfl) rfl (by simp only[LW]) ⟨by simp only[kG,h,if_true,ne_eq,not_false_eq_true];rfl,rfl⟩
 ·have h:¬ cM e≠0:=by simpa using h
  refine an (Gd e hs _) rfl ?_;simp only[VV,seval];exact aD aU (.inr rfl) rfl (by simp only[LW]) ⟨by simp only[kG,if_neg h];rfl,rfl⟩
theorem vn(o:bc)(σ:ah):PC prog 107 [.agg o.cells] σ (fun r σ'=>r=.agg (looked o).cells∧σ'=σ):=by
 refine PC.intro func107 aaP fun aU da=>al ?_;simp only[V5,SS,seval];simp only[bc.cells,bY.cells,En.cells,VV,seval];refine⟨fun h=>?_,fun h=>?_⟩
 ·have h:o.kind≠2:=by simpa using h
  refine aD aU (.inr rfl) (by simp only[RS,seval];rfl) (by simp only[LW]) ⟨?_,rfl⟩;simp only[looked,if_pos h];rfl
 ·have h:¬ o.kind≠2:=by simpa using h
  refine aD aU (.inr rfl) (by simp only[RS,seval];rfl) (by simp only[LW]) ⟨?_,rfl⟩;simp only[looked,if_neg h];rfl
theorem Jh(e:En)(σ:ah):PC prog 106 [.agg e.cells] σ (fun r σ'=>r=.b (kL e)∧σ'=σ):=by
 refine PC.intro func106 aaQ fun aU da=>al ?_;simp only[V6,SS,seval];simp only[En.cells,ae,VV,seval];have h1:((e.target.length:Int)==0)=(e.target.length==0):=by rw[cP];simp
 have e1:kL e=((e.target.length==0)&&(e.cw==[]&&(e.bV==[]&&(e.created==0&&e.origin==0)))):=rfl;rw[h1,e1];cases e.target.length==0<;>simp only[VV,seval]
 ·exact aD aU (.inr rfl) (by simp only[RS,seval];rfl) (by simp only[LW]) ⟨rfl,rfl⟩
 cases e.cw==[]<;>simp only[VV,seval]
 ·exact aD aU (.inr rfl) (by simp only[RS,seval];rfl) (by simp only[LW]) ⟨rfl,rfl⟩
 cases e.bV==[]<;>simp only[VV,seval]
 ·exact aD aU (.inr rfl) (by simp only[RS,seval];rfl) (by simp only[LW]) ⟨rfl,rfl⟩
 cases e.created==0<;>simp only[VV,seval]
 ·exact aD aU (.inr rfl) (by simp only[RS,seval];rfl) (by simp only[LW]) ⟨rfl,rfl⟩
 exact aD aU (.inr rfl) (by simp only[RS,seval];rfl) (by simp only[LW]) ⟨rfl,rfl⟩
theorem R3{n:Nat}{σ:ah}{K:Exit→St→Prop}(q:V)(l:List Int)(hlen:l.length<2^63):∀ (rest pre:List Int),l=pre++rest →
  (rest.any (fun n=>decide (128<n))=false→(∀ j0 j2 j3 j4 j5 j6 j7 j8 j9 cC cH cG cF cB cE cD cI cQ db de dh dm dv du dt dN dR dU dX ej eD eL eQ eP fb fi fh fg fw fG fF fK fW gj gi gB gA gz gy gx gY gW gU iq iD iN iM iL iK jf jD,K (.exit 0) ⟨[j0,q,j2,j3,j4,j5,j6,j7,j8,j9,cC,cH,cG,cF,cB,cE,cD,cI,cQ,db,de,dh,dm,dv,du,dt,dN,dR,dU,dX,ej,eD,eL,eQ,eP,fb,fi,fh,fg,fw,fG,fF,fK,fW,gj,gi,gB,gA,gz,gy,gx,gY,gW,gU,iq,iD,iN,iM,iL,iK,jf,jD],σ⟩))→(rest.any (fun n=>decide (128<n))=true→(∀ j0 j3 j4 j5 j6 j7 j8 j9 cC cH cG cF cB cE cD cI cQ db de dh dm dv du dt dN dR dU dX ej eD eL eQ eP fb fi fh fg fw fG fF fK fW gj gi gB gA gz gy gx gY gW gU iq iD iN iM iL iK jf jD,K .ret ⟨[j0,q,.i .i64 1,j3,j4,j5,j6,j7,j8,j9,cC,cH,cG,cF,cB,cE,cD,cI,cQ,db,de,dh,dm,dv,du,dt,dN,dR,dU,dX,ej,eD,eL,eQ,eP,fb,fi,fh,fg,fw,fG,fF,fK,fW,gj,gi,gB,gA,gz,gy,gx,gY,gW,gU,iq,iD,iN,iM,iL,iK,jf,jD],σ⟩)) →
  fp n prog Ho K (rest.length+1) ⟨[u,q,u,u,u,u,u,u,u,u,u,u,u,u,u,u,u,u,u,u,u,u,u,u,u,u,u,u,u,u,.sl 1 (l.map bW),.i .i64 l.length,.i .i64 pre.length,u,u,u,u,u,u,u,u,u,u,u,u,u,u,u,u,u,u,u,u,u,u,u,u,u,u,u,u,u],σ⟩:=by
 intro rest
 induction rest with
 | nil =>
  intro pre he h1 h2;have he:l=pre:=by simpa using he
  subst he;refine ay fun R hR=>?_;simp only[Ho,VV,seval];exact⟨fun h=>by simp at h,fun _=>h1 rfl ..⟩
 | cons c rest ih =>
  intro pre he h1 h2;subst he;refine ay fun R hR=>?_;simp only[Ho,bW,VV,seval];refine⟨fun _=>⟨by simp;omega,fun h=>?_,fun h=>?_⟩,fun h=>by simp at h<;>omega⟩
  ·have h:128<c:=by simpa using h
   exact h2 (by simp[h]) ..
  ·have h:¬ 128<c:=by simpa using h
   have e:(c::rest).any (fun n=>decide (128<n))=rest.any (fun n=>decide (128<n)):=by simp[h]
   rw[e]at h1 h2;refine hR _ (bb ?_ (ih (pre++[c]) (by simp) h1 h2));rw[aX (by simp at hlen;omega)];simp only[List.length_append,ag,ai]
   repeat' constructor
theorem lu(o:bc)(hs:o.small)(σ:ah):PC prog 79 [.agg o.cells] σ (fun r σ'=>r=.i .i64 (dQ o)∧σ'=σ):=by
 refine PC.intro func79 c79 fun aU da=>al ?_;have Pv:=hs.seen;simp only[p79,SS,seval];simp only[bc.cells,bY.cells,En.cells,VV,seval];refine an (tO o.aT _) rfl ?_;simp only[VV,seval];refine⟨fun h=>?_,fun h=>?_⟩
 ·have h:gH o.aT=false:=by
   cases hk:gH o.aT with
   | false=>rfl
   | true=>rw[hk]at h;simp at h
  refine aD aU (.inr rfl) (by simp only[RS,seval];rfl) (by simp only[LW]) ⟨?_,rfl⟩;simp only[dQ,h,if_true];rfl
 have h0:¬ gH o.aT=false:=by
  intro hk;rw[hk]at h;simp at h
 have e0:dQ o=if(o.kind≠1∧o.kind≠2)∨iV o.seen≠o.seen then 1 else
   if o.seen.any (fun n=>decide (128<n))then 1 else
   if lL o.seen o.aT.bP≠o.aT.number - 1 then 11 else
   if o.kind=2∧kL o.entry=false then 1 else cM (looked o):=by simp only[dQ,if_neg h0]
 have Mn:1≤o.aT.number∧o.aT.number≤128:=by
  have:gH o.aT=true:=by simpa using h0
  simp only[gH,decide_eq_true_eq]at this;omega
 rw[e0]
 have QX:(bif (o.kind != 1)then(o.kind != 2)else false)=decide (o.kind≠1∧o.kind≠2):=by
  rw[cP];by_cases h1:o.kind=1<;>by_cases h2:o.kind=2<;>simp[h1,h2]
 refine br (by simp only[VV,seval]<;>rfl) (fun _=>Ds o.seen _) rfl ?_;simp only[VV,seval];refine br (by simp only[VV,seval]<;>rfl) (fun _=>CL (ph o.seen []) o.seen _) rfl ?_;simp only[VV,seval];have SZ:o.seen.length<2^63:=by omega
 refine⟨fun h=>?_,fun h=>bX.bb ?_ (o.seen.length+1) (R3 (.ptr σ.length 0) o.seen SZ o.seen [] rfl (fun ha=>?_) (fun ha=>?_))⟩
 ·have h:(o.kind≠1∧o.kind≠2)∨iV o.seen≠o.seen:=by
   simpa[iV]using h
  refine aD aU (.inr rfl) (by simp only[RS,seval];rfl) (by simp only[LW]) ⟨?_,rfl⟩;rw[if_pos h];rfl
 ·simp only[ae,ai,VV,seval]
  repeat' constructor
 ·have h:¬ ((o.kind≠1∧o.kind≠2)∨iV o.seen≠o.seen):=by
   intro h2;have:(o.kind != 1&&o.kind != 2||!ph o.seen []==o.seen)=true:=by simpa[iV]using h2
   rw[h]at this;simp at this
  rw[if_neg h,if_neg (show ¬ (o.seen.any fun n=>decide (128<n))=true by rw[ha];simp)];intros;simp only[VV,seval];refine an (mz o.seen o.aT.bP _) rfl ?_;simp only[VV,seval];have hw:IntKind.i64.wrap (o.aT.number - 1)=o.aT.number - 1:=IntWalk.i64_in _ (by omega);rw[hw];refine⟨fun h=>?_,fun h=>?_⟩
  ·have h:lL o.seen o.aT.bP≠o.aT.number - 1:=by simpa using h
   refine aD aU (.inr rfl) (by simp only[RS,seval];rfl) (by simp only[LW]) ⟨?_,rfl⟩;rw[if_pos h];rfl
  have h:¬ lL o.seen o.aT.bP≠o.aT.number - 1:=by simpa using h
  rw[if_neg h];refine br (by simp only[VV,seval]<;>rfl) (fun _=>Jh o.entry _) rfl ?_;simp only[VV,seval];refine⟨fun h=>?_,fun h=>?_⟩
  ·have h:o.kind=2∧kL o.entry=false:=by simpa using h
   refine aD aU (.inr rfl) (by simp only[RS,seval];rfl) (by simp only[LW]) ⟨?_,rfl⟩;rw[if_pos h];rfl
  have h:¬ (o.kind=2∧kL o.entry=false):=by simpa using h
  rw[if_neg h];refine an (vn o _) rfl ?_;simp only[VV,seval];refine an (mH (looked o) (oQ hs) _) rfl ?_;simp only[VV,seval];exact aD aU (.inr rfl) (by simp only[RS,seval];rfl) (by simp only[LW]) ⟨rfl,rfl⟩
 ·have h:¬ ((o.kind≠1∧o.kind≠2)∨iV o.seen≠o.seen):=by
   intro h2;have:(o.kind != 1&&o.kind != 2||!ph o.seen []==o.seen)=true:=by simpa[iV]using h2
   rw[h]at this;simp at this
  rw[if_neg h,if_pos ha];intros;simp only[VV,seval];exact aD aU (.inr rfl) (by simp only[RS,seval];rfl) (by simp only[LW]) ⟨rfl,rfl⟩
theorem Lr(o:bc)(hs:o.small)(σ:ah):PC prog 172 [.agg o.cells] σ (fun r σ'=>r=.s (bE o)∧σ'=σ):=by
 refine PC.intro func172 aah fun aU da=>al ?_;simp only[Vr,SS,seval];simp only[bc.cells,bY.cells,En.cells,VV,seval];refine an (lu o hs _) rfl ?_;simp only[VV,seval];refine⟨fun h=>?_,fun h=>?_⟩
 ·have h:dQ o≠0:=by simpa using h
  exact aD aU (.inr rfl) (by simp only[RS,seval];rfl) (by simp only[LW]) ⟨by simp only[bE,h,if_true,ne_eq,not_false_eq_true];rfl,rfl⟩
 ·have h:¬ dQ o≠0:=by simpa using h
  refine an (vn o _) rfl ?_;simp only[VV,seval];refine an (Jl (looked o) (oQ hs) _) rfl ?_;simp only[VV,seval];exact aD aU (.inr rfl) (by simp only[RS,seval];rfl) (by simp only[LW]) ⟨by simp only[bE,if_neg h];rfl,rfl⟩
theorem Ux(n:Int):n.fdiv (2^min 8 IntKind.i64.bits)=n / 256:=by
 have:(2:Int)^min 8 IntKind.i64.bits=256:=by decide
 rw[this,lq _ (by decide)]
theorem QF(n:Int):n.fdiv (2^min 16 IntKind.i64.bits)=n / 65536:=by
 have:(2:Int)^min 16 IntKind.i64.bits=65536:=by decide
 rw[this,lq _ (by decide)]
theorem zV(n:Int):IntKind.u8.wrap n=((iA n).toNat:Int):=by
 have h1:IntKind.u8.wrap n=n % 256:=by
  simp[IntKind.wrap,IntKind.bits,IntKind.signed]
 rw[h1];have h2:0≤n % 256:=QA _ (by decide);have h3:n % 256<256:=G5 _ (by decide);simp only[iA,mZ];omega
theorem QH(b:List UInt8)(n:Int):aQ b++[[V.i .u8 (iA (n / 256)).toNat],[V.i .u8 (iA n).toNat]]=aQ (b++pt n):=by
 simp[aQ,pt]
theorem wG(b:List UInt8)(n:Int)(g:Nat)(hlen:b.length<2^46)(σ ext:ah):PC prog 130 [.own σ.length g,.i .i64 n] (σ++(.row 5 1 1 g false (aQ b)::ext))
  (fun r σ'=>r=.own σ.length (g+1)∧σ'=σ++(.row 5 1 1 (g+1) false (aQ (b++pt n))::ext)):=by
 refine PC.intro func130 XF fun aU da=>al ?_;simp only[RC,SS,seval];simp only[Ux,zV,bO,QH,maxLen,VV,Int.reduceBEq,Int.reduceBNe,Nat.reduceAdd,Nat.reduceSub,Nat.reduceLeDiff,Nat.reduceEqDiff,Int.reduceToNat,reduceIte,reduceCtorEq];refine⟨by omega,by omega,?_⟩;exact ei (.inr rfl) rfl (Wk.refl _ _) rfl ⟨rfl,rfl⟩
theorem IB(b:List UInt8)(n:Int)(hlen:b.length<2^46)(σ:ah):PC prog 130 [.lit 1 (aQ b),.i .i64 n] σ
  (fun r σ'=>r=.own σ.length 0∧σ'=σ++[.row 5 1 1 0 false (aQ (b++pt n))]):=by
 refine PC.intro func130 XF fun aU da=>al ?_;simp only[RC,SS,seval];simp only[Ux,zV,bO,QH,maxLen,List.isEmpty_cons,aF,VV,Int.reduceBEq,Int.reduceBNe,Nat.reduceAdd,Nat.reduceSub,Nat.reduceLeDiff,Nat.reduceEqDiff,Int.reduceToNat,reduceIte,reduceCtorEq];refine⟨by omega,by omega,?_⟩;exact ei (.inr rfl) rfl (Wk.refl _ _) rfl ⟨rfl,rfl⟩
theorem Ie(b:List UInt8)(n:Int)(g:Nat)(hlen:b.length<2^45)(σ ext:ah):PC prog 129 [.own σ.length g,.i .i64 n] (σ++(.row 5 1 1 g false (aQ b)::ext))
  (fun r σ'=>r=.own σ.length (g+2)∧σ'=σ++(.row 5 1 1 (g+2) false (aQ (b++zK n))::ext)):=by
 refine PC.intro func129 XG fun aU da=>al ?_;simp only[RE,SS,seval];simp only[QF,VV,Int.reduceBEq,Int.reduceBNe,Nat.reduceAdd,Nat.reduceSub,Nat.reduceLeDiff,Nat.reduceEqDiff,Int.reduceToNat,reduceIte,reduceCtorEq];refine⟨by decide,?_⟩;refine an (wG b (n / 65536) g (by omega) σ ext) rfl ?_;simp only[VV,seval];refine an (wG (b++pt (n / 65536)) n (g+1) (by simp[pt];omega) σ ext) rfl ?_;simp only[VV,seval];refine ei (.inr rfl) rfl (Wk.refl _ _) rfl ⟨rfl,?_⟩;simp only[zK,List.append_assoc]
theorem GA(b:List UInt8)(n:Int)(hlen:b.length<2^45)(σ:ah):PC prog 129 [.lit 1 (aQ b),.i .i64 n] σ
  (fun r σ'=>r=.own σ.length 1∧σ'=σ++[.row 5 1 1 1 false (aQ (b++zK n))]):=by
 refine PC.intro func129 XG fun aU da=>al ?_;simp only[RE,SS,seval];simp only[QF,VV,Int.reduceBEq,Int.reduceBNe,Nat.reduceAdd,Nat.reduceSub,Nat.reduceLeDiff,Nat.reduceEqDiff,Int.reduceToNat,reduceIte,reduceCtorEq];refine⟨by decide,?_⟩;refine an (IB b (n / 65536) (by omega) σ) rfl ?_;simp only[VV,seval];refine an (wG (b++pt (n / 65536)) n 0 (by simp[pt];omega) σ []) rfl ?_;simp only[VV,seval];refine ei (.inr rfl) rfl (Wk.refl _ _) rfl ⟨rfl,?_⟩;simp only[zK,List.append_assoc]
def vM(s:List UInt8):List V:=[.s s]
theorem O6{n:Nat}{σ ext:ah}{K:Exit→St→Prop}(l:List (List UInt8))(hlen:l.length<2^63)(zu:∀ s∈l,s.length<2^40):∀ (rest pre:List (List UInt8)) (b:List UInt8) (g:Nat),l=pre++rest →
  b.length+rest.length*2^41<2^45 →
  (∀ j1 j2 j3 j4 j5 j6 j7 j8 j9 cC cH cG cF cB cE cD cI cQ db de,K (.exit 0) ⟨[.own σ.length (g+3*rest.length),j1,j2,j3,j4,j5,j6,j7,j8,j9,cC,cH,cG,cF,cB,cE,cD,cI,cQ,db,de],σ++(.row 5 1 1 (g+3*rest.length) false (aQ (b++rest.flatMap cY))::ext)⟩) →
  fp n prog BV K (rest.length+1) ⟨[.own σ.length g,u,u,u,u,u,u,.sl 1 (l.map vM),.i .i64 l.length,.i .i64 pre.length,u,u,u,u,u,u,u,u,u,u,u],σ++(.row 5 1 1 g false (aQ b)::ext)⟩:=by
 intro rest
 induction rest with
 | nil =>
  intro pre b g he hb h1;have he:l=pre:=by simpa using he
  subst he;refine ay fun R hR=>?_;simp only[BV,VV,seval];simp only[ai,Nat.mul_zero,cn,iU,bt]at h1;exact⟨fun h=>by simp at h,fun _=>h1 ..⟩
 | cons c rest ih =>
  intro pre b g he hb h1;subst he;have hc:=zu c (by simp);simp only[ag]at hb h1;refine ay fun R hR=>?_;simp only[BV,vM,VV,seval];refine⟨fun _=>⟨by simp;omega,?_⟩,fun h=>by simp at h<;>omega⟩;refine an (Ie b c.length g (by omega) σ ext) rfl ?_;simp only[bO,maxLen,VV,seval];refine⟨by simp[dA];omega,?_⟩;have e0:b++zK c.length++c=b++cY c:=by simp[cY]
  rw[cT,e0];refine hR _ (bb ?_ (ih (pre++[c]) (b++cY c) (g+3) (by simp) (by simp[cY,dA];omega) ?_))
  ·rw[aX (by simp at hlen;omega)];simp only[List.length_append,ag,ai]
   repeat' constructor
  ·have e1:g+3+3*rest.length=g+3*(rest.length+1):=by omega
   have e2:b++cY c++rest.flatMap cY=b++(c::rest).flatMap cY:=by simp
   rw[e1,e2];exact h1
theorem Jf(b:List UInt8)(l:List (List UInt8))(g:Nat)(hl:l.length≤3)(zu:∀ s∈l,s.length<2^40)(hlen:b.length<2^44)(σ ext:ah):PC prog 131 [.own σ.length g,.sl 1 (l.map vM)] (σ++(.row 5 1 1 g false (aQ b)::ext))
  (fun r σ'=>r=.own σ.length (g+3*l.length)∧σ'=σ++(.row 5 1 1 (g+3*l.length) false (aQ (b++l.flatMap cY))::ext)):=by
 refine PC.intro func131 aaB fun aU da=>al ?_;simp only[VL,SS,seval];simp only[ae,VV,seval];refine bX.bb ?_ (l.length+1) (O6 l (by omega) zu l [] b g rfl (by omega) ?_)
 ·repeat' constructor
 ·intros;simp only[VV,seval];exact ei (.inr rfl) rfl (Wk.refl _ _) rfl ⟨rfl,rfl⟩
theorem K5(b:List UInt8)(n:Int):aQ b++[[V.i .u8 (iA n).toNat]]=aQ (b++[iA n]):=by
 simp[aQ]
theorem On{o:bc}(h:dQ o=0):o.seen.length≤8:=by
 have hs:iV o.seen=o.seen:=by
  simp only[dQ]at h;split at h
  ·simp at h
  ·split at h
   ·simp at h
   ·rename_i h2
    by_cases hs:iV o.seen=o.seen
    ·exact hs
    ·exact absurd (.inr hs) h2
 have h0:iV o.seen=(im o.seen [] 8).take (gw o.seen [] 8):=rfl;rw[← hs,h0];simp[jX];omega
theorem qC(l:List Int):(l.map fun _=>2).sum=2*l.length:=by
 induction l with
 | nil=>rfl
 | cons x l ih=>simp only[aW,List.sum_cons,ih,ag];omega
theorem eY(s:List UInt8):(cY s).length=s.length+4:=by simp[cY,dA];omega
theorem Yo(b:List UInt8)(n:Int)(g:Nat)(hlen:b.length<2^46)(σ:ah)(o1:Ob)(ext:ah):PC prog 130 [.own (σ.length+1) g,.i .i64 n] (σ++(o1::.row 5 1 1 g false (aQ b)::ext))
  (fun r σ'=>r=.own (σ.length+1) (g+1)∧σ'=σ++(o1::.row 5 1 1 (g+1) false (aQ (b++pt n))::ext)):=by
 have:=wG b n g hlen (σ++[o1]) ext;simpa only[List.length_append,ag,ai,aI,List.append_assoc,aJ,aG]using this
theorem Xu(b:List UInt8)(n:Int)(g:Nat)(hlen:b.length<2^45)(σ:ah)(o1:Ob)(ext:ah):PC prog 129 [.own (σ.length+1) g,.i .i64 n] (σ++(o1::.row 5 1 1 g false (aQ b)::ext))
  (fun r σ'=>r=.own (σ.length+1) (g+2)∧σ'=σ++(o1::.row 5 1 1 (g+2) false (aQ (b++zK n))::ext)):=by
 have:=Ie b n g hlen (σ++[o1]) ext;simpa only[List.length_append,ag,ai,aI,List.append_assoc,aJ,aG]using this
theorem HN(b:List UInt8)(l:List (List UInt8))(g:Nat)(hl:l.length≤3)(zu:∀ s∈l,s.length<2^40)(hlen:b.length<2^44)(σ:ah)(o1:Ob)(ext:ah):PC prog 131 [.own (σ.length+1) g,.sl 1 (l.map vM)] (σ++(o1::.row 5 1 1 g false (aQ b)::ext))
  (fun r σ'=>r=.own (σ.length+1) (g+3*l.length)∧σ'=σ++(o1::.row 5 1 1 (g+3*l.length) false (aQ (b++l.flatMap cY))::ext)):=by
 have:=Jf b l g hl zu hlen (σ++[o1]) ext;simpa only[List.length_append,ag,ai,aI,List.append_assoc,aJ,aG]using this
theorem RX{n:Nat}{σ:ah}{o1:Ob}{K:Exit→St→Prop}(q:V)(l:List Int)(hlen:l.length<2^30):∀ (rest pre:List Int) (b:List UInt8) (g:Nat),l=pre++rest →
  b.length+2*rest.length<2^45 →
  (∀ j0 j2 j4 j6 j7 j8 j9 cC cH cG cF cB cE cD cI cQ db de dh dm dv du dt dN dR dU dX ej eD eL eQ eP fb fi fh fg fw fG fF fK fW gj gi gB gA gz gy gx gY gW gU iq iD iN iM iL iK jf jD jP kt kr kq k8 mP mO mN mM mL mK nL qf rj ri rh rf re q9 q8 q7 qZ qY rT uq uo um uk uj ui uh Ep Eo Em El Ek Ej,K (.exit 0) ⟨[j0,q,j2,.i .i64 0,j4,.own (σ.length+1) (g+rest.length),j6,j7,j8,j9,cC,cH,cG,cF,cB,cE,cD,cI,cQ,db,de,dh,dm,dv,du,dt,dN,dR,dU,dX,ej,eD,eL,eQ,eP,fb,fi,fh,fg,fw,fG,fF,fK,fW,gj,gi,gB,gA,gz,gy,gx,gY,gW,gU,iq,iD,iN,iM,iL,iK,jf,jD,jP,kt,kr,kq,k8,mP,mO,mN,mM,mL,mK,nL,qf,rj,ri,rh,rf,re,q9,q8,q7,qZ,qY,rT,uq,uo,um,uk,uj,ui,uh,Ep,Eo,Em,El,Ek,Ej],σ++[o1,.row 5 1 1 (g+rest.length) false (aQ (b++rest.flatMap pt))]⟩) →
  fp n prog Hj K (rest.length+1) ⟨[u,q,u,.i .i64 0,u,.own (σ.length+1) g,u,u,u,u,u,u,u,u,u,u,u,u,u,u,u,u,u,u,u,u,u,u,u,u,u,u,u,u,u,u,u,u,u,u,u,u,u,u,u,u,.sl 1 (l.map bW),.i .i64 l.length,.i .i64 pre.length,u,u,u,u,u,u,u,u,u,u,u,u,u,u,u,u,u,u,u,u,u,u,u,u,u,u,u,u,u,u,u,u,u,u,u,u,u,u,u,u,u,u,u,u,u,u,u,u,u,u],σ++[o1,.row 5 1 1 g false (aQ b)]⟩:=by
 intro rest
 induction rest with
 | nil =>
  intro pre b g he hb h1;have he:l=pre:=by simpa using he
  subst he;refine ay fun R hR=>?_;simp only[Hj,VV,seval];simp only[ai,Nat.mul_zero,cn,iU,bt]at h1;exact⟨fun h=>by simp at h,fun _=>h1 ..⟩
 | cons c rest ih =>
  intro pre b g he hb h1;subst he;simp only[ag]at hb h1;refine ay fun R hR=>?_;simp only[Hj,bW,VV,seval];refine⟨fun _=>⟨by simp;omega,?_⟩,fun h=>by simp at h<;>omega⟩;have iQ:=wG b c g (by omega) (σ++[o1]) [];simp only[List.length_append,ag,ai,aI,List.append_assoc,aJ,aG]at iQ;refine an iQ rfl ?_;simp only[VV,seval];refine hR _ (bb ?_ (ih (pre++[c]) (b++pt c) (g+1) (by simp) (by simp[eR];omega) ?_))
  ·rw[aX (by simp at hlen;omega)];simp only[List.length_append,ag,ai]
   repeat' constructor
  ·have e1:g+1+rest.length=g+(rest.length+1):=by omega
   have e2:b++pt c++rest.flatMap pt=b++(c::rest).flatMap pt:=by simp
   rw[e1,e2];exact h1
theorem uP(o:bc)(hs:o.small)(σ:ah):PC prog 94 [.agg o.cells] σ (fun r σ'=>r=.gZ [.sl 1 (aQ (encode o).1),.i .i64 (encode o).2]∧σ'=σ):=by
 refine PC.intro func94 c94 fun aU da=>al ?_;have Pv:=hs.seen;simp only[p94,SS,seval];simp only[bc.cells,bY.cells,En.cells,VV,seval];refine an (lu o hs _) rfl ?_;simp only[VV,seval];refine⟨fun h=>?_,fun h=>?_⟩
 ·have h:dQ o≠0:=by simpa using h
  have e:encode o=([],dQ o):=by simp only[encode,h,if_true,ne_eq,not_false_eq_true]
  rw[e];refine jW (ys:=[.sl 1 [],.i .i64 (dQ o)]) aU (.inr rfl) (by simp only[RS,seval];rfl) ?_ (by simp only[LW]) ⟨rfl,rfl⟩;exact .cons (.nil _) (.cons (.refl _) .nil)
 have h:dQ o=0:=by simpa using h
 have e:encode o=(dV o,0):=by simp only[encode,h,ne_eq,not_true,if_false]
 rw[e];have hk:o.seen.length≤8:=(On h);have Fq:=hs.entry.bN;have pz:=hs.entry.next;have Ax:=hs.cw;have EC:=hs.bV;have hfs:=kf o.entry.source hs.entry.source hs.entry.iG (fun x hx=>hs.entry.ids x (by simp[hx]));have hft:=kf o.entry.target hs.entry.target hs.entry.nh (fun x hx=>hs.entry.ids x (by simp[hx]));simp only[zV];have iQ:=GA [1,iA o.kind] o.aT.time (by simp) (σ++[Ob.box 65 (bc.cells o)]);simp only[List.length_append,ag,ai,aI,List.append_assoc,aJ,aG,bc.cells,bY.cells,En.cells]at iQ;refine an iQ rfl ?_;simp only[zV,bO,K5,maxLen,VV,seval];refine⟨by simp[dA],?_⟩;refine an (Yo _ o.aT.number 2 (by simp[dA]) σ _ []) rfl ?_;simp only[zV,bO,K5,maxLen,ae,VV,seval];refine⟨by simp[dA,eR],?_⟩;refine bX.bb ?_ (o.seen.length+1) (RX (.ptr σ.length 0) o.seen (by omega) o.seen [] _ 4 rfl (by simp[dA,eR];omega) ?_)
 ·repeat' constructor
 intros;simp only[VV,seval];refine an (uN o.entry.source hs.entry.source hs.entry.iG (fun x hx=>hs.entry.ids x (by simp[hx])) _) rfl ?_;simp only[VV,seval]
 refine iv (zs:=[.own (σ.length+1) (4+o.seen.length),.sl 1 ([(format o.entry.source).1,o.entry.bN,o.entry.next].map vM)]) (.cons (.refl _) (.cons (.lit _ _) .nil))
  (HN _ _ _ (by simp) (by simp;omega) (by simp[dA,eR,qC];omega) σ _ _) ?_
 simp only[VV,seval];refine⟨fun sk=>?_,fun sk=>?_⟩
 ·have sk:o.kind=1:=by simpa using sk
  refine an (uN o.entry.target hs.entry.target hs.entry.nh (fun x hx=>hs.entry.ids x (by simp[hx])) _) rfl ?_;simp only[VV,seval]
  refine iv (zs:=[.own (σ.length+1) _,.sl 1 ([(format o.entry.target).1,o.entry.cw,o.entry.bV].map vM)]) (.cons (.refl _) (.cons (.lit _ _) .nil))
   (HN _ _ _ (by simp) (by simp;omega) (by simp[dA,eR,qC,eY];omega) σ _ _) ?_
  simp only[zV,VV,seval];refine an (Xu _ o.entry.created _ (by simp[dA,eR,qC,eY];omega) σ _ _) rfl ?_;simp only[bO,K5,maxLen,VV,seval];refine⟨by simp[dA,eR,qC,eY];omega,?_⟩;refine iy 1 aU (.inr rfl) (by simp only[RS,seval];rfl) rfl (by simp only[aW,aZ,fz,kF,and_self,if_true,LW]) ⟨?_,rfl⟩;simp only[Pm.one,aW,aZ,ar,aC,fz,kF,and_self,if_true];congr 3;simp[dV,sk]
 ·have sk:¬ o.kind=1:=by simpa using sk
  refine iy 1 aU (.inr rfl) (by simp only[RS,seval];rfl) rfl (by simp only[aW,aZ,fz,kF,and_self,if_true,LW]) ⟨?_,rfl⟩;simp only[Pm.one,aW,aZ,ar,aC,fz,kF,and_self,if_true];congr 3;simp[dV,sk]
theorem Nr(n:Int):(aQ (zK n)).isEmpty=false:=rfl
theorem TR(n:Int):(aQ (pt n)).isEmpty=false:=rfl
theorem lg(s:List UInt8):(aQ (cY s)).isEmpty=false:=rfl
theorem Yu(k:Int)(b:List UInt8):[V.i .u8 1]::[V.i .u8 ((iA k).toNat:Int)]::aQ b=aQ (1::iA k::b):=by simp[aQ]
theorem RB(n:Int)(b:List UInt8):aQ b++[[V.i .u8 ((iA n).toNat:Int)]]=aQ (b++[iA n]):=by simp[aQ]
theorem iB(b:List UInt8):(aQ b).length=b.length:=by simp[aQ]
theorem OV{n:Nat}{σ:ah}{o1:Ob}{K:Exit→St→Prop}(q:V)(l:List Int)(hlen:l.length<2^30):∀ (rest pre:List Int) (b:List UInt8) (g:Nat),l=pre++rest →
  b.length+2*rest.length<2^45 →
  (∀ g,(∀ j0 j2 j3 j4 j6 j7 j8 j9 cC cH cG cF cB cE cD cI cQ db de dh dm dv du dt dN dR dU dX ej eD eL eQ eP fb fi fh fg fw fG fF fK fW gj gi gB gA gz gy gx gY gW gU iq iD iN iM iL iK jf jD jP kt kr kq k8 mP mO mN mM mL mK nL qf rj ri rh rf re q9 q8 q7 qZ qY rT uq uo um uk uj ui uh Ep Eo Em El Ek Ej Gm,K (.exit 0) ⟨[j0,q,j2,j3,j4,.own (σ.length+1) g,j6,j7,j8,j9,cC,cH,cG,cF,cB,cE,cD,cI,cQ,db,de,dh,dm,dv,du,dt,dN,dR,dU,dX,ej,eD,eL,eQ,eP,fb,fi,fh,fg,fw,fG,fF,fK,fW,gj,gi,gB,gA,gz,gy,gx,gY,gW,gU,iq,iD,iN,iM,iL,iK,jf,jD,jP,kt,kr,kq,k8,mP,mO,mN,mM,mL,mK,nL,qf,rj,ri,rh,rf,re,q9,q8,q7,qZ,qY,rT,uq,uo,um,uk,uj,ui,uh,Ep,Eo,Em,El,Ek,Ej,Gm],σ++[o1,.row 5 1 1 g false (aQ (b++rest.flatMap pt))]⟩)) →
  fp n prog BI K (rest.length+1) ⟨[u,q,u,u,u,.own (σ.length+1) g,u,u,u,u,u,u,u,u,u,u,u,u,u,u,u,u,u,u,u,u,u,u,u,u,u,u,u,u,u,u,u,u,u,u,u,u,u,u,u,.sl 1 (l.map bW),.i .i64 l.length,.i .i64 pre.length,u,u,u,u,u,u,u,u,u,u,u,u,u,u,u,u,u,u,u,u,u,u,u,u,u,u,u,u,u,u,u,u,u,u,u,u,u,u,u,u,u,u,u,u,u,u,u,u,u,u,u,u],σ++[o1,.row 5 1 1 g false (aQ b)]⟩:=by
 intro rest
 induction rest with
 | nil =>
  intro pre b g he hb h1;have he:l=pre:=by simpa using he
  subst he;refine ay fun R hR=>?_;simp only[BI,VV,seval];simp only[iU,bt]at h1;exact⟨fun h=>by simp at h,fun _=>h1 ..⟩
 | cons c rest ih =>
  intro pre b g he hb h1;subst he;simp only[ag]at hb;have er:ft (List.map bW (pre++c::rest)) pre.length 0=some (.i .i64 c):=o6
  have hw:IntKind.i64.wrap ((pre.length:Int)+1)=(((pre++[c]).length:Nat):Int):=by
   rw[aX (by simp at hlen;omega)];simp
  refine ay fun R hR=>?_;simp only[BI,aH,er,hw,ae,VV,seval];refine⟨fun _=>⟨by simp;omega,?_⟩,fun h=>by simp at h<;>omega⟩;refine an (lY c 2 (by decide) _) rfl ?_;simp only[Lx,cT,iB,eR,maxLen,hw,VV,seval];refine⟨⟨by omega,by omega⟩,?_⟩;refine hR _ (bb ?_ (ih (pre++[c]) (b++pt c) (g+1) (by simp) (by simp[eR];omega) ?_))
  ·repeat' constructor
  ·have e2:b++pt c++rest.flatMap pt=b++(c::rest).flatMap pt:=by simp
   rw[e2];exact h1
set_option maxHeartbeats 2000000 in
theorem sL(o:bc)(hs:o.small)(σ:ah):PC prog 184 [.agg o.cells] σ (fun r σ'=>r=.gZ [.sl 1 (aQ (encode o).1),.i .i64 (encode o).2]∧σ'=σ):=by
 refine PC.intro func184 Z8 fun aU da=>al ?_;have Pv:=hs.seen;simp only[Vi,SS,seval];simp only[bc.cells,bY.cells,En.cells,VV,seval];refine an (oe o hs _) rfl ?_;simp only[VV,seval];refine⟨fun h=>?_,fun h=>?_⟩
 ·have h:dQ o≠0:=by simpa using h
  have e:encode o=([],dQ o):=by simp only[encode,h,if_true,ne_eq,not_false_eq_true]
  rw[e];refine jW (ys:=[.sl 1 [],.i .i64 (dQ o)]) aU (.inr rfl) (by simp only[RS,seval];rfl) ?_ (by simp only[LW]) ⟨rfl,rfl⟩;exact .cons (.nil _) (.cons (.refl _) .nil)
 have h:dQ o=0:=by simpa using h
 have e:encode o=(dV o,0):=by simp only[encode,h,ne_eq,not_true,if_false]
 rw[e];have Fq:=hs.entry.bN;have pz:=hs.entry.next;have Ax:=hs.cw;have EC:=hs.bV;have hfs:=kf o.entry.source hs.entry.source hs.entry.iG (fun x hx=>hs.entry.ids x (by simp[hx]));have hft:=kf o.entry.target hs.entry.target hs.entry.nh (fun x hx=>hs.entry.ids x (by simp[hx]));refine an (lY o.aT.time 4 (by decide) _) rfl ?_;simp only[B8,sX,Nr,Yu,RB,cT,iB,dA,aF,maxLen,VV,Int.reduceBEq,Int.reduceBNe,Nat.reduceAdd,Nat.reduceSub,Nat.reduceLeDiff,Nat.reduceEqDiff,Int.reduceToNat,reduceIte,reduceCtorEq];refine⟨⟨by omega,by omega⟩,⟨by omega,by omega⟩,?_⟩;refine an (lY o.aT.number 2 (by decide) _) rfl ?_;simp only[Lx,sX,TR,RB,cT,iB,eR,dA,List.length_append,ag,ae,aF,maxLen,VV,Int.reduceBEq,Int.reduceBNe,Nat.reduceAdd,Nat.reduceSub,Nat.reduceLeDiff,Nat.reduceEqDiff,Int.reduceToNat,reduceIte,reduceCtorEq];refine⟨⟨by omega,by omega⟩,⟨by omega,by omega⟩,?_⟩;refine bX.bb ?_ (o.seen.length+1) (OV (.ptr σ.length 0) o.seen (by omega) o.seen [] _ 3 rfl (by simp[dA,eR];omega) ?_)
 ·repeat' constructor
 intros;generalize hB:(_++o.seen.flatMap pt:List UInt8)=B;have hBl:B.length<2^40:=by rw[← hB];simp[dA,eR,qC];omega
 simp only[VV,seval];refine an (pS o.entry.source hs.entry.source hs.entry.iG (fun x hx=>hs.entry.ids x (by simp[hx])) _) rfl ?_;simp only[lg,cT,iB,List.length_append,eY,aF,maxLen,VV,seval];refine⟨⟨by omega,by omega⟩,?_⟩;refine an (mC o.entry.bN (by omega) _) rfl ?_;simp only[lg,cT,iB,List.length_append,eY,aF,maxLen,VV,seval];refine⟨⟨by omega,by omega⟩,?_⟩;refine an (mC o.entry.next (by omega) _) rfl ?_;simp only[lg,cT,iB,List.length_append,eY,aF,maxLen,VV,seval];refine⟨⟨by omega,by omega⟩,?_⟩;refine⟨fun sk=>?_,fun sk=>?_⟩
 ·have sk:o.kind=1:=by simpa using sk
  refine an (pS o.entry.target hs.entry.target hs.entry.nh (fun x hx=>hs.entry.ids x (by simp[hx])) _) rfl ?_;simp only[lg,cT,iB,List.length_append,eY,aF,maxLen,VV,seval];refine⟨⟨by omega,by omega⟩,?_⟩;refine an (mC o.entry.cw (by omega) _) rfl ?_;simp only[lg,cT,iB,List.length_append,eY,aF,maxLen,VV,seval];refine⟨⟨by omega,by omega⟩,?_⟩;refine an (mC o.entry.bV (by omega) _) rfl ?_;simp only[lg,cT,iB,List.length_append,eY,aF,maxLen,VV,seval];refine⟨⟨by omega,by omega⟩,?_⟩;refine an (lY o.entry.created 4 (by decide) _) rfl ?_;simp only[B8,sX,RB,Nr,dA,cT,iB,List.length_append,eY,aF,maxLen,VV,seval];refine⟨⟨by omega,by omega⟩,⟨by omega,by omega⟩,?_⟩;refine iy 1 aU (.inr rfl) (by simp only[RS,seval];rfl) rfl (by simp only[aW,aZ,fz,kF,and_self,if_true,LW]) ⟨?_,rfl⟩;simp only[Pm.one,aW,aZ,ar,aC,fz,kF,and_self,if_true];congr 3;simp[dV,sk,← hB]
 ·have sk:¬ o.kind=1:=by simpa using sk
  refine iy 1 aU (.inr rfl) (by simp only[RS,seval];rfl) rfl (by simp only[aW,aZ,fz,kF,and_self,if_true,LW]) ⟨?_,rfl⟩;simp only[Pm.one,aW,aZ,ar,aC,fz,kF,and_self,if_true];congr 3;simp[dV,sk,← hB]
end Go.Proofs.Tryz

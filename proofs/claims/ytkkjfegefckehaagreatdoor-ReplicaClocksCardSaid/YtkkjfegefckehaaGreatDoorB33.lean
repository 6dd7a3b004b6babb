/- A part of the proof of the statement of the last text of this claim; its conditions stand there. -/
import Derived.Test.YtkkjfegefckehaaGreatDoorB5
import Derived.Test.YtkkjfegefckehaaGreatDoorB24
import Derived.Test.YtkkjfegefckehaaGreatDoorB28
set_option linter.all false

namespace Go.Proofs.Tryz
open Go Go.Pm Go.Bt
open Go.Pm.V(u)
theorem Wg(n:Int)(h0 : -9223372036854775808≤n)(h1:n≤9223372036854775807)(σ:ag):PC prog 196 [.i .i64 n] σ (fun r σ'=>r=.s (Lib.itoa n)∧σ'=σ):=by
 refine PC.Sk fun B w0 w μ vs hB hv=>?_;have zM:=(hv.2 0 _ rfl).iP;have Ic:vs=#[.int .i64 n]:=by rw[Ro hv.1,zM]
 have hs:(prog.globalNamed "internal/strconv.uint64pow10").isSome=true:=by kernel_rfl
 obtain⟨g,hg⟩:=Option.isSome_iff_exists.1 hs;have ht:=hB.tab (t:=("internal/strconv.uint64pow10",.u64,CO)) (by simp[US]) hg;rw[Pu]at ht;refine⟨_,?_,fun w'=>Wh n h0 h1⟩;rw[Ic];refine(Tryz.strconv_Itoa n h0 h1 w ht).mono ?_;rintro e w' ⟨he,k,os,rfl⟩;exact⟨he,Is w k os⟩
theorem VF{n:Nat}{σ ext:ag}{K:Exit→St→Prop}(s:List UInt8)(hlen:s.length<2^40):∀ (rest pre b:List UInt8) (g:Nat),s=pre++rest→b.length+4*rest.length<2^42 →
  (∀ j1 j2 j3 j4 j5 j6 j7 j8 j9 cT cS cX cR cN cM cL cW df dn dx dy dD dI dH dG dX ez eA eH eW fg fi ft fw fG fM fL fK fX gi gF gR gQ il ix iV iU iT iS iR jo jn jm jK jY kx ku kt kH,K (.exit 0) ⟨[.own σ.length (g+rest.length),j1,j2,j3,j4,j5,j6,j7,j8,j9,cT,cS,cX,cR,cN,cM,cL,cW,df,dn,dx,dy,dD,dI,dH,dG,dX,ez,eA,eH,eW,fg,fi,ft,fw,fG,fM,fL,fK,fX,gi,gF,gR,gQ,il,ix,iV,iU,iT,iS,iR,jo,jn,jm,jK,jY,kx,ku,kt,kH],σ++(.row 5 1 1 (g+rest.length) false (al (b++rest.flatMap eB))::ext)⟩) →
  fO n prog CV K (rest.length+1) ⟨[.own σ.length g,.s s,u,u,u,.i .i64 pre.length,u,u,u,u,u,u,u,u,u,u,u,u,u,u,u,u,u,u,u,u,u,u,u,u,u,u,u,u,u,u,u,u,u,u,u,u,u,u,u,u,u,u,u,u,u,u,u,u,u,u,u,u,u,u],σ++(.row 5 1 1 g false (al b)::ext)⟩:=by
 intro rest
 induction rest with
 | nil =>
  intro pre b g he hb h1;have he:s=pre:=by simpa using he
  subst he;refine ax fun R hR=>?_;simp only[CV,W,seval];simp only[jH,bf,ah,bC]at h1;exact⟨fun h=>by simp at h,fun _=>h1 ..⟩
 | cons c rest ih =>
  intro pre b g he hb h1;subst he
  have hw:IntKind.i64.wrap ((pre.length:Int)+1)=(((pre++[c]).length:Nat):Int):=by
   rw[aV (by simp at hlen;omega)];simp
  have Tm:pre++c::rest=(pre++[c])++rest:=by simp
  simp only[ab]at hb
  have next:∀ (t:List UInt8),eB c=t→t.length≤4→∀ {R:St→Prop} {fr:List V},(∀ st',fO n prog CV K (rest.length+1) st'→R st') →
    pH fr [.own σ.length (g+1),.s (pre++c::rest),u,u,u,.i .i64 (pre++[c]).length,u,u,u,u,u,u,u,u,u,u,u,u,u,u,u,u,u,u,u,u,u,u,u,u,u,u,u,u,u,u,u,u,u,u,u,u,u,u,u,u,u,u,u,u,u,u,u,u,u,u,u,u,u,u]→R ⟨fr,σ++(.row 5 1 1 (g+1) false (al (b++t))::ext)⟩:=by
   intro t ht hl R fr hR hc;have e1:b++(c::rest).flatMap eB=(b++t)++rest.flatMap eB:=by simp[ht]
   have e2:g+(c::rest).length=(g+1)+rest.length:=by simp;omega
   rw[e1,e2]at h1;refine hR _ ?_;exact aW hc (ih (pre++[c]) (b++t) (g+1) Tm (by simp;omega) h1)
  have okA:∀ n:Nat,n≤4→((al b).length+n)*1≤2^47∧(al b).length+n≤maxLen:=fun n hn=>by simp only[aL,maxLen];omega
  have bv:∀ (t:List UInt8),al b++al t=al (b++t):=fun t=>dO;refine ax fun R hR=>?_;simp only[CV,VV,seval];refine⟨fun _=>⟨by simp;omega,?_⟩,fun h=>by simp at h<;>omega⟩;refine ai (JP c _) rfl ?_;cases hp:sq c with
  | true =>
   simp only[VV,seval];refine⟨okA 1 (by omega),?_⟩;rw[show al b++[[V.i .u8 c.toNat]]=al (b++[c])from bv [c]];refine next [c] (by simp[eB,hp]) (by simp) hR ?_
   rw[hw];repeat' constructor
  | false =>
   by_cases zF:c=10
   ·simp only[OV (k:=10) zF rfl,VV,seval];refine⟨okA 2 (by omega),?_⟩;rw[show al b++[[V.i .u8 92],[V.i .u8 110]]=al (b++[92,110])from bv [92,110]];refine next [92,110] (by simp only[eB,hp,if_pos zF];rfl) (by simp) hR ?_
    rw[hw];repeat' constructor
   by_cases c9:c=9
   ·simp only[rD (k:=10) zF rfl,OV (k:=9) c9 rfl,VV,seval];refine⟨okA 2 (by omega),?_⟩;rw[show al b++[[V.i .u8 92],[V.i .u8 116]]=al (b++[92,116])from bv [92,116]];refine next [92,116] (by simp only[eB,hp,if_neg zF,if_pos c9];rfl) (by simp) hR ?_
    rw[hw];repeat' constructor
   by_cases cs:c=92∨c=60∨c=123
   ·have hs:((((c.toNat:Int)==92)||((c.toNat:Int)==60))||((c.toNat:Int)==123))=true:=by
     rcases cs with h | h | h<;>rw[h]<;>rfl
    simp only[rD (k:=10) zF rfl,rD (k:=9) c9 rfl,hs,VV,seval];refine⟨okA 2 (by omega),?_⟩;rw[show al b++[[V.i .u8 92],[V.i .u8 c.toNat]]=al (b++[92,c])from bv [92,c]];refine next [92,c] (by simp only[eB,hp,if_neg zF,if_neg c9,if_pos cs];rfl) (by simp) hR ?_
    rw[hw];repeat' constructor
   ·have hs:((((c.toNat:Int)==92)||((c.toNat:Int)==60))||((c.toNat:Int)==123))=false:=by
     rw[rD (k:=92) (fun h=>cs (.inl h)) rfl,rD (k:=60) (fun h=>cs (.inr (.inl h))) rfl,rD (k:=123) (fun h=>cs (.inr (.inr h))) rfl];rfl
    have hi:=ae1 c;have lo:=ae0 c;simp only[rD (k:=10) zF rfl,rD (k:=9) c9 rfl,hs,hi.2.2,lo.2.2,VV,Nat.reduceAdd,Int.reduceToNat,reduceIte,reduceCtorEq];refine⟨by simp,by simpa using⟨hi.1,hi.2.1⟩,by simpa using⟨lo.1,lo.2.1⟩,okA 4 (by omega),?_⟩;rw[show al b++[[V.i .u8 92],[V.i .u8 120],[V.i .u8 (jF (c.toNat / 16)).toNat],[V.i .u8 (jF (c.toNat % 16)).toNat]]=al (b++[92,120,jF (c.toNat / 16),jF (c.toNat % 16)])from bv [92,120,jF (c.toNat / 16),jF (c.toNat % 16)]];refine next [92,120,jF (c.toNat / 16),jF (c.toNat % 16)] (by simp only[eB,hp,if_neg zF,if_neg c9,if_neg cs];rfl) (by simp) hR ?_
    rw[hw];repeat' constructor
theorem Fl(b s:List UInt8)(g:Nat)(hlen:b.length+4*s.length<2^42)(σ ext:ag):PC prog 197 [.own σ.length g,.s s] (σ++(.row 5 1 1 g false (al b)::ext))
  (fun r σ'=>r=.own σ.length (g+s.length)∧σ'=σ++(.row 5 1 1 (g+s.length) false (al (b++s.flatMap eB))::ext)):=by
 refine PC.intro func197 ajK fun aQ cz=>aj ?_;simp only[acV,SS,seval];simp only[W,seval];refine bA.aW ?_ (s.length+1) (VF s (by omega) s [] b g rfl hlen ?_)
 ·repeat' constructor
 ·intros;simp only[W,seval];exact ed (.inr rfl) rfl (Wk.refl _ _) rfl ⟨rfl,rfl⟩
theorem VT{σ:ag}{K:Exit→St→Prop}(its:List It)(aQ:bP σ)(hlen:its.length<2^40)(hid:∀ x∈its,-9223372036854775808≤x.id∧x.id≤9223372036854775807)(Az:∀ x∈its,1≤x.kind∧x.kind≤5):
  ∀ (rest pre:List It) (b:List UInt8) (g:Nat),its=pre++rest→b.length+4*aM rest+40*rest.length<2^42 →
  (∀ g,(∀ j0 j1 j2 j3 j4 j6 j7 j8 j9 cT cS cX cR cN cM cL cW df dn dx dy dD dI dH dG dX ez eA eH eW fg fi ft fw fG fM fL fK fX gi gF gR gQ il ix iV iU iT iS iR jo jn jm jK jY kx ku kt kH lB l9 mD nr nH nG nF pw pt pq po pn pk qD tH,K (.exit 0) ⟨[j0,j1,j2,j3,j4,.own σ.length g,j6,j7,j8,j9,cT,cS,cX,cR,cN,cM,cL,cW,df,dn,dx,dy,dD,dI,dH,dG,dX,ez,eA,eH,eW,fg,fi,ft,fw,fG,fM,fL,fK,fX,gi,gF,gR,gQ,il,ix,iV,iU,iT,iS,iR,jo,jn,jm,jK,jY,kx,ku,kt,kH,lB,l9,mD,nr,nH,nG,nF,pw,pt,pq,po,pn,pk,qD,tH],σ++[.row 5 1 1 g false (al (b++rest.flatMap cj))]⟩)) →
  fO σ.length prog C3 K (rest.length+1) ⟨[u,u,u,u,u,.own σ.length g,u,u,u,u,u,u,u,u,.sl 3 (its.map It.cells),.i .i64 its.length,.i .i64 pre.length,u,u,u,u,u,u,u,u,u,u,u,u,u,u,u,u,u,u,u,u,u,u,u,u,u,u,u,u,u,u,u,u,u,u,u,u,u,u,u,u,u,u,u,u,u,u,u,u,u,u,u,u,u,u,u,u,u,u],σ++[.row 5 1 1 g false (al b)]⟩:=by
 intro rest
 induction rest with
 | nil =>
  intro pre b g he hb h1;have he:its=pre:=by simpa using he
  subst he;refine ax fun R hR=>?_;simp only[C3,W,seval];simp only[jH,bf]at h1;exact⟨fun h=>by simp at h,fun _=>h1 g ..⟩
 | cons x rest ih =>
  intro pre b g he hb h1;subst he
  have hw:IntKind.i64.wrap ((pre.length:Int)+1)=(((pre++[x]).length:Nat):Int):=by
   rw[aV (by simp at hlen;omega)];simp
  have Tm:pre++x::rest=(pre++[x])++rest:=by simp
  simp only[aM,ab]at hb;have hx:=hid x (by simp);have hk:=Az x (by simp);have qB:=Lib.itoa_length_le x.id hx.1 hx.2
  have next:∀ (t:List UInt8) (g':Nat) {o:Ob},cj x=t→t.length≤4*x.text.length+30→∀ {R:St→Prop} {fr:List V},(∀ st',fO σ.length prog C3 K (rest.length+1) st'→R st') →
    pH fr [u,u,u,u,u,.own σ.length g',u,u,u,u,u,u,u,u,.sl 3 ((pre++x::rest).map It.cells),.i .i64 (pre++x::rest).length,.i .i64 (pre++[x]).length,u,u,u,u,u,u,u,u,u,u,u,u,u,u,u,u,u,u,u,u,u,u,u,u,u,u,u,u,u,u,u,u,u,u,u,u,u,u,u,u,u,u,u,u,u,u,u,u,u,u,u,u,u,u,u,u,u,u]→R ⟨fr,σ++[.row 5 1 1 g' false (al (b++t)),o]⟩:=by
   intro t g' o ht hl R fr hR hc;have e1:b++(x::rest).flatMap cj=(b++t)++rest.flatMap cj:=by simp[ht]
   rw[e1]at h1;refine hR _ (cH [_] [_] (bU aQ (by simp)) hc ?_ (ih (pre++[x]) (b++t) g' Tm (by simp;omega) h1));simp only[LW,ab,ah,aK];omega
  have okA:∀ n:Nat,n≤x.text.length+30→((al b).length+n)*1≤2^47∧(al b).length+n≤maxLen:=fun n hn=>by simp only[aL,maxLen];omega
  have small:∀ n:Nat,n≤x.text.length+30→n≤maxLen:=fun n hn=>by simp only[maxLen];omega
  refine ax fun R hR=>?_;simp only[C3,It.cells,VV,seval];refine⟨fun _=>⟨by simp;omega,?_⟩,fun h=>by simp at h<;>omega⟩;refine ai (Wg x.id hx.1 hx.2 _) rfl ?_;rcases(by omega:x.kind=1∨x.kind=2∨x.kind=3∨x.kind=4∨x.kind=5)with h | h | h | h | h
  ·simp only[h,VV,seval];refine ai (Fl b x.text g (by omega) σ [_]) rfl ?_;simp only[VV,seval];refine next (x.text.flatMap eB) (g+x.text.length) (by simp only[cj,h,if_true]) (by have:=Gc x.text;omega) hR ?_
   rw[hw];repeat' constructor
  ·simp only[h,VV,seval];refine⟨small _ (by omega),small _ (by omega),small _ (by simp;omega),small _ (by simp;omega),okA _ (by simp only[aL,ab,List.length_append,ah];omega),?_⟩;rw[dO];refine next (60::(Lib.itoa x.id++58::(x.text++[62]))) (g+1) (by simp[cj,h]) (by simp;omega) hR ?_
   rw[hw];repeat' constructor
  ·simp only[h,VV,seval];refine⟨small _ (by omega),small _ (by simp;omega),small _ (by simp;omega),small _ (by simp;omega),okA _ (by simp only[aL,ab,List.length_append,ah];omega),?_⟩;rw[dO];refine next (60::47::(Lib.itoa x.id++58::(x.text++[62]))) (g+1) (by simp[cj,h]) (by simp;omega) hR ?_
   rw[hw];repeat' constructor
  ·simp only[h,VV,seval];refine⟨small _ (by omega),small _ (by omega),small _ (by simp;omega),small _ (by simp;omega),okA _ (by simp only[aL,ab,List.length_append,ah];omega),?_⟩;rw[dO];refine next (60::(Lib.itoa x.id++58::(x.text++[47,62]))) (g+1) (by simp[cj,h]) (by simp;omega) hR ?_
   rw[hw];repeat' constructor
  ·simp only[h,VV,seval];refine⟨small _ (by omega),small _ (by first | omega | (simp;omega)),okA _ (by simp only[aL,ab,List.length_append,ah];omega),?_⟩;rw[dO];refine next (123::(x.text++[125])) (g+1) (by simp[cj,h]) (by simp;omega) hR ?_
   rw[hw];repeat' constructor
theorem AE(its:List It)(hlen:its.length<2^30)(ht:aM its<2^30)(hid:∀ x∈its,-9223372036854775808≤x.id∧x.id≤9223372036854775807)(σ:ag):PC prog 148 [.sl 3 (its.map It.cells)] σ (fun r σ'=>r=.iK [.s (format its).1,.i .i64 (format its).2]∧σ'=σ):=by
 refine PC.intro func148 akg fun aQ cz=>aj ?_;simp only[adr,SS,seval];simp only[VV,seval];refine ai (oX its _) rfl ?_;simp only[List.length_map,VV,seval];refine⟨fun h=>?_,fun h=>?_⟩
 ·have h:bO its≠0:=by simpa using h
  exact aO (.inr rfl) rfl ⟨by simp only[format,h,if_true,ne_eq,not_false_eq_true];rfl,rfl⟩
 ·have h:bO its=0:=by simpa using h
  have e:format its=(its.flatMap cj,0):=by simp only[format,h,ne_eq,not_true,if_false]
  rw[e];refine bA.wk ((Wk.gZ (k:=5) Rt rfl).trans (Wk.ej ?_)) (bA.pd (its.length+1) (VT its aQ (by omega) hid (tp h) its [] [] 0 rfl (by simp only[ah];omega) ?_))
  ·simp only[W,seval]
   repeat' constructor
  ·intro g;intros;simp only[gK,ak,W,seval];exact aG aQ (.inr rfl) rfl (by simp only[LW]) ⟨rfl,rfl⟩
theorem kF(e:En)(hs:e.small)(σ:ag):PC prog 58 [.agg e.cells] σ (fun r σ'=>r=.i .i64 (cy e)∧σ'=σ):=by
 refine PC.intro func58 c58 fun aQ cz=>aj ?_;simp only[p58,SS,seval];simp only[En.cells,VV,seval];refine ai (oX e.source _) rfl ?_;simp only[VV,seval];refine⟨fun h=>?_,fun h=>?_⟩
 ·have h:bO e.source≠0:=by simpa using h
  exact aG aQ (.inr rfl) rfl (by simp only[LW]) ⟨by simp only[cy,h,if_true,ne_eq,not_false_eq_true];rfl,rfl⟩
 have h1:bO e.source=0:=by simpa using h
 refine ai (oX e.target _) rfl ?_;simp only[VV,seval];refine⟨fun h=>?_,fun h=>?_⟩
 ·have h:bO e.target≠0:=by simpa using h
  refine aG aQ (.inr rfl) rfl (by simp only[LW]) ⟨?_,rfl⟩;simp only[cy,h1,h,if_true,ne_eq,not_false_eq_true,not_true,if_false];rfl
 have h2:bO e.target=0:=by simpa using h
 refine ai (II e.source e.target (by have:=hs.source;omega) (by have:=hs.target;omega) (by have:=hs.gY;omega) (by have:=hs.o8;omega) _) rfl ?_;simp only[List.length_map,VV,seval];refine bg (by simp only[VV,seval]<;>rfl) (fun _=>Bi (fZ e.source e.target) e.source _) rfl ?_;simp only[VV,seval];refine bg (by simp only[VV,seval]<;>rfl) (fun _=>Bi (gT e.source e.target) e.target _) rfl ?_;simp only[VV,seval]
 have Ts:mA e=!((((e.source.length:Int)==0)||!gq (fZ e.source e.target) e.source)||!gq (gT e.source e.target) e.target):=by
  have:((e.source.length:Int)==0)=(e.source.length==0):=by rw[du];simp
  simp only[mA,this];cases(e.source.length==0)<;>cases gq (fZ e.source e.target) e.source<;>cases gq (gT e.source e.target) e.target<;>rfl
 refine⟨fun h=>?_,fun h=>?_⟩
 ·rw[h]at Ts;refine aG aQ (.inr rfl) rfl (by simp only[LW]) ⟨?_,rfl⟩;simp only[cy,h1,h2,Ts,ne_eq,not_true,if_false];rfl
 rw[h]at Ts
 have e1:cy e=if(parse e.bS).2.2≠0 then(parse e.bS).2.2 else if(parse e.next).2.2≠0 then(parse e.next).2.2 else
   if(named e.cQ&&named e.cn)=false then 4 else if e.created<0∨1073741824<e.created∨e.origin<1∨3<e.origin then 1 else 0:=by
  simp only[cy,h1,h2,Ts,ne_eq,not_true,if_false];rfl
 refine ai (nX e.bS (by have:=hs.bS;omega) _) rfl ?_;simp only[VV,seval];refine⟨fun h=>?_,fun h=>?_⟩
 ·have h:(parse e.bS).2.2≠0:=by simpa using h
  rw[e1,if_pos h];exact aG aQ (.inr rfl) rfl (by simp only[LW]) ⟨rfl,rfl⟩
 have h3:¬ (parse e.bS).2.2≠0:=by simpa using h
 refine ai (nX e.next (by have:=hs.next;omega) _) rfl ?_;simp only[VV,seval];refine⟨fun h=>?_,fun h=>?_⟩
 ·have h:(parse e.next).2.2≠0:=by simpa using h
  rw[e1,if_neg h3,if_pos h];exact aG aQ (.inr rfl) rfl (by simp only[LW]) ⟨rfl,rfl⟩
 have h4:¬ (parse e.next).2.2≠0:=by simpa using h
 rw[if_neg h3,if_neg h4]at e1;refine bg (by simp only[VV,seval]<;>rfl) (fun _=>oa e.cQ _) rfl ?_;simp only[VV,seval];refine bg (by simp only[VV,seval]<;>rfl) (fun _=>oa e.cn _) rfl ?_;simp only[VV,seval]
 have ZR:((!e.cQ==[]&&!isName e.cQ)||(!e.cn==[]&&!isName e.cn))=!(named e.cQ&&named e.cn):=by
  simp only[named];cases e.cQ==[]<;>cases e.cn==[]<;>cases isName e.cQ<;>cases isName e.cn<;>rfl
 rw[ZR];refine⟨fun h=>?_,fun h=>⟨fun h5=>?_,fun h5=>?_⟩⟩
 ·have h:(named e.cQ&&named e.cn)=false:=by rw[cm]at h;exact h
  rw[e1,if_pos h];exact aG aQ (.inr rfl) rfl (by simp only[LW]) ⟨rfl,rfl⟩
 ·have h:¬ (named e.cQ&&named e.cn)=false:=by rw[dC]at h;rw[h];simp
  have h5:e.created<0∨1073741824<e.created∨e.origin<1∨3<e.origin:=by
   simp at h5;omega
  rw[e1,if_neg h,if_pos h5];exact aG aQ (.inr rfl) rfl (by simp only[LW]) ⟨rfl,rfl⟩
 ·have h:¬ (named e.cQ&&named e.cn)=false:=by rw[dC]at h;rw[h];simp
  have h5:¬ (e.created<0∨1073741824<e.created∨e.origin<1∨3<e.origin):=by
   simp at h5;omega
  rw[e1,if_neg h,if_neg h5];exact aG aQ (.inr rfl) rfl (by simp only[LW]) ⟨rfl,rfl⟩
theorem Di(e:En)(hs:e.small)(σ:ag):PC prog 136 [.agg e.cells] σ (fun r σ'=>r=.s (cf e)∧σ'=σ):=by
 refine PC.intro func136 akq fun aQ cz=>aj ?_;simp only[adB,SS,seval];simp only[En.cells,VV,seval];refine ai (AE e.source hs.source hs.gY (fun x hx=>hs.ids x (by simp[hx])) _) rfl ?_;simp only[VV,seval];have hf:=mG e.source hs.source hs.gY (fun x hx=>hs.ids x (by simp[hx]));have h1:=hs.bS;have h2:=hs.next;refine⟨by simp[maxLen];omega,by simp[maxLen];omega,by simp[maxLen];omega,by simp[maxLen];omega,?_⟩;refine aG aQ (.inr rfl) rfl (by simp only[LW]) ⟨?_,rfl⟩;simp[Pm.one,cf]
theorem FP(e:En)(hs:e.small)(σ:ag):PC prog 83 [.agg e.cells] σ (fun r σ'=>r=.s (dL e)∧σ'=σ):=by
 refine PC.intro func83 c83 fun aQ cz=>aj ?_;simp only[p83,SS,seval];simp only[En.cells,VV,seval];refine ai (kF e hs _) rfl ?_;simp only[VV,seval];refine⟨fun h=>?_,fun h=>?_⟩
 ·have h:cy e≠0:=by simpa using h
  exact aG aQ (.inr rfl) rfl (by simp only[LW]) ⟨by simp only[dL,h,if_true,ne_eq,not_false_eq_true];rfl,rfl⟩
 ·have h:¬ cy e≠0:=by simpa using h
  refine ai (Di e hs _) rfl ?_;simp only[VV,seval];exact aG aQ (.inr rfl) rfl (by simp only[LW]) ⟨by simp only[dL,if_neg h];rfl,rfl⟩
theorem Bc(o:aJ)(σ:ag):PC prog 111 [.agg o.cells] σ (fun r σ'=>r=.agg (looked o).cells∧σ'=σ):=by
 refine PC.intro func111 akI fun aQ cz=>aj ?_;simp only[adW,SS,seval];simp only[aJ.cells,bc.cells,En.cells,VV,seval];refine⟨fun h=>?_,fun h=>?_⟩
 ·have h:o.kind≠2:=by simpa using h
  refine aG aQ (.inr rfl) (by simp only[RS,seval];rfl) (by simp only[LW]) ⟨?_,rfl⟩;simp only[looked,if_pos h];rfl
 ·have h:¬ o.kind≠2:=by simpa using h
  refine aG aQ (.inr rfl) (by simp only[RS,seval];rfl) (by simp only[LW]) ⟨?_,rfl⟩;simp only[looked,if_neg h];rfl
theorem PM(e:En)(σ:ag):PC prog 110 [.agg e.cells] σ (fun r σ'=>r=.b (lT e)∧σ'=σ):=by
 refine PC.intro func110 Fj fun aQ cz=>aj ?_;simp only[adX,SS,seval];simp only[En.cells,List.length_map,VV,seval];have h1:((e.target.length:Int)==0)=(e.target.length==0):=by rw[du];simp
 have e1:lT e=((e.target.length==0)&&(e.cQ==[]&&(e.cn==[]&&(e.created==0&&e.origin==0)))):=rfl;rw[h1,e1];cases e.target.length==0<;>simp only[VV,seval]
 ·exact aG aQ (.inr rfl) (by simp only[RS,seval];rfl) (by simp only[LW]) ⟨rfl,rfl⟩
 cases e.cQ==[]<;>simp only[VV,seval]
 ·exact aG aQ (.inr rfl) (by simp only[RS,seval];rfl) (by simp only[LW]) ⟨rfl,rfl⟩
 cases e.cn==[]<;>simp only[VV,seval]
 ·exact aG aQ (.inr rfl) (by simp only[RS,seval];rfl) (by simp only[LW]) ⟨rfl,rfl⟩
 cases e.created==0<;>simp only[VV,seval]
 ·exact aG aQ (.inr rfl) (by simp only[RS,seval];rfl) (by simp only[LW]) ⟨rfl,rfl⟩
 exact aG aQ (.inr rfl) (by simp only[RS,seval];rfl) (by simp only[LW]) ⟨rfl,rfl⟩
theorem Zj{n:Nat}{σ:ag}{K:Exit→St→Prop}(q:V)(l:List Int)(hlen:l.length<2^63):∀ (rest pre:List Int),l=pre++rest →
  (rest.any (fun n=>decide (128<n))=false→(∀ j0 j2 j3 j4 j5 j6 j7 j8 j9 cT cS cX cR cN cM cL cW df dn dx dy dD dI dH dG dX ez eA eH eW fg fi ft fw fG fM fL fK fX gi gF gR gQ il ix iV iU iT iS iR jo jn jm jK jY kx ku kt kH lB l9,K (.exit 0) ⟨[j0,q,j2,j3,j4,j5,j6,j7,j8,j9,cT,cS,cX,cR,cN,cM,cL,cW,df,dn,dx,dy,dD,dI,dH,dG,dX,ez,eA,eH,eW,fg,fi,ft,fw,fG,fM,fL,fK,fX,gi,gF,gR,gQ,il,ix,iV,iU,iT,iS,iR,jo,jn,jm,jK,jY,kx,ku,kt,kH,lB,l9],σ⟩))→(rest.any (fun n=>decide (128<n))=true→(∀ j0 j3 j4 j5 j6 j7 j8 j9 cT cS cX cR cN cM cL cW df dn dx dy dD dI dH dG dX ez eA eH eW fg fi ft fw fG fM fL fK fX gi gF gR gQ il ix iV iU iT iS iR jo jn jm jK jY kx ku kt kH lB l9,K .ret ⟨[j0,q,.i .i64 1,j3,j4,j5,j6,j7,j8,j9,cT,cS,cX,cR,cN,cM,cL,cW,df,dn,dx,dy,dD,dI,dH,dG,dX,ez,eA,eH,eW,fg,fi,ft,fw,fG,fM,fL,fK,fX,gi,gF,gR,gQ,il,ix,iV,iU,iT,iS,iR,jo,jn,jm,jK,jY,kx,ku,kt,kH,lB,l9],σ⟩)) →
  fO n prog NV K (rest.length+1) ⟨[u,q,u,u,u,u,u,u,u,u,u,u,u,u,u,u,u,u,u,u,u,u,u,u,u,u,u,u,u,u,.sl 1 (l.map bj),.i .i64 l.length,.i .i64 pre.length,u,u,u,u,u,u,u,u,u,u,u,u,u,u,u,u,u,u,u,u,u,u,u,u,u,u,u,u,u],σ⟩:=by
 intro rest
 induction rest with
 | nil =>
  intro pre he h1 h2;have he:l=pre:=by simpa using he
  subst he;refine ax fun R hR=>?_;simp only[NV,VV,seval];exact⟨fun h=>by simp at h,fun _=>h1 rfl ..⟩
 | cons c rest ih =>
  intro pre he h1 h2;subst he;refine ax fun R hR=>?_;simp only[NV,bj,VV,seval];refine⟨fun _=>⟨by simp;omega,fun h=>?_,fun h=>?_⟩,fun h=>by simp at h<;>omega⟩
  ·have h:128<c:=by simpa using h
   exact h2 (by simp[h]) ..
  ·have h:¬ 128<c:=by simpa using h
   have e:(c::rest).any (fun n=>decide (128<n))=rest.any (fun n=>decide (128<n)):=by simp[h]
   rw[e]at h1 h2;refine hR _ (aW ?_ (ih (pre++[c]) (by simp) h1 h2));rw[aV (by simp at hlen;omega)];simp only[List.length_append,ab,ah]
   repeat' constructor
theorem kj(o:aJ)(hs:o.small)(σ:ag):PC prog 60 [.agg o.cells] σ (fun r σ'=>r=.i .i64 (cw o)∧σ'=σ):=by
 refine PC.intro func60 wm fun aQ cz=>aj ?_;have IN:=hs.seen;simp only[p60,SS,seval];simp only[aJ.cells,bc.cells,En.cells,VV,seval];refine ai (zY o.aA _) rfl ?_;simp only[VV,seval];refine⟨fun h=>?_,fun h=>?_⟩
 ·have h:gf o.aA=false:=by
   cases hk:gf o.aA with
   | false=>rfl
   | true=>rw[hk]at h;simp at h
  refine aG aQ (.inr rfl) (by simp only[RS,seval];rfl) (by simp only[LW]) ⟨?_,rfl⟩;simp only[cw,h,if_true];rfl
 have h0:¬ gf o.aA=false:=by
  intro hk;rw[hk]at h;simp at h
 have e0:cw o=if(o.kind≠1∧o.kind≠2)∨eJ o.seen≠o.seen then 1 else
   if o.seen.any (fun n=>decide (128<n))then 1 else
   if je o.seen o.aA.aS≠o.aA.number - 1 then 11 else
   if o.kind=2∧lT o.entry=false then 1 else cy (looked o):=by simp only[cw,if_neg h0]
 have S9:1≤o.aA.number∧o.aA.number≤128:=by
  have:gf o.aA=true:=by simpa using h0
  simp only[gf,decide_eq_true_eq]at this;omega
 rw[e0]
 have X4:(bif (o.kind != 1)then(o.kind != 2)else false)=decide (o.kind≠1∧o.kind≠2):=by
  rw[du];by_cases h1:o.kind=1<;>by_cases h2:o.kind=2<;>simp[h1,h2]
 refine bg (by simp only[VV,seval]<;>rfl) (fun _=>I6 o.seen _) rfl ?_;simp only[VV,seval];refine bg (by simp only[VV,seval]<;>rfl) (fun _=>Iy (nc o.seen []) o.seen _) rfl ?_;simp only[VV,seval];have ZU:o.seen.length<2^63:=by omega
 refine⟨fun h=>?_,fun h=>bA.aW ?_ (o.seen.length+1) (Zj (.ptr σ.length 0) o.seen ZU o.seen [] rfl (fun ha=>?_) (fun ha=>?_))⟩
 ·have h:(o.kind≠1∧o.kind≠2)∨eJ o.seen≠o.seen:=by
   simpa[eJ]using h
  refine aG aQ (.inr rfl) (by simp only[RS,seval];rfl) (by simp only[LW]) ⟨?_,rfl⟩;rw[if_pos h];rfl
 ·simp only[List.length_map,ah,seval]
  repeat' constructor
 ·have h:¬ ((o.kind≠1∧o.kind≠2)∨eJ o.seen≠o.seen):=by
   intro h2;have:(o.kind != 1&&o.kind != 2||!nc o.seen []==o.seen)=true:=by simpa[eJ]using h2
   rw[h]at this;simp at this
  rw[if_neg h,if_neg (show ¬ (o.seen.any fun n=>decide (128<n))=true by rw[ha];simp)];intros;simp only[VV,seval];refine ai (iY o.seen o.aA.aS _) rfl ?_;simp only[VV,seval];have hw:IntKind.i64.wrap (o.aA.number - 1)=o.aA.number - 1:=IntWalk.i64_in _ (by omega);rw[hw];refine⟨fun h=>?_,fun h=>?_⟩
  ·have h:je o.seen o.aA.aS≠o.aA.number - 1:=by simpa using h
   refine aG aQ (.inr rfl) (by simp only[RS,seval];rfl) (by simp only[LW]) ⟨?_,rfl⟩;rw[if_pos h];rfl
  have h:¬ je o.seen o.aA.aS≠o.aA.number - 1:=by simpa using h
  rw[if_neg h];refine bg (by simp only[VV,seval]<;>rfl) (fun _=>PM o.entry _) rfl ?_;simp only[VV,seval];refine⟨fun h=>?_,fun h=>?_⟩
  ·have h:o.kind=2∧lT o.entry=false:=by simpa using h
   refine aG aQ (.inr rfl) (by simp only[RS,seval];rfl) (by simp only[LW]) ⟨?_,rfl⟩;rw[if_pos h];rfl
  have h:¬ (o.kind=2∧lT o.entry=false):=by simpa using h
  rw[if_neg h];refine ai (Bc o _) rfl ?_;simp only[VV,seval];refine ai (kF (looked o) (sB hs) _) rfl ?_;simp only[VV,seval];exact aG aQ (.inr rfl) (by simp only[RS,seval];rfl) (by simp only[LW]) ⟨rfl,rfl⟩
 ·have h:¬ ((o.kind≠1∧o.kind≠2)∨eJ o.seen≠o.seen):=by
   intro h2;have:(o.kind != 1&&o.kind != 2||!nc o.seen []==o.seen)=true:=by simpa[eJ]using h2
   rw[h]at this;simp at this
  rw[if_neg h,if_pos ha];intros;simp only[VV,seval];exact aG aQ (.inr rfl) (by simp only[RS,seval];rfl) (by simp only[LW]) ⟨rfl,rfl⟩
theorem Sh(o:aJ)(hs:o.small)(σ:ag):PC prog 219 [.agg o.cells] σ (fun r σ'=>r=.s (bE o)∧σ'=σ):=by
 refine PC.intro func219 ajw fun aQ cz=>aj ?_;simp only[acH,SS,seval];simp only[aJ.cells,bc.cells,En.cells,VV,seval];refine ai (kj o hs _) rfl ?_;simp only[VV,seval];refine⟨fun h=>?_,fun h=>?_⟩
 ·have h:cw o≠0:=by simpa using h
  exact aG aQ (.inr rfl) (by simp only[RS,seval];rfl) (by simp only[LW]) ⟨by simp only[bE,h,if_true,ne_eq,not_false_eq_true];rfl,rfl⟩
 ·have h:¬ cw o≠0:=by simpa using h
  refine ai (Bc o _) rfl ?_;simp only[VV,seval];refine ai (FP (looked o) (sB hs) _) rfl ?_;simp only[VV,seval];exact aG aQ (.inr rfl) (by simp only[RS,seval];rfl) (by simp only[LW]) ⟨by simp only[bE,if_neg h];rfl,rfl⟩
theorem abz(n:Int):n.fdiv (2^min 8 IntKind.i64.bits)=n / 256:=by
 have:(2:Int)^min 8 IntKind.i64.bits=256:=by decide
 rw[this,fm _ (by decide)]
theorem XH(n:Int):n.fdiv (2^min 16 IntKind.i64.bits)=n / 65536:=by
 have:(2:Int)^min 16 IntKind.i64.bits=65536:=by decide
 rw[this,fm _ (by decide)]
theorem Fw(n:Int):IntKind.u8.wrap n=((ij n).toNat:Int):=by
 have h1:IntKind.u8.wrap n=n % 256:=by
  simp[IntKind.wrap,IntKind.bits,IntKind.signed]
 rw[h1];have h2:0≤n % 256:=XE _ (by decide);have h3:n % 256<256:=Nr _ (by decide);simp only[ij,mJ];omega
theorem XJ(b:List UInt8)(n:Int):al b++[[V.i .u8 (ij (n / 256)).toNat],[V.i .u8 (ij n).toNat]]=al (b++qu n):=by
 simp[al,qu]
theorem Cl(b:List UInt8)(n:Int)(g:Nat)(hlen:b.length<2^46)(σ ext:ag):PC prog 147 [.own σ.length g,.i .i64 n] (σ++(.row 5 1 1 g false (al b)::ext))
  (fun r σ'=>r=.own σ.length (g+1)∧σ'=σ++(.row 5 1 1 (g+1) false (al (b++qu n))::ext)):=by
 refine PC.intro func147 afo fun aQ cz=>aj ?_;simp only[YN,SS,seval];simp only[abz,Fw,aL,XJ,maxLen,VV,Nat.reduceAdd,Int.reduceToNat,reduceIte];refine⟨by omega,by omega,?_⟩;exact ed (.inr rfl) rfl (Wk.refl _ _) rfl ⟨rfl,rfl⟩
theorem OW(b:List UInt8)(n:Int)(hlen:b.length<2^46)(σ:ag):PC prog 147 [.lit 1 (al b),.i .i64 n] σ
  (fun r σ'=>r=.own σ.length 0∧σ'=σ++[.row 5 1 1 0 false (al (b++qu n))]):=by
 refine PC.intro func147 afo fun aQ cz=>aj ?_;simp only[YN,SS,seval];simp only[abz,Fw,aL,XJ,maxLen,rv,aD,VV,Nat.reduceAdd,Int.reduceToNat,reduceIte];refine⟨by omega,by omega,?_⟩;exact ed (.inr rfl) rfl (Wk.refl _ _) rfl ⟨rfl,rfl⟩
theorem OF(b:List UInt8)(n:Int)(g:Nat)(hlen:b.length<2^45)(σ ext:ag):PC prog 146 [.own σ.length g,.i .i64 n] (σ++(.row 5 1 1 g false (al b)::ext))
  (fun r σ'=>r=.own σ.length (g+2)∧σ'=σ++(.row 5 1 1 (g+2) false (al (b++BA n))::ext)):=by
 refine PC.intro func146 afp fun aQ cz=>aj ?_;simp only[YO,SS,seval];simp only[XH,VV,Int.reduceToNat];refine⟨by decide,?_⟩;refine ai (Cl b (n / 65536) g (by omega) σ ext) rfl ?_;simp only[VV,seval];refine ai (Cl (b++qu (n / 65536)) n (g+1) (by simp[qu];omega) σ ext) rfl ?_;simp only[VV,seval];refine ed (.inr rfl) rfl (Wk.refl _ _) rfl ⟨rfl,?_⟩;simp only[BA]
theorem MQ(b:List UInt8)(n:Int)(hlen:b.length<2^45)(σ:ag):PC prog 146 [.lit 1 (al b),.i .i64 n] σ
  (fun r σ'=>r=.own σ.length 1∧σ'=σ++[.row 5 1 1 1 false (al (b++BA n))]):=by
 refine PC.intro func146 afp fun aQ cz=>aj ?_;simp only[YO,SS,seval];simp only[XH,VV,Int.reduceToNat];refine⟨by decide,?_⟩;refine ai (OW b (n / 65536) (by omega) σ) rfl ?_;simp only[VV,seval];refine ai (Cl (b++qu (n / 65536)) n 0 (by simp[qu];omega) σ []) rfl ?_;simp only[VV,seval];refine ed (.inr rfl) rfl (Wk.refl _ _) rfl ⟨rfl,?_⟩;simp only[BA]
def nD(s:List UInt8):List V:=[.s s]
theorem VS{n:Nat}{σ ext:ag}{K:Exit→St→Prop}(l:List (List UInt8))(hlen:l.length<2^63)(AA:∀ s∈l,s.length<2^40):∀ (rest pre:List (List UInt8)) (b:List UInt8) (g:Nat),l=pre++rest →
  b.length+rest.length*2^41<2^45 →
  (∀ j1 j2 j3 j4 j5 j6 j7 j8 j9 cT cS cX cR cN cM cL cW df dn dx,K (.exit 0) ⟨[.own σ.length (g+3*rest.length),j1,j2,j3,j4,j5,j6,j7,j8,j9,cT,cS,cX,cR,cN,cM,cL,cW,df,dn,dx],σ++(.row 5 1 1 (g+3*rest.length) false (al (b++rest.flatMap de))::ext)⟩) →
  fO n prog Hs K (rest.length+1) ⟨[.own σ.length g,u,u,u,u,u,u,.sl 1 (l.map nD),.i .i64 l.length,.i .i64 pre.length,u,u,u,u,u,u,u,u,u,u,u],σ++(.row 5 1 1 g false (al b)::ext)⟩:=by
 intro rest
 induction rest with
 | nil =>
  intro pre b g he hb h1;have he:l=pre:=by simpa using he
  subst he;refine ax fun R hR=>?_;simp only[Hs,VV,seval];simp only[ah,Nat.mul_zero,bC,jH,bf]at h1;exact⟨fun h=>by simp at h,fun _=>h1 ..⟩
 | cons c rest ih =>
  intro pre b g he hb h1;subst he;have hc:=AA c (by simp);simp only[ab]at hb h1;refine ax fun R hR=>?_;simp only[Hs,nD,VV,seval];refine⟨fun _=>⟨by simp;omega,?_⟩,fun h=>by simp at h<;>omega⟩;refine ai (OF b c.length g (by omega) σ ext) rfl ?_;simp only[aL,maxLen,VV,seval];refine⟨by simp[dF];omega,?_⟩;have e0:b++BA c.length++c=b++de c:=by simp[de]
  rw[dO,e0];refine hR _ (aW ?_ (ih (pre++[c]) (b++de c) (g+3) (by simp) (by simp[de,dF];omega) ?_))
  ·rw[aV (by simp at hlen;omega)];simp only[List.length_append,ab,ah]
   repeat' constructor
  ·have e1:g+3+3*rest.length=g+3*(rest.length+1):=by omega
   have e2:b++de c++rest.flatMap de=b++(c::rest).flatMap de:=by simp
   rw[e1,e2];exact h1
theorem PK(b:List UInt8)(l:List (List UInt8))(g:Nat)(hl:l.length≤3)(AA:∀ s∈l,s.length<2^40)(hlen:b.length<2^44)(σ ext:ag):PC prog 149 [.own σ.length g,.sl 1 (l.map nD)] (σ++(.row 5 1 1 g false (al b)::ext))
  (fun r σ'=>r=.own σ.length (g+3*l.length)∧σ'=σ++(.row 5 1 1 (g+3*l.length) false (al (b++l.flatMap de))::ext)):=by
 refine PC.intro func149 akf fun aQ cz=>aj ?_;simp only[adq,SS,seval];simp only[List.length_map,VV,seval];refine bA.aW ?_ (l.length+1) (VS l (by omega) AA l [] b g rfl (by omega) ?_)
 ·repeat' constructor
 ·intros;simp only[VV,seval];exact ed (.inr rfl) rfl (Wk.refl _ _) rfl ⟨rfl,rfl⟩
theorem RQ(b:List UInt8)(n:Int):al b++[[V.i .u8 (ij n).toNat]]=al (b++[ij n]):=by
 simp[al]
theorem Vi{o:aJ}(h:cw o=0):o.seen.length≤8:=by
 have hs:eJ o.seen=o.seen:=by
  simp only[cw]at h;split at h
  ·simp at h
  ·split at h
   ·simp at h
   ·rename_i h2
    by_cases hs:eJ o.seen=o.seen
    ·exact hs
    ·exact absurd (.inr hs) h2
 have h0:eJ o.seen=(jh o.seen [] 8).take (fq o.seen [] 8):=rfl;rw[← hs,h0];simp[lr];omega
theorem vx(l:List Int):(l.map fun _=>2).sum=2*l.length:=by
 induction l with
 | nil=>rfl
 | cons x l ih=>simp only[ay,List.sum_cons,ih,ab];omega
theorem fY(s:List UInt8):(de s).length=s.length+4:=by simp[de,dF];omega
theorem agc(b:List UInt8)(n:Int)(g:Nat)(hlen:b.length<2^46)(σ:ag)(o1:Ob)(ext:ag):PC prog 147 [.own (σ.length+1) g,.i .i64 n] (σ++(o1::.row 5 1 1 g false (al b)::ext))
  (fun r σ'=>r=.own (σ.length+1) (g+1)∧σ'=σ++(o1::.row 5 1 1 (g+1) false (al (b++qu n))::ext)):=by
 have:=Cl b n g hlen (σ++[o1]) ext;simpa only[List.length_append,ab,ah,aK,List.append_assoc,aq,ak]using this
theorem afi(b:List UInt8)(n:Int)(g:Nat)(hlen:b.length<2^45)(σ:ag)(o1:Ob)(ext:ag):PC prog 146 [.own (σ.length+1) g,.i .i64 n] (σ++(o1::.row 5 1 1 g false (al b)::ext))
  (fun r σ'=>r=.own (σ.length+1) (g+2)∧σ'=σ++(o1::.row 5 1 1 (g+2) false (al (b++BA n))::ext)):=by
 have:=OF b n g hlen (σ++[o1]) ext;simpa only[List.length_append,ab,ah,aK,List.append_assoc,aq,ak]using this
theorem N7(b:List UInt8)(l:List (List UInt8))(g:Nat)(hl:l.length≤3)(AA:∀ s∈l,s.length<2^40)(hlen:b.length<2^44)(σ:ag)(o1:Ob)(ext:ag):PC prog 149 [.own (σ.length+1) g,.sl 1 (l.map nD)] (σ++(o1::.row 5 1 1 g false (al b)::ext))
  (fun r σ'=>r=.own (σ.length+1) (g+3*l.length)∧σ'=σ++(o1::.row 5 1 1 (g+3*l.length) false (al (b++l.flatMap de))::ext)):=by
 have:=PK b l g hl AA hlen (σ++[o1]) ext;simpa only[List.length_append,ab,ah,aK,List.append_assoc,aq,ak]using this
theorem Y4{n:Nat}{σ:ag}{o1:Ob}{K:Exit→St→Prop}(q:V)(l:List Int)(hlen:l.length<2^30):∀ (rest pre:List Int) (b:List UInt8) (g:Nat),l=pre++rest →
  b.length+2*rest.length<2^45 →
  (∀ j0 j2 j4 j6 j7 j8 j9 cT cS cX cR cN cM cL cW df dn dx dy dD dI dH dG dX ez eA eH eW fg fi ft fw fG fM fL fK fX gi gF gR gQ il ix iV iU iT iS iR jo jn jm jK jY kx ku kt kH lB l9 mD nr nH nG nF pw pt pq po pn pk qD tH uT uS uR uQ uP uO uN uM uL uK uJ xu xt xr xq xp xo xn xl xk xj xi xh xg,K (.exit 0) ⟨[j0,q,j2,.i .i64 0,j4,.own (σ.length+1) (g+rest.length),j6,j7,j8,j9,cT,cS,cX,cR,cN,cM,cL,cW,df,dn,dx,dy,dD,dI,dH,dG,dX,ez,eA,eH,eW,fg,fi,ft,fw,fG,fM,fL,fK,fX,gi,gF,gR,gQ,il,ix,iV,iU,iT,iS,iR,jo,jn,jm,jK,jY,kx,ku,kt,kH,lB,l9,mD,nr,nH,nG,nF,pw,pt,pq,po,pn,pk,qD,tH,uT,uS,uR,uQ,uP,uO,uN,uM,uL,uK,uJ,xu,xt,xr,xq,xp,xo,xn,xl,xk,xj,xi,xh,xg],σ++[o1,.row 5 1 1 (g+rest.length) false (al (b++rest.flatMap qu))]⟩) →
  fO n prog NH K (rest.length+1) ⟨[u,q,u,.i .i64 0,u,.own (σ.length+1) g,u,u,u,u,u,u,u,u,u,u,u,u,u,u,u,u,u,u,u,u,u,u,u,u,u,u,u,u,u,u,u,u,u,u,u,u,u,u,u,u,.sl 1 (l.map bj),.i .i64 l.length,.i .i64 pre.length,u,u,u,u,u,u,u,u,u,u,u,u,u,u,u,u,u,u,u,u,u,u,u,u,u,u,u,u,u,u,u,u,u,u,u,u,u,u,u,u,u,u,u,u,u,u,u,u,u,u],σ++[o1,.row 5 1 1 g false (al b)]⟩:=by
 intro rest
 induction rest with
 | nil =>
  intro pre b g he hb h1;have he:l=pre:=by simpa using he
  subst he;refine ax fun R hR=>?_;simp only[NH,VV,seval];simp only[ah,bC,jH,bf]at h1;exact⟨fun h=>by simp at h,fun _=>h1 ..⟩
 | cons c rest ih =>
  intro pre b g he hb h1;subst he;simp only[ab]at hb h1;refine ax fun R hR=>?_;simp only[NH,bj,VV,seval];refine⟨fun _=>⟨by simp;omega,?_⟩,fun h=>by simp at h<;>omega⟩;have u1:=Cl b c g (by omega) (σ++[o1]) [];simp only[List.length_append,ab,ah,aK,List.append_assoc,aq,ak]at u1;refine ai u1 rfl ?_;simp only[VV,seval];refine hR _ (aW ?_ (ih (pre++[c]) (b++qu c) (g+1) (by simp) (by simp[eu];omega) ?_))
  ·rw[aV (by simp at hlen;omega)];simp only[List.length_append,ab,ah]
   repeat' constructor
  ·have e1:g+1+rest.length=g+(rest.length+1):=by omega
   have e2:b++qu c++rest.flatMap qu=b++(c::rest).flatMap qu:=by simp
   rw[e1,e2];exact h1
theorem v8(o:aJ)(hs:o.small)(σ:ag):PC prog 97 [.agg o.cells] σ (fun r σ'=>r=.iK [.sl 1 (al (encode o).1),.i .i64 (encode o).2]∧σ'=σ):=by
 refine PC.intro func97 c97 fun aQ cz=>aj ?_;have IN:=hs.seen;simp only[p97,SS,seval];simp only[aJ.cells,bc.cells,En.cells,VV,seval];refine ai (kj o hs _) rfl ?_;simp only[VV,seval];refine⟨fun h=>?_,fun h=>?_⟩
 ·have h:cw o≠0:=by simpa using h
  have e:encode o=([],cw o):=by simp only[encode,h,if_true,ne_eq,not_false_eq_true]
  rw[e];refine dv (ys:=[.sl 1 [],.i .i64 (cw o)]) aQ (.inr rfl) (by simp only[RS,seval];rfl) ?_ (by simp only[LW]) ⟨rfl,rfl⟩;exact .cons (.nil _) (.cons (.refl _) .nil)
 have h:cw o=0:=by simpa using h
 have e:encode o=(bX o,0):=by simp only[encode,h,ne_eq,not_true,if_false]
 rw[e];have hk:o.seen.length≤8:=(Vi h);have rV:=hs.entry.bS;have vX:=hs.entry.next;have F3:=hs.cQ;have KF:=hs.cn;have hfs:=mG o.entry.source hs.entry.source hs.entry.gY (fun x hx=>hs.entry.ids x (by simp[hx]));have hft:=mG o.entry.target hs.entry.target hs.entry.o8 (fun x hx=>hs.entry.ids x (by simp[hx]));simp only[Fw];have u1:=MQ [1,ij o.kind] o.aA.time (by simp) (σ++[Ob.box 29 (aJ.cells o)]);simp only[List.length_append,ab,ah,aK,List.append_assoc,aq,ak,aJ.cells,bc.cells,En.cells]at u1;refine ai u1 rfl ?_;simp only[Fw,aL,RQ,maxLen,VV,seval];refine⟨by simp[dF],?_⟩;refine ai (agc _ o.aA.number 2 (by simp[dF]) σ _ []) rfl ?_;simp only[Fw,aL,RQ,maxLen,List.length_map,VV,seval];refine⟨by simp[dF,eu],?_⟩;refine bA.aW ?_ (o.seen.length+1) (Y4 (.ptr σ.length 0) o.seen (by omega) o.seen [] _ 4 rfl (by simp[dF,eu];omega) ?_)
 ·repeat' constructor
 intros;simp only[VV,seval];refine ai (AE o.entry.source hs.entry.source hs.entry.gY (fun x hx=>hs.entry.ids x (by simp[hx])) _) rfl ?_;simp only[VV,seval]
 refine ic (zs:=[.own (σ.length+1) (4+o.seen.length),.sl 1 ([(format o.entry.source).1,o.entry.bS,o.entry.next].map nD)]) (.cons (.refl _) (.cons (.lit _ _) .nil))
  (N7 _ _ _ (by simp) (by simp;omega) (by simp[dF,eu,vx];omega) σ _ _) ?_
 simp only[VV,seval];refine⟨fun qA=>?_,fun qA=>?_⟩
 ·have qA:o.kind=1:=by simpa using qA
  refine ai (AE o.entry.target hs.entry.target hs.entry.o8 (fun x hx=>hs.entry.ids x (by simp[hx])) _) rfl ?_;simp only[VV,seval]
  refine ic (zs:=[.own (σ.length+1) _,.sl 1 ([(format o.entry.target).1,o.entry.cQ,o.entry.cn].map nD)]) (.cons (.refl _) (.cons (.lit _ _) .nil))
   (N7 _ _ _ (by simp) (by simp;omega) (by simp[dF,eu,vx,fY];omega) σ _ _) ?_
  simp only[Fw,VV,seval];refine ai (afi _ o.entry.created _ (by simp[dF,eu,vx,fY];omega) σ _ _) rfl ?_;simp only[aL,RQ,maxLen,VV,seval];refine⟨by simp[dF,eu,vx,fY];omega,?_⟩;refine gg 1 aQ (.inr rfl) (by simp only[RS,seval];rfl) rfl (by simp only[ay,az,fz,kc,and_self,if_true,LW]) ⟨?_,rfl⟩;simp only[Pm.one,ay,az,fz,kc,and_self,if_true];congr 3;simp[bX,qA]
 ·have qA:¬ o.kind=1:=by simpa using qA
  refine gg 1 aQ (.inr rfl) (by simp only[RS,seval];rfl) rfl (by simp only[ay,az,fz,kc,and_self,if_true,LW]) ⟨?_,rfl⟩;simp only[Pm.one,ay,az,fz,kc,and_self,if_true];congr 3;simp[bX,qA]
def Ab(S:ag)(a:Nat)(r:Rb):ag:=S.set a (.box 121 [.sl 1 (al r.b),.b r.bad])
theorem U2(S:ag)(a:Nat)(r:Rb):(Ab S a r).length=S.length:=by simp[Ab]
theorem yw{S:ag}{a:Nat}{r:Rb}(h:a<S.length):(Ab S a r)[a]?=some (.box 121 [.sl 1 (al r.b),.b r.bad]):=by
 simp[Ab,h]
theorem yv{S:ag}{a:Nat}{r:Rb}{b:List UInt8}{x:Bool}:(Ab S a r).set a (.box 121 [.sl 1 (al b),.b x])=Ab S a ⟨b,x⟩:=by
 simp[Ab]
theorem vn(b:List UInt8)(n:Nat):(al b).take n=al (b.take n):=by simp[al,List.map_take]
theorem vo(b:List UInt8)(n:Nat):(al b).drop n=al (b.drop n):=by simp[al,List.map_drop]
theorem LN{S:ag}{a T:Nat}{cs cs':List V}(h:bP (S.set a (.box T cs)))(hx:∀ x∈cs',x.Lt S.length):bP (S.set a (.box T cs')):=by
 intro id T1 cs1 hid j x hj;rw[XD]
 by_cases e:a=id
 ·subst e;rw[List.getElem?_set]at hid;simp only[if_true]at hid;split at hid
  ·simp only[aa,Ob.box.injEq]at hid;obtain⟨_,rfl⟩:=hid;exact hx x (bh hj)
  ·simp at hid
 ·rw[bn e]at hid;have:=h id T1 cs1 (by rw[bn e];exact hid) j x hj
  rwa [XD]at this
theorem Nx(S:ag)(a:Nat)(ha:a<S.length)(r:Rb)(hr:r.b.length<2^60)(n:Nat)(hn:n<2^62):
  PC prog 145 [.ptr a 0,.i .i64 n] (Ab S a r) (fun v σ'=>v=.sl 1 (al (r.take n).1)∧σ'=Ab S a (r.take n).2):=by
 refine PC.intro func145 akh fun aQ cz=>aj ?_;simp only[ads,SS,seval]
 by_cases h:r.b.length<n
 ·have hd:decide ((r.b.length:Int)<(n:Int))=true:=by simp;omega
  have hm:(if(4:Int)<(n:Int)then 4 else(n:Int))=((min n 4:Nat):Int):=by omega
  have e:r.take n=(List.replicate (min n 4) 0,⟨[],true⟩):=by simp only[Rb.take,if_pos h]
  rw[e];simp only[yw ha,yv,aL,hd,hm,an,VV,seval];refine⟨⟨by omega,.inl trivial,by omega,by omega,by simp only[maxLen];omega⟩,?_⟩
  have hc:bP ((Ab S a ⟨r.b,true⟩).set a (.box 121 [.nil,.b true])):=by
   simp only[Ab,List.set_set]at aQ ⊢;exact LN aQ (by simp only[aU,bD,or_false,forall_eq_or_imp,forall_eq];exact⟨.nil,.b _⟩)
  have hl:((Ab S a ⟨r.b,true⟩).set a (.box 121 [.nil,.b true])).length=S.length:=by simp[Ab]
  have hg:((Ab S a ⟨r.b,true⟩).set a (.box 121 [.nil,.b true]))[a]?=some (.box 121 [.nil,.b true]):=by simp[Ab,ha]
  have hs:((Ab S a ⟨r.b,true⟩).set a (.box 121 [.nil,.b true])).set a (.box 121 ([V.nil,.b true].set 0 (.sl 1 [])))=Ab S a ⟨[],true⟩:=by simp[Ab,al]
  have hrp:List.replicate (min n 4) [V.i .u8 0]=al (List.replicate (min n 4) 0):=by simp[al]
  rw[hrp];generalize (Ab S a ⟨r.b,true⟩).set a (.box 121 [.nil,.b true])=σ1 at hc hl hg hs;refine ed (xs:=[.own σ1.length 0]) (xs':=[.sl 1 (al (List.replicate (min n 4) 0))]) (.inr rfl) (by simp only[kO,sj,VV,seval]) ?_ rfl ⟨rfl,rfl⟩;have w1:=Wk.TN (P:=prog) (n:=S.length) (xs:=[.own σ1.length 0]) (σ:=σ1) (loc:=[Ob.row 5 1 1 0 false (al (List.replicate (min n 4) 0))]) 0 rfl;simp only[ay,az,fz,kc,and_self,if_true,bC]at w1;have w2:=Wk.Fb (P:=prog) (xs:=[V.sl 1 (al (List.replicate (min n 4) 0))]) (loc:=[Ob.row 5 1 1 0 true (al (List.replicate (min n 4) 0))]) hc (by simp only[LW]);have w3:=Wk.cell (P:=prog) (n:=S.length) (xs:=[V.sl 1 (al (List.replicate (min n 4) 0))]) (j:=0) (x:=.nil) (y:=.sl 1 []) hg rfl (fun w μ v _ h=>by rw[h.lG];exact .yq _);rw[hs]at w3;rw[hl]at w2;rw[U2];exact(w1.trans w2).trans w3
 ·have hd:decide ((r.b.length:Int)<(n:Int))=false:=by simp;omega
  have e:r.take n=(r.b.take n,⟨r.b.drop n,r.bad⟩):=by simp only[Rb.take,if_neg h]
  have e2:List.take (r.b.length - n) (List.drop n (al r.b))=al (r.b.drop n):=by
   rw[vo];exact bJ (by simp[al])
  rw[e];simp only[yw ha,aL,vn,e2,yv,hd,VV,Nat.reduceAdd,Nat.reduceLeDiff,Int.reduceToNat,reduceIte,reduceCtorEq];exact⟨⟨by omega,by omega,by omega⟩,⟨by omega,by omega,by omega⟩,ed (.inr rfl) rfl (Wk.refl _ _) rfl ⟨rfl,rfl⟩⟩
theorem RG(n c:Nat)(hn:n<2^40)(hc:c<256):IntKind.i64.wrap (((BitVec.ofInt IntKind.i64.bits (IntKind.i64.wrap ((n:Int)*2^min 8 IntKind.i64.bits)) ||| BitVec.ofInt IntKind.i64.bits (IntKind.i64.wrap (c:Int))).toNat:Nat):Int)=((n*256+c:Nat):Int):=by
 have e1:(n:Int)*2^min 8 IntKind.i64.bits=((n*256:Nat):Int):=by simp[IntKind.bits]
 have w:∀ k:Nat,k<2^62→IntKind.i64.wrap (k:Int)=k:=fun k hk=>IntWalk.i64_in _ (by omega)
 have e2:(BitVec.ofInt IntKind.i64.bits ((n*256:Nat):Int) ||| BitVec.ofInt IntKind.i64.bits (c:Int)).toNat=n*256+c:=by
  show(BitVec.ofInt 64 ((n*256:Nat):Int) ||| BitVec.ofInt 64 (c:Int)).toNat=n*256+c;rw[iJ,iJ,BitVec.toNat_or,jI,jI,iG (by omega),iG (by omega),jL n 256];exact(Yj (i:=8) hc n).symm
 rw[e1,w (n*256) (by omega),w c (by omega),e2,w (n*256+c) (by omega)]
theorem Y5{m:Nat}{σ:ag}{K:Exit→St→Prop}(l:List UInt8)(hlen:l.length≤4):∀ (rest pre:List UInt8) (n:Nat),l=pre++rest→n<256^pre.length →
  (∀ j0 j1 j2 j3 j4 j6 j7 j8 j9 cT cS cX cR cN cM cL cW df dn dx dy dD,K (.exit 0) ⟨[j0,j1,j2,j3,j4,.i .i64 (rest.foldl (fun a x=>a*256+x.toNat) (n:Int)),j6,j7,j8,j9,cT,cS,cX,cR,cN,cM,cL,cW,df,dn,dx,dy,dD],σ⟩) →
  fO m prog NI K (rest.length+1) ⟨[u,u,u,u,u,.i .i64 (n:Int),u,u,u,u,.sl 1 (al l),.i .i64 l.length,.i .i64 pre.length,u,u,u,u,u,u,u,u,u,u],σ⟩:=by
 intro rest
 induction rest with
 | nil =>
  intro pre n he hn h1;have he:l=pre:=by simpa using he
  subst he;refine ax fun R hR=>?_;simp only[NI,VV,seval];exact⟨fun h=>by simp at h,fun _=>h1 ..⟩
 | cons c rest ih =>
  intro pre n he hn h1;subst he
  have hw:IntKind.i64.wrap ((pre.length:Int)+1)=(((pre++[c]).length:Nat):Int):=by
   rw[aV (by simp at hlen;omega)];simp
  have dY:fe (al (pre++c::rest)) pre.length 0=some (.i .u8 c.toNat):=by simp[fe,al]
  refine ax fun R hR=>?_
  have hp:n<2^32:=by
   have h1:pre.length≤3:=by simp at hlen;omega
   have h2:256^pre.length≤256^3:=tM (by decide) h1;omega
  have BT:c.toNat<256:=c.toNat_lt;have e:=RG n c.toNat (by omega) BT;simp only[NI,an,aL,dY,hw,e,VV,Int.reduceToNat,reduceIte];refine⟨fun _=>⟨⟨by omega,by simp;omega⟩,by decide,?_⟩,fun h=>by simp at h<;>omega⟩;refine hR _ (aW (by repeat' constructor) (ih (pre++[c]) (n*256+c.toNat) (by simp) (by simp only[List.length_append,ab,ah,Q0];omega) ?_));have e2:((n*256+c.toNat:Nat):Int)=(n:Int)*256+(c.toNat:Int):=by omega
  rw[e2];exact h1
theorem A3(S:ag)(a:Nat)(ha:a<S.length)(r:Rb)(hr:r.b.length<2^60)(n:Nat)(hn:n≤4):
  PC prog 94 [.ptr a 0,.i .i64 n] (Ab S a r) (fun v σ'=>v=.i .i64 (r.number n).1∧σ'=Ab S a (r.number n).2):=by
 refine PC.intro func94 c94 fun aQ cz=>aj ?_;simp only[p94,SS,seval];simp only[VV,seval];refine ai (Nx S a ha r hr n (by omega)) rfl ?_
 have hl:(r.take n).1.length≤4:=by
  simp only[Rb.take];split<;>simp<;>omega
 simp only[aL,VV,seval];refine bA.aW (fr':=[u,u,u,u,u,.i .i64 ((0:Nat):Int),u,u,u,u,.sl 1 (al (r.take n).1),.i .i64 (r.take n).1.length,.i .i64 (([]:List UInt8).length:Nat),u,u,u,u,u,u,u,u,u,u]) (by repeat' constructor) ((r.take n).1.length+1) (Y5 (r.take n).1 hl (r.take n).1 [] 0 rfl (by decide) ?_);intros;simp only[VV,seval];exact ed (.inr rfl) rfl (Wk.refl _ _) rfl ⟨rfl,rfl⟩
theorem FH(S:ag)(a:Nat)(ha:a<S.length)(r:Rb)(hr:r.b.length<2^60):
  PC prog 96 [.ptr a 0] (Ab S a r) (fun v σ'=>v=.s r.text.1∧σ'=Ab S a r.text.2):=by
 refine PC.intro func96 c96 fun aQ cz=>aj ?_;simp only[p96,SS,seval];simp only[VV,seval];refine ai (A3 S a ha r hr 4 (by decide)) rfl ?_;have hb:=sv r 4 (by decide);have hd:=mz r 4;have e:r.text=if((r.number 4).2.b.length:Int)<(r.number 4).1 then([],⟨(r.number 4).2.b,true⟩)else(r.number 4).2.take (r.number 4).1.toNat:=rfl
 rw[e];generalize r.number 4=p at hb hd;obtain⟨n,q⟩:=p;simp only at hb hd;obtain⟨m,rfl⟩:∃ m:Nat,n=m:=⟨n.toNat,by omega⟩
 by_cases h:(q.b.length:Int)<(m:Int)
 ·have hc:decide ((q.b.length:Int)<(m:Int))=true:=decide_eq_true h;simp only[if_pos h];simp only[yw ha,yv,aL,hc,VV,seval];exact ed (.inr rfl) rfl (Wk.refl _ _) rfl ⟨rfl,rfl⟩
 ·have hc:decide ((q.b.length:Int)<(m:Int))=false:=decide_eq_false h;simp only[if_neg h,an];simp only[yw ha,yv,aL,hc,VV,seval];refine ai (Nx S a ha q (by omega) m (by omega)) rfl ?_;simp only[gK,VV,seval];exact ed (.inr rfl) rfl (Wk.refl _ _) rfl ⟨rfl,rfl⟩
theorem EF(S:ag)(a:Nat)(ha:a<S.length)(r:Rb)(hr:r.b.length<2^38):
  PC prog 95 [.ptr a 0] (Ab S a r) (fun v σ'=>v=.sl 3 (r.fragment.1.map It.cells)∧σ'=Ab S a r.fragment.2):=by
 refine PC.intro func95 c95 fun aQ cz=>aj ?_;have hd:=mM r;simp only[p95,SS,seval];simp only[VV,seval];refine ai (FH S a ha r (by omega)) rfl ?_;simp only[VV,seval];refine ai (nX r.text.1 (by omega) _) rfl ?_;simp only[yw ha,yv,VV,seval];exact ed (.inr rfl) rfl (Wk.refl _ _) rfl ⟨rfl,rfl⟩
theorem LP{σ:ag}{x y:Ob}{ext:ag}{r:Rb}:Ab (σ++(x::y::ext)) (σ.length+1) r=σ++(x::.box 121 [.sl 1 (al r.b),.b r.bad]::ext):=by simp[Ab]
theorem jW{σ:ag}{x:Ob}{ext:ag}{b b':List UInt8}{c c':Bool}{v:Int}(n:Nat)(h:(Rb.mk b c).number n=(v,⟨b',c'⟩))(hr:b.length<2^60)(hn:n≤4):
  PC prog 94 [.ptr (σ.length+1) 0,.i .i64 n] (σ++(x::.box 121 [.sl 1 (al b),.b c]::ext)) (fun w σ'=>w=.i .i64 v∧σ'=σ++(x::.box 121 [.sl 1 (al b'),.b c']::ext)):=by
 have:=A3 (σ++(x::.dead::ext)) (σ.length+1) (by simp) ⟨b,c⟩ hr n hn;rw[h]at this;simpa only[LP]using this
theorem vL{σ:ag}{x:Ob}{ext:ag}{b b':List UInt8}{c c':Bool}{v:List UInt8}(h:(Rb.mk b c).text=(v,⟨b',c'⟩))(hr:b.length<2^60):
  PC prog 96 [.ptr (σ.length+1) 0] (σ++(x::.box 121 [.sl 1 (al b),.b c]::ext)) (fun w σ'=>w=.s v∧σ'=σ++(x::.box 121 [.sl 1 (al b'),.b c']::ext)):=by
 have:=FH (σ++(x::.dead::ext)) (σ.length+1) (by simp) ⟨b,c⟩ hr;rw[h]at this;simpa only[LP]using this
theorem wA{σ:ag}{x:Ob}{ext:ag}{b b':List UInt8}{c c':Bool}{v:List It}(h:(Rb.mk b c).fragment=(v,⟨b',c'⟩))(hr:b.length<2^38):
  PC prog 95 [.ptr (σ.length+1) 0] (σ++(x::.box 121 [.sl 1 (al b),.b c]::ext)) (fun w σ'=>w=.sl 3 (v.map It.cells)∧σ'=σ++(x::.box 121 [.sl 1 (al b'),.b c']::ext)):=by
 have:=EF (σ++(x::.dead::ext)) (σ.length+1) (by simp) ⟨b,c⟩ hr;rw[h]at this;simpa only[LP]using this
theorem Fk(a b:List UInt8)(σ:ag):PC prog 98 [.sl 1 (al a),.sl 1 (al b)] σ (fun r σ'=>r=.b (a==b)∧σ'=σ):=by
 refine PC.intro func98 c98 fun aQ cz=>aj ?_;simp only[p98,SS,seval];simp only[gK,VV,seval];exact aO (.inr rfl) (by simp only[RS,seval];rfl) ⟨rfl,rfl⟩
theorem FY(l:List Int)(x:Int):l.map bj++[[V.i .i64 x]]=(l++[x]).map bj:=by simp[bj]
theorem Zk{n0:Nat}{σ:ag}{K:Exit→St→Prop}(R0:Ob)(q0 q3 q6:V)(t f m k:Int)(N:Nat)(hN:N<256):∀ (n:Nat) (b:List UInt8) (c:Bool) (l:List Int) (g:Nat),l.length+n=N→b.length<2^40 →
  (∀ g,(∀ j1 j7 j8 j9 cT cS cX cR cN cM cL cW df dn dx dy dD dI dH dG dX ez eA eH eW fg fi ft fw fG fM fL fK fX gi gF gR gQ il ix iV iU iT iS iR jo jn jm jK jY kx ku kt kH lB l9 mD nr nH nG nF pw pt pq po pn pk qD tH uT uS uR uQ uP uO uN uM uL uK uJ xu xt xr xq xp xo xn xl xk xj xi xh xg zb nZ nY qm ql,K (.exit 0) ⟨[q0,j1,.ptr σ.length 0,q3,.ptr (σ.length+1) 0,.ptr (σ.length+2) 0,q6,j7,j8,j9,cT,cS,cX,cR,cN,cM,cL,cW,df,dn,dx,dy,dD,dI,dH,dG,dX,ez,eA,eH,eW,fg,fi,ft,fw,fG,fM,fL,fK,fX,gi,gF,gR,gQ,il,ix,iV,iU,iT,iS,iR,jo,jn,jm,jK,jY,kx,ku,kt,kH,lB,l9,mD,nr,nH,nG,nF,pw,pt,pq,po,pn,pk,qD,tH,uT,uS,uR,uQ,uP,uO,uN,uM,uL,uK,uJ,xu,xt,xr,xq,xp,xo,xn,xl,xk,xj,xi,xh,xg,zb,nZ,nY,qm,ql],σ++[R0,.box 121 [.sl 1 (al (Rb.numbers n ⟨b,c⟩).2.b),.b (Rb.numbers n ⟨b,c⟩).2.bad],.box 29 [.i .i64 t,.i .i64 f,.i .i64 m,.i .i64 k,.nil,.nil,.s [],.s [],.s [],.s [],.i .i64 0,.i .i64 0,.own (σ.length+3) g],.row 3 1 8 g false ((l++(Rb.numbers n ⟨b,c⟩).1).map bj)]⟩)) →
  fO n0 prog NW K (n+1) ⟨[q0,u,.ptr σ.length 0,q3,.ptr (σ.length+1) 0,.ptr (σ.length+2) 0,q6,u,u,u,u,u,u,u,u,u,u,u,u,u,u,u,u,u,u,u,.i .i64 N,.i .i64 l.length,u,u,u,u,u,u,u,u,u,u,u,u,u,u,u,u,u,u,u,u,u,u,u,u,u,u,u,u,u,u,u,u,u,u,u,u,u,u,u,u,u,u,u,u,u,u,u,u,u,u,u,u,u,u,u,u,u,u,u,u,u,u,u,u,u,u,u,u,u,u,u,u,u,u,u,u],σ++[R0,.box 121 [.sl 1 (al b),.b c],.box 29 [.i .i64 t,.i .i64 f,.i .i64 m,.i .i64 k,.nil,.nil,.s [],.s [],.s [],.s [],.i .i64 0,.i .i64 0,.own (σ.length+3) g],.row 3 1 8 g false (l.map bj)]⟩:=by
 intro n
 induction n with
 | zero =>
  intro b c l g he hb h1;obtain rfl:N=l.length:=by omega
  refine ax fun R hR=>?_;simp only[NW,VV,seval];simp only[Rb.numbers,bf]at h1;exact⟨fun h=>by simp at h,fun _=>h1 ..⟩
 | succ n ih =>
  intro b c l g he hb h1;obtain⟨v,⟨b',c'⟩,e⟩:∃ v r,(Rb.mk b c).number 2=(v,r):=⟨_,_,rfl⟩;have d:=mz ⟨b,c⟩ 2;rw[e]at d;simp only at d
  have hw:IntKind.i64.wrap ((l.length:Int)+1)=(((l++[v]).length:Nat):Int):=by
   rw[aV (by omega)];simp
  have hd:decide ((l.length:Int)<(N:Int))=true:=by simp;omega
  refine ax fun R hR=>?_;simp only[NW,hd,VV,seval];refine ai (jW 2 e (by omega) (by decide)) rfl ?_;simp only[hw,List.length_map,FY,maxLen,VV,seval];refine⟨⟨by omega,by omega⟩,hR _ (aW (by repeat' constructor) (ih b' c' (l++[v]) (g+1) (by simp;omega) (by omega) ?_))⟩;simp only[Rb.numbers,e]at h1;simpa only[List.append_assoc,aq,ak]using h1
theorem Xm{n:Nat}{xs:List V}{σ:ag}{b:List UInt8}{c:Bool}{t f m k:Int}:Wk prog n xs (σ++[.box 29 [.i .i64 0,.i .i64 0,.i .i64 0,.i .i64 0,.nil,.nil,.s [],.s [],.s [],.s [],.i .i64 0,.i .i64 0,.nil],.box 121 [.sl 1 (al b),.b c],.box 29 [.i .i64 t,.i .i64 f,.i .i64 m,.i .i64 k,.nil,.nil,.s [],.s [],.s [],.s [],.i .i64 0,.i .i64 0,.nil]]) xs (σ++[.box 29 [.i .i64 0,.i .i64 0,.i .i64 0,.i .i64 0,.nil,.nil,.s [],.s [],.s [],.s [],.i .i64 0,.i .i64 0,.nil],.box 121 [.sl 1 (al b),.b c],.box 29 [.i .i64 t,.i .i64 f,.i .i64 m,.i .i64 k,.nil,.nil,.s [],.s [],.s [],.s [],.i .i64 0,.i .i64 0,.own (σ.length+3) 0],.row 3 1 8 0 false (([]:List Int).map bj)]):=by
 have:=Wk.vd (P:=prog) (n:=n) (xs:=xs) (id:=σ.length+2) (j:=12) (T:=29) (cs:=[.i .i64 t,.i .i64 f,.i .i64 m,.i .i64 k,.nil,.nil,.s [],.s [],.s [],.s [],.i .i64 0,.i .i64 0,.nil])
  (σ:=σ++[.box 29 [.i .i64 0,.i .i64 0,.i .i64 0,.i .i64 0,.nil,.nil,.s [],.s [],.s [],.s [],.i .i64 0,.i .i64 0,.nil],.box 121 [.sl 1 (al b),.b c],.box 29 [.i .i64 t,.i .i64 f,.i .i64 m,.i .i64 k,.nil,.nil,.s [],.s [],.s [],.s [],.i .i64 0,.i .i64 0,.nil]]) GD (by simp) rfl
 simpa only[kb,List.append_assoc,List.length_append,ab,ah,aq,ak,dU,fb,aK,Nat.reduceAdd,az]using this
theorem Xl{n g:Nat}{xs:List V}{σ:ag}{b:List UInt8}{c:Bool}{t f m k:Int}{l:List Int}(aQ:bP σ)(hn:n≤σ.length)(hx:gM (σ.length+3) xs):Wk prog n xs (σ++[.box 29 [.i .i64 0,.i .i64 0,.i .i64 0,.i .i64 0,.nil,.nil,.s [],.s [],.s [],.s [],.i .i64 0,.i .i64 0,.nil],.box 121 [.sl 1 (al b),.b c],.box 29 [.i .i64 t,.i .i64 f,.i .i64 m,.i .i64 k,.nil,.nil,.s [],.s [],.s [],.s [],.i .i64 0,.i .i64 0,.own (σ.length+3) g],.row 3 1 8 g false (l.map bj)]) xs (σ++[.box 29 [.i .i64 0,.i .i64 0,.i .i64 0,.i .i64 0,.nil,.nil,.s [],.s [],.s [],.s [],.i .i64 0,.i .i64 0,.nil],.box 121 [.sl 1 (al b),.b c],.box 29 [.i .i64 t,.i .i64 f,.i .i64 m,.i .i64 k,.nil,.nil,.s [],.s [],.s [],.s [],.i .i64 0,.i .i64 0,.sl 1 (l.map bj)]]):=by
 have w1:=Wk.share (P:=prog) (n:=n) (xs:=xs) (σ:=σ++[.box 29 [.i .i64 0,.i .i64 0,.i .i64 0,.i .i64 0,.nil,.nil,.s [],.s [],.s [],.s [],.i .i64 0,.i .i64 0,.nil],.box 121 [.sl 1 (al b),.b c],.box 29 [.i .i64 t,.i .i64 f,.i .i64 m,.i .i64 k,.nil,.nil,.s [],.s [],.s [],.s [],.i .i64 0,.i .i64 0,.own (σ.length+3) g],.row 3 1 8 g false (l.map bj)]) (id:=σ.length+3) (E:=3) (sz:=1) (by':=8) (g:=g) (sh:=false) (rows:=l.map bj) (by simp)
 have w2:=Wk.IH (P:=prog) (n:=n) (xs:=xs) (σ:=σ++[.box 29 [.i .i64 0,.i .i64 0,.i .i64 0,.i .i64 0,.nil,.nil,.s [],.s [],.s [],.s [],.i .i64 0,.i .i64 0,.nil],.box 121 [.sl 1 (al b),.b c],.box 29 [.i .i64 t,.i .i64 f,.i .i64 m,.i .i64 k,.nil,.nil,.s [],.s [],.s [],.s [],.i .i64 0,.i .i64 0,.own (σ.length+3) g],.row 3 1 8 g true (l.map bj)]) (id:=σ.length+2) (idr:=σ.length+3) (T:=29) (j:=12) (g:=g) (E:=3) (sz:=1) (by':=8) (rows:=l.map bj)
  (cs:=[.i .i64 t,.i .i64 f,.i .i64 m,.i .i64 k,.nil,.nil,.s [],.s [],.s [],.s [],.i .i64 0,.i .i64 0,.own (σ.length+3) g]) (by simp) rfl (by simp)
 simp only[kb,dU,fb]at w1 w2
 have hc:bP (σ++[.box 29 [.i .i64 0,.i .i64 0,.i .i64 0,.i .i64 0,.nil,.nil,.s [],.s [],.s [],.s [],.i .i64 0,.i .i64 0,.nil],.box 121 [.sl 1 (al b),.b c],.box 29 [.i .i64 t,.i .i64 f,.i .i64 m,.i .i64 k,.nil,.nil,.s [],.s [],.s [],.s [],.i .i64 0,.i .i64 0,.sl 1 (l.map bj)]]):=bU aQ (by
  simp only[aU,bD,or_false,forall_eq_or_imp,forall_eq];refine⟨?_,?_,?_⟩<;>simp only[LW])
 have w3:=Wk.r3 (P:=prog) (n:=n) (xs:=xs) (σ:=σ++[.box 29 [.i .i64 0,.i .i64 0,.i .i64 0,.i .i64 0,.nil,.nil,.s [],.s [],.s [],.s [],.i .i64 0,.i .i64 0,.nil],.box 121 [.sl 1 (al b),.b c],.box 29 [.i .i64 t,.i .i64 f,.i .i64 m,.i .i64 k,.nil,.nil,.s [],.s [],.s [],.s [],.i .i64 0,.i .i64 0,.sl 1 (l.map bj)]]) (loc:=[.row 3 1 8 g true (l.map bj)]) (by simp;omega) hc (eX.1 (by simpa using hx));simp only[List.append_assoc,aq,ak]at w3;exact(w1.trans w2).trans w3
set_option maxHeartbeats 2000000 in
theorem J8(b:List UInt8)(hb:b.length<2^30)(σ:ag):PC prog 55 [.sl 1 (al b)] σ (fun r σ'=>r=.iK [.agg (Bt.decode b).1.cells,.i .i64 (Bt.decode b).2]∧σ'=σ):=by
 refine PC.intro func55 c55 fun aQ cz=>?_;simp only[p55,SS,seval];obtain⟨v,⟨b1,c1⟩,e1⟩:∃ v r,(Rb.mk b false).number 1=(v,r):=⟨_,_,rfl⟩;obtain⟨k,⟨b2,c2⟩,e2⟩:∃ v r,(Rb.mk b1 c1).number 1=(v,r):=⟨_,_,rfl⟩;obtain⟨t,⟨b3,c3⟩,e3⟩:∃ v r,(Rb.mk b2 c2).number 4=(v,r):=⟨_,_,rfl⟩;obtain⟨f,⟨b4,c4⟩,e4⟩:∃ v r,(Rb.mk b3 c3).number 1=(v,r):=⟨_,_,rfl⟩;obtain⟨m,⟨b5,c5⟩,e5⟩:∃ v r,(Rb.mk b4 c4).number 2=(v,r):=⟨_,_,rfl⟩;obtain⟨n,⟨b6,c6⟩,e6⟩:∃ v r,(Rb.mk b5 c5).number 1=(v,r):=⟨_,_,rfl⟩;have d1:=mz ⟨b,false⟩ 1;rw[e1]at d1;have d2:=mz ⟨b1,c1⟩ 1;rw[e2]at d2;have d3:=mz ⟨b2,c2⟩ 4;rw[e3]at d3;have d4:=mz ⟨b3,c3⟩ 1;rw[e4]at d4;have d5:=mz ⟨b4,c4⟩ 2;rw[e5]at d5;have d6:=mz ⟨b5,c5⟩ 1;rw[e6]at d6;have n6:=sv ⟨b5,c5⟩ 1 (by decide);rw[e6]at n6;simp only at d1 d2 d3 d4 d5 d6 n6;obtain⟨N,rfl⟩:∃ N:Nat,n=N:=⟨n.toNat,by omega⟩;refine bA.cut fun R hR=>?_;simp only[VV,seval];refine hR _ (bA.ej (fr':=[.sl 1 (al b),u,.ptr σ.length 0,.i .i64 0,u,u,u,u,u,u,u,u,u,u,u,u,u,u,u,u,u,u,u,u,u,u,u,u,u,u,u,u,u,u,u,u,u,u,u,u,u,u,u,u,u,u,u,u,u,u,u,u,u,u,u,u,u,u,u,u,u,u,u,u,u,u,u,u,u,u,u,u,u,u,u,u,u,u,u,u,u,u,u,u,u,u,u,u,u,u,u,u,u,u,u,u,u,u,u,u,u,u,u,u]) ?_ (by repeat' constructor));clear hR R;refine bA.cut fun R hR=>?_;simp only[VV,seval];refine hR _ (bA.ej (fr':=[.sl 1 (al b),u,.ptr σ.length 0,.i .i64 0,.ptr (σ.length+1) 0,u,u,u,u,u,u,u,u,u,u,u,u,u,u,u,u,u,u,u,u,u,u,u,u,u,u,u,u,u,u,u,u,u,u,u,u,u,u,u,u,u,u,u,u,u,u,u,u,u,u,u,u,u,u,u,u,u,u,u,u,u,u,u,u,u,u,u,u,u,u,u,u,u,u,u,u,u,u,u,u,u,u,u,u,u,u,u,u,u,u,u,u,u,u,u,u,u,u,u]) ?_ (by repeat' constructor));clear hR R;refine bA.cut fun R hR=>?_;simp only[VV,seval];refine hR _ (bA.ej (fr':=[.sl 1 (al b),u,.ptr σ.length 0,.i .i64 0,.ptr (σ.length+1) 0,.ptr (σ.length+2) 0,u,u,u,u,u,u,u,u,u,u,u,u,u,u,u,u,u,u,u,u,u,u,u,u,u,u,u,u,u,u,u,u,u,u,u,u,u,u,u,u,u,u,u,u,u,u,u,u,u,u,u,u,u,u,u,u,u,u,u,u,u,u,u,u,u,u,u,u,u,u,u,u,u,u,u,u,u,u,u,u,u,u,u,u,u,u,u,u,u,u,u,u,u,u,u,u,u,u]) ?_ (by repeat' constructor));clear hR R;refine bA.cut fun R hR=>?_;simp only[VV,seval];refine ai (jW 1 e1 (by omega) (by decide)) rfl ?_;simp only[VV,seval];refine hR _ (bA.ej (fr':=[.sl 1 (al b),u,.ptr σ.length 0,.i .i64 0,.ptr (σ.length+1) 0,.ptr (σ.length+2) 0,.i .i64 v,u,u,u,u,u,u,u,u,u,u,u,u,u,u,u,u,u,u,u,u,u,u,u,u,u,u,u,u,u,u,u,u,u,u,u,u,u,u,u,u,u,u,u,u,u,u,u,u,u,u,u,u,u,u,u,u,u,u,u,u,u,u,u,u,u,u,u,u,u,u,u,u,u,u,u,u,u,u,u,u,u,u,u,u,u,u,u,u,u,u,u,u,u,u,u,u,u]) ?_ (by repeat' constructor));clear hR R;refine bA.cut fun R hR=>?_;simp only[VV,seval];refine ai (jW 1 e2 (by omega) (by decide)) rfl ?_;simp only[VV,seval];refine hR _ (bA.ej (fr':=[.sl 1 (al b),u,.ptr σ.length 0,.i .i64 0,.ptr (σ.length+1) 0,.ptr (σ.length+2) 0,.i .i64 v,u,u,u,u,u,u,u,u,u,u,u,u,u,u,u,u,u,u,u,u,u,u,u,u,u,u,u,u,u,u,u,u,u,u,u,u,u,u,u,u,u,u,u,u,u,u,u,u,u,u,u,u,u,u,u,u,u,u,u,u,u,u,u,u,u,u,u,u,u,u,u,u,u,u,u,u,u,u,u,u,u,u,u,u,u,u,u,u,u,u,u,u,u,u,u,u,u]) ?_ (by repeat' constructor));clear hR R;refine bA.cut fun R hR=>?_;simp only[VV,seval];refine ai (jW 4 e3 (by omega) (by decide)) rfl ?_;simp only[VV,seval];refine ai (jW 1 e4 (by omega) (by decide)) rfl ?_;simp only[VV,seval];refine ai (jW 2 e5 (by omega) (by decide)) rfl ?_;simp only[VV,seval];refine hR _ (bA.ej (fr':=[.sl 1 (al b),u,.ptr σ.length 0,.i .i64 0,.ptr (σ.length+1) 0,.ptr (σ.length+2) 0,.i .i64 v,u,u,u,u,u,u,u,u,u,u,u,u,u,u,u,u,u,u,u,u,u,u,u,u,u,u,u,u,u,u,u,u,u,u,u,u,u,u,u,u,u,u,u,u,u,u,u,u,u,u,u,u,u,u,u,u,u,u,u,u,u,u,u,u,u,u,u,u,u,u,u,u,u,u,u,u,u,u,u,u,u,u,u,u,u,u,u,u,u,u,u,u,u,u,u,u,u]) ?_ (by repeat' constructor));clear hR R;refine bA.cut fun R hR=>?_;simp only[VV,seval];refine ai (jW 1 e6 (by omega) (by decide)) rfl ?_;simp only[VV,seval];obtain⟨ns,⟨b7,c7⟩,e7⟩:∃ v r,Rb.numbers N ⟨b6,c6⟩=(v,r):=⟨_,_,rfl⟩;have d7:=uk N ⟨b6,c6⟩;rw[e7]at d7;simp only at d7
 refine bA.wk ((Wk.ej (ys:=[.sl 1 (al b),u,.ptr σ.length 0,.i .i64 0,.ptr (σ.length+1) 0,.ptr (σ.length+2) 0,.i .i64 v,u,u,u,u,u,u,u,u,u,u,u,u,u,u,u,u,u,u,u,.i .i64 N,.i .i64 (([]:List Int).length:Nat),u,u,u,u,u,u,u,u,u,u,u,u,u,u,u,u,u,u,u,u,u,u,u,u,u,u,u,u,u,u,u,u,u,u,u,u,u,u,u,u,u,u,u,u,u,u,u,u,u,u,u,u,u,u,u,u,u,u,u,u,u,u,u,u,u,u,u,u,u,u,u,u,u,u,u,u]) (by repeat' constructor)).trans Xm)
  (bA.pd (N+1) (Zk (.box 29 [.i .i64 0,.i .i64 0,.i .i64 0,.i .i64 0,.nil,.nil,.s [],.s [],.s [],.s [],.i .i64 0,.i .i64 0,.nil]) (.sl 1 (al b)) (.i .i64 0) (.i .i64 v) t f m k N (by omega) N b6 c6 [] 0 (by simp) (by omega) ?_))
 intro g;intros;rw[e7];simp only[ak,VV,seval];refine hR _ (bA.wk ((Wk.ej (ys:=[.sl 1 (al b),u,.ptr σ.length 0,.i .i64 0,.ptr (σ.length+1) 0,.ptr (σ.length+2) 0,.i .i64 v,u,u,u,u,u,u,u,u,u,u,u,u,u,u,u,u,u,u,u,u,u,u,u,u,u,u,u,u,u,u,u,u,u,u,u,u,u,u,u,u,u,u,u,u,u,u,u,u,u,u,u,u,u,u,u,u,u,u,u,u,u,u,u,u,u,u,u,u,u,u,u,u,u,u,u,u,u,u,u,u,u,u,u,u,u,u,u,u,u,u,u,u,u,u,u,u,u]) (by repeat' constructor)).trans (Xl aQ (aB _) (by simp only[LW];omega))) ?_);clear hR R;refine bA.cut fun R hR=>?_;obtain⟨src,⟨b8,c8⟩,e8⟩:∃ v r,(Rb.mk b7 c7).fragment=(v,r):=⟨_,_,rfl⟩;have d8:=tt ⟨b7,c7⟩;rw[e8]at d8;simp only at d8;simp only[VV,seval];refine ai (wA e8 (by omega)) rfl ?_;simp only[VV,seval];refine hR _ (bA.ej (fr':=[.sl 1 (al b),u,.ptr σ.length 0,.i .i64 0,.ptr (σ.length+1) 0,.ptr (σ.length+2) 0,.i .i64 v,u,u,u,u,u,u,u,u,u,u,u,u,u,u,u,u,u,u,u,u,u,u,u,u,u,u,u,u,u,u,u,u,u,u,u,u,u,u,u,u,u,u,u,u,u,u,u,u,u,u,u,u,u,u,u,u,u,u,u,u,u,u,u,u,u,u,u,u,u,u,u,u,u,u,u,u,u,u,u,u,u,u,u,u,u,u,u,u,u,u,u,u,u,u,u,u,u]) ?_ (by repeat' constructor));clear hR R;refine bA.cut fun R hR=>?_;obtain⟨pv,⟨b9,c9⟩,e9⟩:∃ v r,(Rb.mk b8 c8).text=(v,r):=⟨_,_,rfl⟩;have d9:=mM ⟨b8,c8⟩;rw[e9]at d9;simp only at d9;simp only[VV,seval];refine ai (vL e9 (by omega)) rfl ?_;simp only[VV,seval];refine hR _ (bA.ej (fr':=[.sl 1 (al b),u,.ptr σ.length 0,.i .i64 0,.ptr (σ.length+1) 0,.ptr (σ.length+2) 0,.i .i64 v,u,u,u,u,u,u,u,u,u,u,u,u,u,u,u,u,u,u,u,u,u,u,u,u,u,u,u,u,u,u,u,u,u,u,u,u,u,u,u,u,u,u,u,u,u,u,u,u,u,u,u,u,u,u,u,u,u,u,u,u,u,u,u,u,u,u,u,u,u,u,u,u,u,u,u,u,u,u,u,u,u,u,u,u,u,u,u,u,u,u,u,u,u,u,u,u,u]) ?_ (by repeat' constructor));clear hR R;refine bA.cut fun R hR=>?_;obtain⟨nx,⟨b10,zF⟩,e10⟩:∃ v r,(Rb.mk b9 c9).text=(v,r):=⟨_,_,rfl⟩;have d10:=mM ⟨b9,c9⟩;rw[e10]at d10;simp only at d10;simp only[VV,seval];refine ai (vL e10 (by omega)) rfl ?_;simp only[VV,seval];refine hR _ (bA.ej (fr':=[.sl 1 (al b),u,.ptr σ.length 0,.i .i64 0,.ptr (σ.length+1) 0,.ptr (σ.length+2) 0,.i .i64 v,u,u,u,u,u,u,u,u,u,u,u,u,u,u,u,u,u,u,u,u,u,u,u,u,u,u,u,u,u,u,u,u,u,u,u,u,u,u,u,u,u,u,u,u,u,u,u,u,u,u,u,u,u,u,u,u,u,u,u,u,u,u,u,u,u,u,u,u,u,u,u,u,u,u,u,u,u,u,u,u,u,u,u,u,u,u,u,u,u,u,u,u,u,u,u,u,u]) ?_ (by repeat' constructor));clear hR R;refine bA.cut fun R hR=>?_
 have tail:∀ (x:aJ) (b':List UInt8) (c':Bool) {fr:List V} {s0:ag},x.small→b'.length<2^30→gx b=(x,v,⟨b',c'⟩)→Wk prog σ.length fr s0 ([.sl 1 (al b),u,.ptr σ.length 0,.i .i64 0,.ptr (σ.length+1) 0,.ptr (σ.length+2) 0,.i .i64 v,u,u,u,u,u,u,u,u,u,u,u,u,u,u,u,u,u,u,u,u,u,u,u,u,u,u,u,u,u,u,u,u,u,u,u,u,u,u,u,u,u,u,u,u,u,u,u,u,u,u,u,u,u,u,u,u,u,u,u,u,u,u,u,u,u,u,u,u,u,u,u,u,u,u,u,u,u,u,u,u,u,u,u,u,u,u,u,u,u,u,u,u,u,u,u,u,u]) (σ++[.box 29 [.i .i64 0,.i .i64 0,.i .i64 0,.i .i64 0,.nil,.nil,.s [],.s [],.s [],.s [],.i .i64 0,.i .i64 0,.nil],.box 121 [.sl 1 (al b'),.b c'],.box 29 x.cells])→R ⟨fr,s0⟩:=by
  intro x b' c' fr s0 hx hb' hro hc
  have e:Bt.decode b=if c'=true∨0<b'.length∨v≠1 then(xe,12)else if(encode x).2≠0∨(encode x).1≠b then(xe,12)else(x,0):=by
   simp only[Bt.decode,hro]
  refine hR _ (bA.wk hc (aj ?_));clear hR R hc;simp only[aJ.cells,bc.cells,En.cells,aq,ak,aL,VV,seval];refine⟨fun h=>?_,fun h=>?_⟩
  ·have h1:c'=true∨0<b'.length∨v≠1:=by
    cases c'<;>simp at h ⊢<;>omega
   rw[if_pos h1]at e;refine dv (ys:=[.agg xe.cells,.i .i64 12]) aQ (.inr rfl) (by simp only[RS,seval];rfl) ?_ (by simp only[xe,Mp,aJ.cells,bc.cells,En.cells,az,aq,ak,LW]) ⟨by rw[e];rfl,rfl⟩;refine .cons (Cv.ir ?_) (.cons (.refl _) .nil);simp only[xe,Mp,aJ.cells,bc.cells,En.cells,az,aq,ak]
   repeat first | exact .nil | refine .cons (.refl _) ?_ | refine .cons (.nil _) ?_
  ·have h1:¬ (c'=true∨0<b'.length∨v≠1):=by
    cases c'<;>simp at h ⊢<;>omega
   rw[if_neg h1]at e;refine ai (v8 x hx _) rfl ?_;simp only[VV,seval];refine bg (by simp only[VV,seval]<;>rfl) (fun _=>Fk (encode x).1 b _) rfl ?_;simp only[ak,VV,seval];refine⟨fun h=>?_,fun h=>?_⟩
   ·have h2:(encode x).2≠0∨(encode x).1≠b:=by simpa using h
    rw[if_pos h2]at e;refine dv (ys:=[.agg xe.cells,.i .i64 12]) aQ (.inr rfl) (by simp only[RS,seval];rfl) ?_ (by simp only[xe,Mp,aJ.cells,bc.cells,En.cells,az,aq,ak,LW]) ⟨by rw[e];rfl,rfl⟩;refine .cons (Cv.ir ?_) (.cons (.refl _) .nil);simp only[xe,Mp,aJ.cells,bc.cells,En.cells,az,aq,ak]
    repeat first | exact .nil | refine .cons (.refl _) ?_ | refine .cons (.nil _) ?_
   ·have h2:¬ ((encode x).2≠0∨(encode x).1≠b):=by simpa using h
    rw[if_neg h2]at e;refine aG aQ (.inr rfl) (by simp only[RS,seval];rfl) (by simp only[LW]) ⟨?_,rfl⟩;rw[e];rfl
 have p8:=qN ((Rb.mk b7 c7).text.1);rw[show(parse ((Rb.mk b7 c7).text.1)).1=src from congrArg Prod.fst e8]at p8;simp only[VV,seval];refine⟨fun h=>?_,fun h=>?_⟩
 ·have hk:k=1:=by simpa using h
  obtain⟨tg,⟨b11,Re⟩,e11⟩:∃ v r,(Rb.mk b10 zF).fragment=(v,r):=⟨_,_,rfl⟩;have d11:=tt ⟨b10,zF⟩;rw[e11]at d11;have Q4:=qN ((Rb.mk b10 zF).text.1);rw[show(parse ((Rb.mk b10 zF).text.1)).1=tg from congrArg Prod.fst e11]at Q4;obtain⟨au,⟨b12,Rc⟩,e12⟩:∃ v r,(Rb.mk b11 Re).text=(v,r):=⟨_,_,rfl⟩;have d12:=mM ⟨b11,Re⟩;rw[e12]at d12;obtain⟨pr,⟨b13,c13⟩,e13⟩:∃ v r,(Rb.mk b12 Rc).text=(v,r):=⟨_,_,rfl⟩;have d13:=mM ⟨b12,Rc⟩;rw[e13]at d13;obtain⟨cr,⟨b14,Yg⟩,e14⟩:∃ v r,(Rb.mk b13 c13).number 4=(v,r):=⟨_,_,rfl⟩;have d14:=mz ⟨b13,c13⟩ 4;rw[e14]at d14;obtain⟨og,⟨b15,c15⟩,e15⟩:∃ v r,(Rb.mk b14 Yg).number 1=(v,r):=⟨_,_,rfl⟩;have d15:=mz ⟨b14,Yg⟩ 1;rw[e15]at d15;simp only at d11 d12 d13 d14 d15;refine ai (wA e11 (by omega)) rfl ?_;simp only[VV,seval];refine ai (vL e12 (by omega)) rfl ?_;simp only[VV,seval];refine ai (vL e13 (by omega)) rfl ?_;simp only[VV,seval];refine ai (jW 4 e14 (by omega) (by decide)) rfl ?_;simp only[VV,seval];refine ai (jW 1 e15 (by omega) (by decide)) rfl ?_;simp only[VV,seval];refine tail ⟨⟨t,f,m⟩,k,⟨src,tg,pv,nx,au,pr,cr,og⟩,ns⟩ b15 c15 ⟨⟨p8.1,p8.2.1,Q4.1,Q4.2.1,by simp only;omega,by simp only;omega,fun y hy=>?_⟩,by simp only;omega,by simp only;omega,by simp only;omega⟩ (by omega) ?_ (Wk.ej (by repeat' constructor))
  ·rcases List.mem_append.1 hy with hy | hy
   ·exact p8.2.2 y hy
   ·exact Q4.2.2 y hy
  ·simp only[gx,e1,e2,e3,e4,e5,e6,an,e7,e8,e9,e10,e11,e12,e13,e14,e15,hk,if_true]
 ·have hk:¬ k=1:=by simpa using h
  have hw:=Wk.cell (P:=prog) (n:=σ.length) (xs:=[.sl 1 (al b),u,.ptr σ.length 0,.i .i64 0,.ptr (σ.length+1) 0,.ptr (σ.length+2) 0,.i .i64 v,u,u,u,u,u,u,u,u,u,u,u,u,u,u,u,u,u,u,u,u,u,u,u,u,u,u,u,u,u,u,u,u,u,u,u,u,u,u,u,u,u,u,u,u,u,u,u,u,u,u,u,u,u,u,u,u,u,u,u,u,u,u,u,u,u,u,u,u,u,u,u,u,u,u,u,u,u,u,u,u,u,u,u,u,u,u,u,u,u,u,u,u,u,u,u,u,u]) (σ:=σ++[.box 29 [.i .i64 0,.i .i64 0,.i .i64 0,.i .i64 0,.nil,.nil,.s [],.s [],.s [],.s [],.i .i64 0,.i .i64 0,.nil],.box 121 [.sl 1 (al b10),.b zF],.box 29 [.i .i64 t,.i .i64 f,.i .i64 m,.i .i64 k,.sl 3 (src.map It.cells),.nil,.s pv,.s nx,.s [],.s [],.i .i64 0,.i .i64 0,.sl 1 (ns.map bj)]]) (id:=σ.length+2) (T:=29) (j:=5) (x:=.nil) (y:=.sl 3 []) (cs:=[.i .i64 t,.i .i64 f,.i .i64 m,.i .i64 k,.sl 3 (src.map It.cells),.nil,.s pv,.s nx,.s [],.s [],.i .i64 0,.i .i64 0,.sl 1 (ns.map bj)]) (by simp) rfl (fun w μ v _ h=>by rw[h.lG];exact .yq _);simp only[kb,dU,fb]at hw;refine tail ⟨⟨t,f,m⟩,k,⟨src,[],pv,nx,[],[],0,0⟩,ns⟩ b10 zF ⟨⟨p8.1,p8.2.1,by simp,by simp[aM],by simp only;omega,by simp only;omega,fun y hy=>?_⟩,by simp,by simp,by simp only;omega⟩ (by omega) ?_ ((Wk.ej (by repeat' constructor)).trans hw)
  ·simp only[bf]at hy;exact p8.2.2 y hy
  ·simp only[gx,e1,e2,e3,e4,e5,e6,an,e7,e8,e9,e10,hk,if_false]
def Nz(S:ag)(a:Nat)(r:Rb):ag:=S.set a (.box 146 [.sl 1 (al r.b),.b r.bad])
theorem vI{S:ag}{a:Nat}{r:Rb}(h:a<S.length):(Nz S a r)[a]?=some (.box 146 [.sl 1 (al r.b),.b r.bad]):=by
 simp[Nz,h]
theorem yx{S:ag}{a:Nat}{r:Rb}{b:List UInt8}{x:Bool}:(Nz S a r).set a (.box 146 [.sl 1 (al b),.b x])=Nz S a ⟨b,x⟩:=by
 simp[Nz]
theorem V3{m:Nat}{σ:ag}{K:Exit→St→Prop}(q0 q1:V)(l:List UInt8)(hlen:l.length≤4):∀ (rest pre:List UInt8) (n:Nat),l=pre++rest→n<256^pre.length →
  (∀ j2 j3 j4 j6 j7 j8 j9 cT cS cX cR cN cM cL cW df dn dx dy dD dI dH dG dX ez eA eH eW fg fi ft fw fG fM fL fK fX gi gF gR gQ il,K (.exit 0) ⟨[q0,q1,j2,j3,j4,.i .i64 (rest.foldl (fun a x=>a*256+x.toNat) (n:Int)),j6,j7,j8,j9,cT,cS,cX,cR,cN,cM,cL,cW,df,dn,dx,dy,dD,dI,dH,dG,dX,ez,eA,eH,eW,fg,fi,ft,fw,fG,fM,fL,fK,fX,gi,gF,gR,gQ,il],σ⟩) →
  fO m prog HD K (rest.length+1) ⟨[q0,q1,u,u,u,.i .i64 (n:Int),u,u,u,u,u,u,u,u,u,u,u,u,u,u,u,u,u,.sl 1 (al l),.i .i64 l.length,.i .i64 pre.length,u,u,u,u,u,u,u,u,u,u,u,u,u,u,u,u,u,u,u],σ⟩:=by
 intro rest
 induction rest with
 | nil =>
  intro pre n he hn h1;have he:l=pre:=by simpa using he
  subst he;refine ax fun R hR=>?_;simp only[HD,VV,seval];exact⟨fun h=>by simp at h,fun _=>h1 ..⟩
 | cons c rest ih =>
  intro pre n he hn h1;subst he
  have hw:IntKind.i64.wrap ((pre.length:Int)+1)=(((pre++[c]).length:Nat):Int):=by
   rw[aV (by simp at hlen;omega)];simp
  have dY:fe (al (pre++c::rest)) pre.length 0=some (.i .u8 c.toNat):=by simp[fe,al]
  have hp:n<2^32:=by
   have h1:pre.length≤3:=by simp at hlen;omega
   have h2:256^pre.length≤256^3:=tM (by decide) h1;omega
  have BT:c.toNat<256:=c.toNat_lt;have e:=RG n c.toNat (by omega) BT;refine ax fun R hR=>?_;simp only[HD,an,aL,dY,hw,e,VV,Int.reduceToNat,reduceIte];refine⟨fun _=>⟨⟨by omega,by simp;omega⟩,by decide,?_⟩,fun h=>by simp at h<;>omega⟩;refine hR _ (aW (by repeat' constructor) (ih (pre++[c]) (n*256+c.toNat) (by simp) (by simp only[List.length_append,ab,ah,Q0];omega) ?_));have e2:((n*256+c.toNat:Nat):Int)=(n:Int)*256+(c.toNat:Int):=by omega
  rw[e2];exact h1
theorem ud(S:ag)(a:Nat)(ha:a<S.length)(r:Rb)(hr:r.b.length<2^60)(n:Nat)(hn:n≤4):
  PC prog 123 [.ptr a 0,.i .i64 n] (Nz S a r) (fun v σ'=>v=.i .i64 (r.bF n).1∧σ'=Nz S a (r.bF n).2):=by
 refine PC.intro func123 nJ fun aQ cz=>aj ?_;simp only[adM,SS,seval]
 by_cases h:r.b.length<n
 ·have hd:decide ((r.b.length:Int)<(n:Int))=true:=by simp;omega
  have e:r.bF n=(0,⟨r.b,true⟩):=by simp only[Rb.bF,if_pos h]
  rw[e];simp only[vI ha,yx,aL,hd,VV,seval];exact ed (.inr rfl) rfl (Wk.refl _ _) rfl ⟨rfl,rfl⟩
 ·have hd:decide ((r.b.length:Int)<(n:Int))=false:=by simp;omega
  have e:r.bF n=(fc (r.b.take n),⟨r.b.drop n,r.bad⟩):=by simp only[Rb.bF,if_neg h]
  have e2:List.take (r.b.length - n) (List.drop n (al r.b))=al (r.b.drop n):=by
   rw[vo];exact bJ (by simp[al])
  have hl:(r.b.take n).length≤4:=by simp;omega
  rw[e];simp only[vI ha,aL,vn,hd,VV,Nat.reduceAdd,Int.reduceToNat,reduceIte,reduceCtorEq];refine⟨⟨by omega,by omega,by omega⟩,?_⟩;refine bA.aW (fr':=[.ptr a 0,.i .i64 n,u,u,u,.i .i64 ((0:Nat):Int),u,u,u,u,u,u,u,u,u,u,u,u,u,u,u,u,u,.sl 1 (al (r.b.take n)),.i .i64 (r.b.take n).length,.i .i64 (([]:List UInt8).length:Nat),u,u,u,u,u,u,u,u,u,u,u,u,u,u,u,u,u,u,u]) (by repeat' constructor) ((r.b.take n).length+1) (V3 (.ptr a 0) (.i .i64 n) (r.b.take n) hl (r.b.take n) [] 0 rfl (by decide) ?_);intros;simp only[vI ha,aL,e2,yx,VV,seval];exact⟨⟨by omega,by omega,by omega⟩,ed (.inr rfl) rfl (Wk.refl _ _) rfl ⟨rfl,rfl⟩⟩
theorem wz(r:Rb)(n:Nat)(hn:n≤4):0≤(r.bF n).1∧(r.bF n).1<2^(8*n):=by
 by_cases h:r.b.length<n
 ·simp only[Rb.bF,if_pos h];exact⟨by decide,by have:=Nat.two_pow_pos (8*n);exact_mod_cast this⟩
 ·have:=sv r n hn;simp only[Rb.number,Rb.take,if_neg h]at this;simpa only[Rb.bF,if_neg h]using this
theorem my(r:Rb)(n:Nat):(r.bF n).2.b.length≤r.b.length:=by
 simp only[Rb.bF];split<;>simp
theorem FC(S:ag)(a:Nat)(ha:a<S.length)(r:Rb)(hr:r.b.length<2^60):
  PC prog 142 [.ptr a 0] (Nz S a r) (fun v σ'=>v=.s r.jf.1∧σ'=Nz S a r.jf.2):=by
 refine PC.intro func142 akk fun aQ cz=>aj ?_;simp only[adv,SS,seval];simp only[VV,seval];refine ai (ud S a ha r hr 4 (by decide)) rfl ?_;have hb:=wz r 4 (by decide);have hd:=my r 4;have e:r.jf=if(r.bF 4).2.bad=true∨((r.bF 4).2.b.length:Int)<(r.bF 4).1 then([],⟨(r.bF 4).2.b,true⟩)else((r.bF 4).2.b.take (r.bF 4).1.toNat,⟨(r.bF 4).2.b.drop (r.bF 4).1.toNat,(r.bF 4).2.bad⟩):=rfl
 rw[e];generalize r.bF 4=p at hb hd;obtain⟨n,q⟩:=p;simp only at hb hd;obtain⟨m,rfl⟩:∃ m:Nat,n=m:=⟨n.toNat,by omega⟩;simp only[vI ha,yx,aL,VV,Nat.reduceAdd,Int.reduceToNat,reduceIte];refine⟨fun h=>?_,fun h=>?_⟩
 ·have h1:q.bad=true∨(q.b.length:Int)<(m:Int):=by simpa using h
  simp only[if_pos h1];exact ed (.inr rfl) rfl (Wk.refl _ _) rfl ⟨rfl,rfl⟩
 ·have h1:¬ (q.bad=true∨(q.b.length:Int)<(m:Int)):=by simpa using h
  have e2:List.take (q.b.length - m) (List.drop m (al q.b))=al (q.b.drop m):=by
   rw[vo];exact bJ (by simp[al])
  simp only[if_neg h1];simp only[vn,gK,vI ha,aL,e2,yx,VV,Nat.reduceAdd,Nat.reduceLeDiff,reduceIte];exact⟨⟨by omega,by omega,by omega⟩,⟨by omega,by omega,by omega⟩,ed (.inr rfl) rfl (Wk.refl _ _) rfl ⟨rfl,rfl⟩⟩
theorem mL(r:Rb):r.jf.2.b.length≤r.b.length∧r.jf.1.length≤r.b.length:=by
 have hd:=my r 4;have e:r.jf=if(r.bF 4).2.bad=true∨((r.bF 4).2.b.length:Int)<(r.bF 4).1 then([],⟨(r.bF 4).2.b,true⟩)else((r.bF 4).2.b.take (r.bF 4).1.toNat,⟨(r.bF 4).2.b.drop (r.bF 4).1.toNat,(r.bF 4).2.bad⟩):=rfl
 rw[e];split
 ·exact⟨hd,by simp⟩
 ·simp only[aR,bH];omega
theorem tr(r:Rb):r.gn.2.b.length≤r.b.length:=(mL r).1
theorem uc:∀ (n:Nat) (r:Rb),(Rb.fB n r).2.b.length≤r.b.length∧(Rb.fB n r).1.length≤n
 | 0,r=>⟨aB _,aB _⟩
 | n+1,r=>by
  have h1:=my r 2;have h2:=uc n (r.bF 2).2;simp only[Rb.fB];split
  ·exact⟨aB _,by simp⟩
  ·simp only[ab];exact⟨by omega,by omega⟩
theorem EB(S:ag)(a:Nat)(ha:a<S.length)(r:Rb)(hr:r.b.length<2^30):
  PC prog 141 [.ptr a 0] (Nz S a r) (fun v σ'=>v=.sl 3 (r.gn.1.map It.cells)∧σ'=Nz S a r.gn.2):=by
 refine PC.intro func141 akl fun aQ cz=>aj ?_;have hd:=mL r;simp only[adw,SS,seval];simp only[VV,seval];refine ai (FC S a ha r (by omega)) rfl ?_;simp only[VV,seval];refine ai (w7 r.jf.1 (by omega) _) rfl ?_;simp only[vI ha,yx,VV,seval];exact ed (.inr rfl) rfl (Wk.refl _ _) rfl ⟨rfl,rfl⟩
theorem aaR(n:Int):(al (BA n)).isEmpty=false:=rfl
theorem agA(k:Int)(b:List UInt8):[V.i .u8 1]::[V.i .u8 ((ij k).toNat:Int)]::al b=al (1::ij k::b):=by simp[al]
theorem YB(n:Int)(b:List UInt8):al b++[[V.i .u8 ((ij n).toNat:Int)]]=al (b++[ij n]):=by simp[al]
theorem kq(b:List UInt8):(al b).length=b.length:=by simp[al]
theorem Y9{n:Nat}{σ:ag}{o1:Ob}{K:Exit→St→Prop}(q:V)(l:List Int)(hlen:l.length<2^30):∀ (rest pre:List Int) (b:List UInt8) (g:Nat),l=pre++rest →
  b.length+2*rest.length<2^45 →
  (∀ g,(∀ j0 j2 j3 j4 j6 j7 j8 j9 cT cS cX cR cN cM cL cW df dn dx dy dD dI dH dG dX ez eA eH eW fg fi ft fw fG fM fL fK fX gi gF gR gQ il ix iV iU iT iS iR jo jn jm jK jY kx ku kt kH lB l9 mD nr nH nG nF pw pt pq po pn pk qD tH uT uS uR uQ uP uO uN uM uL uK uJ xu xt xr xq xp xo xn xl xk xj xi xh xg zb,K (.exit 0) ⟨[j0,q,j2,j3,j4,.own (σ.length+1) g,j6,j7,j8,j9,cT,cS,cX,cR,cN,cM,cL,cW,df,dn,dx,dy,dD,dI,dH,dG,dX,ez,eA,eH,eW,fg,fi,ft,fw,fG,fM,fL,fK,fX,gi,gF,gR,gQ,il,ix,iV,iU,iT,iS,iR,jo,jn,jm,jK,jY,kx,ku,kt,kH,lB,l9,mD,nr,nH,nG,nF,pw,pt,pq,po,pn,pk,qD,tH,uT,uS,uR,uQ,uP,uO,uN,uM,uL,uK,uJ,xu,xt,xr,xq,xp,xo,xn,xl,xk,xj,xi,xh,xg,zb],σ++[o1,.row 5 1 1 g false (al (b++rest.flatMap qu))]⟩)) →
  fO n prog NM K (rest.length+1) ⟨[u,q,u,u,u,.own (σ.length+1) g,u,u,u,u,u,u,u,u,u,u,u,u,u,u,u,u,u,u,u,u,u,u,u,u,u,u,u,u,u,u,u,u,u,u,u,u,u,u,u,.sl 1 (l.map bj),.i .i64 l.length,.i .i64 pre.length,u,u,u,u,u,u,u,u,u,u,u,u,u,u,u,u,u,u,u,u,u,u,u,u,u,u,u,u,u,u,u,u,u,u,u,u,u,u,u,u,u,u,u,u,u,u,u,u,u,u,u,u],σ++[o1,.row 5 1 1 g false (al b)]⟩:=by
 intro rest
 induction rest with
 | nil =>
  intro pre b g he hb h1;have he:l=pre:=by simpa using he
  subst he;refine ax fun R hR=>?_;simp only[NM,VV,seval];simp only[jH,bf]at h1;exact⟨fun h=>by simp at h,fun _=>h1 ..⟩
 | cons c rest ih =>
  intro pre b g he hb h1;subst he;simp only[ab]at hb;have dY:fe (List.map bj (pre++c::rest)) pre.length 0=some (.i .i64 c):=lU
  have hw:IntKind.i64.wrap ((pre.length:Int)+1)=(((pre++[c]).length:Nat):Int):=by
   rw[aV (by simp at hlen;omega)];simp
  refine ax fun R hR=>?_;simp only[NM,an,dY,List.length_map,VV,seval];refine⟨fun _=>⟨by simp;omega,?_⟩,fun h=>by simp at h<;>omega⟩;refine ai (lW c 2 (by decide) _) rfl ?_;simp only[Sl,dO,kq,eu,maxLen,hw,VV,seval];refine⟨⟨by omega,by omega⟩,?_⟩;refine hR _ (aW ?_ (ih (pre++[c]) (b++qu c) (g+1) (by simp) (by simp[eu];omega) ?_))
  ·repeat' constructor
  ·have e2:b++qu c++rest.flatMap qu=b++(c::rest).flatMap qu:=by simp
   rw[e2];exact h1
set_option maxHeartbeats 2000000 in
theorem pe(o:aJ)(hs:o.small)(σ:ag):PC prog 86 [.agg o.cells] σ (fun r σ'=>r=.iK [.sl 1 (al (encode o).1),.i .i64 (encode o).2]∧σ'=σ):=by
 refine PC.intro func86 c86 fun aQ cz=>aj ?_;have IN:=hs.seen;simp only[p86,SS,seval];simp only[aJ.cells,bc.cells,En.cells,VV,seval];refine ai (gp o hs _) rfl ?_;simp only[VV,seval];refine⟨fun h=>?_,fun h=>?_⟩
 ·have h:cw o≠0:=by simpa using h
  have e:encode o=([],cw o):=by simp only[encode,h,if_true,ne_eq,not_false_eq_true]
  rw[e];refine dv (ys:=[.sl 1 [],.i .i64 (cw o)]) aQ (.inr rfl) (by simp only[RS,seval];rfl) ?_ (by simp only[LW]) ⟨rfl,rfl⟩;exact .cons (.nil _) (.cons (.refl _) .nil)
 have h:cw o=0:=by simpa using h
 have e:encode o=(bX o,0):=by simp only[encode,h,ne_eq,not_true,if_false]
 rw[e];have rV:=hs.entry.bS;have vX:=hs.entry.next;have F3:=hs.cQ;have KF:=hs.cn;have hfs:=mG o.entry.source hs.entry.source hs.entry.gY (fun x hx=>hs.entry.ids x (by simp[hx]));have hft:=mG o.entry.target hs.entry.target hs.entry.o8 (fun x hx=>hs.entry.ids x (by simp[hx]));refine ai (lW o.aA.time 4 (by decide) _) rfl ?_;simp only[HT,yX,aaR,agA,YB,kq,dF,aD,maxLen,VV,Nat.reduceAdd,reduceIte];refine⟨⟨by omega,by omega⟩,⟨by omega,by omega⟩,?_⟩;refine ai (lW o.aA.number 2 (by decide) _) rfl ?_;simp only[Sl,yX,YB,dO,kq,eu,dF,List.length_append,ab,List.length_map,maxLen,VV,Nat.reduceAdd,reduceIte];refine⟨⟨by omega,by omega⟩,⟨by omega,by omega⟩,?_⟩;refine bA.aW ?_ (o.seen.length+1) (Y9 (.ptr σ.length 0) o.seen (by omega) o.seen [] _ 3 rfl (by simp[dF,eu];omega) ?_)
 ·repeat' constructor
 intros;generalize hB:(_++o.seen.flatMap qu:List UInt8)=B;have hBl:B.length<2^40:=by rw[← hB];simp[dF,eu,vx];omega
 simp only[VV,seval];refine ai (ur o.entry.source hs.entry.source hs.entry.gY (fun x hx=>hs.entry.ids x (by simp[hx])) _) rfl ?_;simp only[dO,kq,fY,maxLen,VV,seval];refine⟨⟨by omega,by omega⟩,?_⟩;refine ai (qb o.entry.bS (by omega) _) rfl ?_;simp only[dO,kq,List.length_append,fY,maxLen,VV,seval];refine⟨⟨by omega,by omega⟩,?_⟩;refine ai (qb o.entry.next (by omega) _) rfl ?_;simp only[dO,kq,List.length_append,fY,maxLen,VV,seval];refine⟨⟨by omega,by omega⟩,?_⟩;refine⟨fun qA=>?_,fun qA=>?_⟩
 ·have qA:o.kind=1:=by simpa using qA
  refine ai (ur o.entry.target hs.entry.target hs.entry.o8 (fun x hx=>hs.entry.ids x (by simp[hx])) _) rfl ?_;simp only[dO,kq,List.length_append,fY,maxLen,VV,seval];refine⟨⟨by omega,by omega⟩,?_⟩;refine ai (qb o.entry.cQ (by omega) _) rfl ?_;simp only[dO,kq,List.length_append,fY,maxLen,VV,seval];refine⟨⟨by omega,by omega⟩,?_⟩;refine ai (qb o.entry.cn (by omega) _) rfl ?_;simp only[dO,kq,List.length_append,fY,maxLen,VV,seval];refine⟨⟨by omega,by omega⟩,?_⟩;refine ai (lW o.entry.created 4 (by decide) _) rfl ?_;simp only[HT,yX,YB,dF,dO,kq,List.length_append,fY,maxLen,VV,seval];refine⟨⟨by omega,by omega⟩,⟨by omega,by omega⟩,?_⟩;refine gg 1 aQ (.inr rfl) (by simp only[RS,seval];rfl) rfl (by simp only[ay,az,fz,kc,and_self,if_true,LW]) ⟨?_,rfl⟩;simp only[Pm.one,ay,az,fz,kc,and_self,if_true];congr 3;simp[bX,qA,← hB]
 ·have qA:¬ o.kind=1:=by simpa using qA
  refine gg 1 aQ (.inr rfl) (by simp only[RS,seval];rfl) rfl (by simp only[ay,az,fz,kc,and_self,if_true,LW]) ⟨?_,rfl⟩;simp only[Pm.one,ay,az,fz,kc,and_self,if_true];congr 3;simp[bX,qA,← hB]
end Go.Proofs.Tryz

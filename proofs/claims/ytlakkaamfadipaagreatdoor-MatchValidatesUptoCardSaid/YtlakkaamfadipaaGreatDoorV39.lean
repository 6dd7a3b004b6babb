/- A part of a proof; the claim's last text says of what. -/
import Derived.Test.YtlakkaamfadipaaGreatDoorV5
import Derived.Test.YtlakkaamfadipaaGreatDoorV20
import Derived.Test.YtlakkaamfadipaaGreatDoorV28
set_option linter.all false

namespace Go.Proofs.Tryz
open Go Go.Pm Go.Bt
theorem Qt(n:Int)(h0 : -9223372036854775808≤n)(h1:n≤9223372036854775807)(J:ae):PC prog 240 [.i .i64 n] J (fun r J'=>r=.s (Lib.itoa n)∧J'=J):=by
 refine PC.MA fun B w0 w μ vs hB hv=>?_;have O3:=(hv.2 0 _ rfl).ey;have AY:vs=#[.int .i64 n]:=by rw[Y3 hv.1,O3]
 have hs:(prog.globalNamed "internal/strconv.uint64pow10").isSome=true:=by kernel_rfl
 obtain⟨g,hg⟩:=Option.isSome_iff_exists.1 hs;have ht:=hB.tab (t:=("internal/strconv.uint64pow10",.u64,xF)) (by simp[Px]) hg;rw[JC]at ht;refine⟨_,?_,fun w'=>Qu n h0 h1⟩;rw[AY];refine(Tryz.strconv_Itoa n h0 h1 w ht).mono ?_;rintro e w' ⟨he,k,os,rfl⟩;exact⟨he,CD w k os⟩
theorem PZ{n:Nat}{J ext:ae}{K:Exit→St→Prop}(s:List UInt8)(hlen:s.length<2^40):∀ (rest pre b:List UInt8) (g:Nat),s=pre++rest→b.length+4*rest.length<2^42 →
  ((fh (.own J.length (g+rest.length)) (fj 59 fo)) fun ZZ=>K (.exit 0) ⟨ZZ,J++(.row 5 1 1 (g+rest.length) false (dd (b++rest.flatMap dO))::ext)⟩) →
  fJ n prog xJ K (rest.length+1) ⟨(.own J.length g::.s s::uu 3 (.i .i64 pre.length::uu 54 [])),J++(.row 5 1 1 g false (dd b)::ext)⟩:=by
 intro rest
 induction rest with
 | nil =>
  intro pre b g he hb h1;have he:s=pre:=by simpa using he
  subst he;refine aD fun R hR=>?_;simp only[xJ,W,seval];simp only[List.flatMap_nil,bV,ay,dm]at h1;exact⟨fun h=>by simp at h,fun _=>h1 ..⟩
 | cons c rest ih =>
  intro pre b g he hb h1;subst he
  have hw:IntKind.i64.wrap ((pre.length:Int)+1)=(((pre++[c]).length:Nat):Int):=by
   rw[bu (by simp at hlen;omega)];simp
  have QN:pre++c::rest=(pre++[c])++rest:=by simp
  simp only[ag]at hb
  have next:∀ (t:List UInt8),dO c=t→t.length≤4→∀ {R:St→Prop} {fr:List V},(∀ st',fJ n prog xJ K (rest.length+1) st'→R st') →
    oY fr (.own J.length (g+1)::.s (pre++c::rest)::uu 3 (.i .i64 (pre++[c]).length::uu 54 []))→R ⟨fr,J++(.row 5 1 1 (g+1) false (dd (b++t))::ext)⟩:=by
   intro t ht hl R fr hR hc;have e1:b++(c::rest).flatMap dO=(b++t)++rest.flatMap dO:=by simp[ht]
   have e2:g+(c::rest).length=(g+1)+rest.length:=by simp;omega
   rw[e1,e2]at h1;refine hR _ ?_;exact bd hc (ih (pre++[c]) (b++t) (g+1) QN (by simp;omega) h1)
  have okA:∀ n:Nat,n≤4→((dd b).length+n)*1≤2^47∧(dd b).length+n≤maxLen:=fun n hn=>by simp only[dw,maxLen];omega
  have bv:∀ (t:List UInt8),dd b++dd t=dd (b++t):=fun t=>gQ;refine aD fun R hR=>?_;simp only[xJ,VV,seval];refine⟨fun _=>⟨by simp;omega,?_⟩,fun h=>by simp at h<;>omega⟩;refine aC (DK c _) rfl ?_;cases hp:oG c with
  | true =>
   simp only[VV,seval];refine⟨okA 1 (by omega),?_⟩;rw[show dd b++[[V.i .u8 c.toNat]]=dd (b++[c])from bv [c]];refine next [c] (by simp[dO,hp]) (by simp) hR ?_
   rw[hw];repeat' constructor
  | false =>
   by_cases c10:c=10
   ·simp only[I0 (k:=10) c10 rfl,VV,seval];refine⟨okA 2 (by omega),?_⟩;rw[show dd b++[[V.i .u8 92],[V.i .u8 110]]=dd (b++[92,110])from bv [92,110]];refine next [92,110] (by simp only[dO,hp,aI c10];rfl) (by simp) hR ?_
    rw[hw];repeat' constructor
   by_cases c9:c=9
   ·simp only[nP (k:=10) c10 rfl,I0 (k:=9) c9 rfl,VV,seval];refine⟨okA 2 (by omega),?_⟩;rw[show dd b++[[V.i .u8 92],[V.i .u8 116]]=dd (b++[92,116])from bv [92,116]];refine next [92,116] (by simp only[dO,hp,aw c10,aI c9];rfl) (by simp) hR ?_
    rw[hw];repeat' constructor
   by_cases cs:c=92∨c=60∨c=123
   ·have hs:((((c.toNat:Int)==92)||((c.toNat:Int)==60))||((c.toNat:Int)==123))=true:=by
     rcases cs with h | h | h<;>rw[h]<;>rfl
    simp only[nP (k:=10) c10 rfl,nP (k:=9) c9 rfl,hs,VV,seval];refine⟨okA 2 (by omega),?_⟩;rw[show dd b++[[V.i .u8 92],[V.i .u8 c.toNat]]=dd (b++[92,c])from bv [92,c]];refine next [92,c] (by simp only[dO,hp,aw c10,aw c9,aI cs];rfl) (by simp) hR ?_
    rw[hw];repeat' constructor
   ·have hs:((((c.toNat:Int)==92)||((c.toNat:Int)==60))||((c.toNat:Int)==123))=false:=by
     rw[nP (k:=92) (fun h=>cs (.inl h)) rfl,nP (k:=60) (fun h=>cs (.inr (.inl h))) rfl,nP (k:=123) (fun h=>cs (.inr (.inr h))) rfl];rfl
    have hi:=Yn c;have lo:=Ym c;simp only[nP (k:=10) c10 rfl,nP (k:=9) c9 rfl,hs,hi.2.2,lo.2.2,VV,Int.reduceBEq,Int.reduceBNe,Nat.reduceAdd,Nat.reduceSub,Nat.reduceLeDiff,Nat.reduceEqDiff,Int.reduceToNat,reduceIte,reduceCtorEq];refine⟨by simp,by simpa using⟨hi.1,hi.2.1⟩,by simpa using⟨lo.1,lo.2.1⟩,okA 4 (by omega),?_⟩;rw[show dd b++[[V.i .u8 92],[V.i .u8 120],[V.i .u8 (gq (c.toNat / 16)).toNat],[V.i .u8 (gq (c.toNat % 16)).toNat]]=dd (b++[92,120,gq (c.toNat / 16),gq (c.toNat % 16)])from bv [92,120,gq (c.toNat / 16),gq (c.toNat % 16)]];refine next [92,120,gq (c.toNat / 16),gq (c.toNat % 16)] (by simp only[dO,hp,aw c10,aw c9,aw cs];rfl) (by simp) hR ?_
    rw[hw];repeat' constructor
theorem Ae(b s:List UInt8)(g:Nat)(hlen:b.length+4*s.length<2^42)(J ext:ae):PC prog 241 [.own J.length g,.s s] (J++(.row 5 1 1 g false (dd b)::ext))
  (fun r J'=>r=.own J.length (g+s.length)∧J'=J++(.row 5 1 1 (g+s.length) false (dd (b++s.flatMap dO))::ext)):=by
 refine PC.intro func241 abO fun bz dH=>aB ?_;simp only[Wl,SS,seval];simp only[W,seval];refine cc.bd ?_ (s.length+1) (PZ s (by omega) s [] b g rfl hlen ?_)
 ·repeat' constructor
 ·simp only[JE];intros;simp only[W,seval];exact fM (.inr rfl) rfl (Wk.refl _ _) rfl ⟨rfl,rfl⟩
theorem P2{J:ae}{K:Exit→St→Prop}(its:List It)(bz:bK J)(hlen:its.length<2^40)(hid:∀ x∈its,-9223372036854775808≤x.id∧x.id≤9223372036854775807)(oL:∀ x∈its,1≤x.ahr∧x.ahr≤5):
  ∀ (rest pre:List It) (b:List UInt8) (g:Nat),its=pre++rest→b.length+4*aN rest+40*rest.length<2^42 →
  (∀ g,((fj 5 (fh (.own J.length g) (fj 69 fo))) fun ZZ=>K (.exit 0) ⟨ZZ,J++[.row 5 1 1 g false (dd (b++rest.flatMap dG))]⟩)) →
  fJ J.length prog xK K (rest.length+1) ⟨(uu 5 (.own J.length g::uu 8 (.sl 3 (its.map It.ahq)::.i .i64 its.length::.i .i64 pre.length::uu 58 []))),J++[.row 5 1 1 g false (dd b)]⟩:=by
 intro rest
 induction rest with
 | nil =>
  intro pre b g he hb h1;have he:its=pre:=by simpa using he
  subst he;refine aD fun R hR=>?_;simp only[xK,W,seval];simp only[List.flatMap_nil,bV]at h1;exact⟨fun h=>by simp at h,fun _=>h1 g ..⟩
 | cons x rest ih =>
  intro pre b g he hb h1;subst he
  have hw:IntKind.i64.wrap ((pre.length:Int)+1)=(((pre++[x]).length:Nat):Int):=by
   rw[bu (by simp at hlen;omega)];simp
  have QN:pre++x::rest=(pre++[x])++rest:=by simp
  simp only[aN,ag]at hb;have hx:=hid x (by simp);have hk:=oL x (by simp);have rz:=Lib.itoa_length_le x.id hx.1 hx.2
  have next:∀ (t:List UInt8) (g':Nat) {o:Ob},dG x=t→t.length≤4*x.aht.length+30→∀ {R:St→Prop} {fr:List V},(∀ st',fJ J.length prog xK K (rest.length+1) st'→R st') →
    oY fr (uu 5 (.own J.length g'::uu 8 (.sl 3 ((pre++x::rest).map It.ahq)::.i .i64 (pre++x::rest).length::.i .i64 (pre++[x]).length::uu 58 [])))→R ⟨fr,J++[.row 5 1 1 g' false (dd (b++t)),o]⟩:=by
   intro t g' o ht hl R fr hR hc;have e1:b++(x::rest).flatMap dG=(b++t)++rest.flatMap dG:=by simp[ht]
   rw[e1]at h1;refine hR _ (b7 [_] [_] (cv bz (by simp)) hc ?_ (ih (pre++[x]) (b++t) g' QN (by simp;omega) h1));simp only[LW,ag,ay,bo];omega
  have okA:∀ n:Nat,n≤x.aht.length+30→((dd b).length+n)*1≤2^47∧(dd b).length+n≤maxLen:=fun n hn=>by simp only[dw,maxLen];omega
  have ahE:∀ n:Nat,n≤x.aht.length+30→n≤maxLen:=fun n hn=>by simp only[maxLen];omega
  refine aD fun R hR=>?_;simp only[xK,It.ahq,VV,seval];refine⟨fun _=>⟨by simp;omega,?_⟩,fun h=>by simp at h<;>omega⟩;refine aC (Qt x.id hx.1 hx.2 _) rfl ?_;rcases(by omega:x.ahr=1∨x.ahr=2∨x.ahr=3∨x.ahr=4∨x.ahr=5)with h | h | h | h | h
  ·simp only[h,VV,seval];refine aC (Ae b x.aht g (by omega) J [_]) rfl ?_;simp only[VV,seval];refine next (x.aht.flatMap dO) (g+x.aht.length) (by simp only[dG,h,aO]) (by have:=Bb x.aht;omega) hR ?_
   rw[hw];repeat' constructor
  ·simp only[h,VV,seval];refine⟨ahE _ (by omega),ahE _ (by omega),ahE _ (by simp;omega),ahE _ (by simp;omega),okA _ (by simp only[dw,ag,ak,ay];omega),?_⟩;rw[gQ];refine next (60::(Lib.itoa x.id++58::(x.aht++[62]))) (g+1) (by simp[dG,h]) (by simp;omega) hR ?_
   rw[hw];repeat' constructor
  ·simp only[h,VV,seval];refine⟨ahE _ (by omega),ahE _ (by simp;omega),ahE _ (by simp;omega),ahE _ (by simp;omega),okA _ (by simp only[dw,ag,ak,ay];omega),?_⟩;rw[gQ];refine next (60::47::(Lib.itoa x.id++58::(x.aht++[62]))) (g+1) (by simp[dG,h]) (by simp;omega) hR ?_
   rw[hw];repeat' constructor
  ·simp only[h,VV,seval];refine⟨ahE _ (by omega),ahE _ (by omega),ahE _ (by simp;omega),ahE _ (by simp;omega),okA _ (by simp only[dw,ag,ak,ay];omega),?_⟩;rw[gQ];refine next (60::(Lib.itoa x.id++58::(x.aht++[47,62]))) (g+1) (by simp[dG,h]) (by simp;omega) hR ?_
   rw[hw];repeat' constructor
  ·simp only[h,VV,seval];refine⟨ahE _ (by omega),ahE _ (by first | omega | (simp;omega)),okA _ (by simp only[dw,ag,ak,ay];omega),?_⟩;rw[gQ];refine next (123::(x.aht++[125])) (g+1) (by simp[dG,h]) (by simp;omega) hR ?_
   rw[hw];repeat' constructor
theorem KH(its:List It)(hlen:its.length<2^30)(ht:aN its<2^30)(hid:∀ x∈its,-9223372036854775808≤x.id∧x.id≤9223372036854775807)(J:ae):PC prog 199 [.sl 3 (its.map It.ahq)] J (fun r J'=>r=.fu [.s (format its).1,.i .i64 (format its).2]∧J'=J):=by
 refine PC.intro func199 ab4 fun bz dH=>aB ?_;simp only[WB,SS,seval];simp only[VV,seval];refine aC (jR its _) rfl ?_;simp only[ah,VV,seval];refine⟨fun h=>?_,fun h=>?_⟩
 ·have h:bW its≠0:=by simpa using h
  exact aR (.inr rfl) rfl ⟨by simp only[format,h,aO,eX,cL];rfl,rfl⟩
 ·have h:bW its=0:=by simpa using h
  have e:format its=(its.flatMap dG,0):=by simp only[format,h,eX,fg,aJ]
  rw[e];refine cc.wk ((Wk.ko (k:=5) LX rfl).trans (Wk.iS ?_)) (cc.wy (its.length+1) (P2 its bz (by omega) hid (vO h) its [] [] 0 rfl (by simp only[ay];omega) ?_))
  ·simp only[W,seval]
   repeat' constructor
  ·intro g;simp only[JE];intros;simp only[ku,aW,W,seval];exact bk bz (.inr rfl) rfl (by simp[LW]) ⟨rfl,rfl⟩
theorem p7(e:En)(hs:e.ahE)(J:ae):PC prog 66 [.agg e.ahq] J (fun r J'=>r=.i .i64 (fk e)∧J'=J):=by
 refine PC.intro func66 c66 fun bz dH=>aB ?_;simp only[p66,SS,seval];simp only[En.ahq,VV,seval];refine aC (jR e.ahu _) rfl ?_;simp only[VV,seval];refine⟨fun h=>?_,fun h=>?_⟩
 ·have h:bW e.ahu≠0:=by simpa using h
  exact bk bz (.inr rfl) rfl (by simp[LW]) ⟨by simp only[fk,h,aO,eX,cL];rfl,rfl⟩
 have h1:bW e.ahu=0:=by simpa using h
 refine aC (jR e.ahB _) rfl ?_;simp only[VV,seval];refine⟨fun h=>?_,fun h=>?_⟩
 ·have h:bW e.ahB≠0:=by simpa using h
  refine bk bz (.inr rfl) rfl (by simp[LW]) ⟨?_,rfl⟩;simp only[fk,h1,h,aO,eX,cL,fg,aJ];rfl
 have h2:bW e.ahB=0:=by simpa using h
 refine aC (CQ e.ahu e.ahB (by have:=hs.ahu;omega) (by have:=hs.ahB;omega) (by have:=hs.wx;omega) (by have:=hs.Pv;omega) _) rfl ?_;simp only[ah,VV,seval];refine cn (by simp only[VV,seval]<;>rfl) (fun _=>vt (fO e.ahu e.ahB) e.ahu _) rfl ?_;simp only[VV,seval];refine cn (by simp only[VV,seval]<;>rfl) (fun _=>vt (gh e.ahu e.ahB) e.ahB _) rfl ?_;simp only[VV,seval]
 have Vy:qU e=!((((e.ahu.length:Int)==0)||!jy (fO e.ahu e.ahB) e.ahu)||!jy (gh e.ahu e.ahB) e.ahB):=by
  have:((e.ahu.length:Int)==0)=(e.ahu.length==0):=by rw[df];simp
  simp only[qU,this];cases(e.ahu.length==0)<;>cases jy (fO e.ahu e.ahB) e.ahu<;>cases jy (gh e.ahu e.ahB) e.ahB<;>rfl
 refine⟨fun h=>?_,fun h=>?_⟩
 ·rw[h]at Vy;refine bk bz (.inr rfl) rfl (by simp[LW]) ⟨?_,rfl⟩;simp only[fk,h1,h2,Vy,eX,fg,aJ];rfl
 rw[h]at Vy
 have e1:fk e=if(parse e.bM).2.2≠0 then(parse e.bM).2.2 else if(parse e.next).2.2≠0 then(parse e.next).2.2 else
   if(named e.cY&&named e.cE)=false then 4 else if e.ahD<0∨1073741824<e.ahD∨e.ahI<1∨3<e.ahI then 1 else 0:=by
  simp only[fk,h1,h2,Vy,eX,fg,aJ];rfl
 refine aC (ju e.bM (by have:=hs.bM;omega) _) rfl ?_;simp only[VV,seval];refine⟨fun h=>?_,fun h=>?_⟩
 ·have h:(parse e.bM).2.2≠0:=by simpa using h
  rw[e1,aI h];exact bk bz (.inr rfl) rfl (by simp[LW]) ⟨rfl,rfl⟩
 have h3:¬ (parse e.bM).2.2≠0:=by simpa using h
 refine aC (ju e.next (by have:=hs.next;omega) _) rfl ?_;simp only[VV,seval];refine⟨fun h=>?_,fun h=>?_⟩
 ·have h:(parse e.next).2.2≠0:=by simpa using h
  rw[e1,aw h3,aI h];exact bk bz (.inr rfl) rfl (by simp[LW]) ⟨rfl,rfl⟩
 have h4:¬ (parse e.next).2.2≠0:=by simpa using h
 rw[aw h3,aw h4]at e1;refine cn (by simp only[VV,seval]<;>rfl) (fun _=>jv e.cY _) rfl ?_;simp only[VV,seval];refine cn (by simp only[VV,seval]<;>rfl) (fun _=>jv e.cE _) rfl ?_;simp only[VV,seval]
 have X8:((!e.cY==[]&&!ahz e.cY)||(!e.cE==[]&&!ahz e.cE))=!(named e.cY&&named e.cE):=by
  simp only[named];cases e.cY==[]<;>cases e.cE==[]<;>cases ahz e.cY<;>cases ahz e.cE<;>rfl
 rw[X8];refine⟨fun h=>?_,fun h=>⟨fun h5=>?_,fun h5=>?_⟩⟩
 ·have h:(named e.cY&&named e.cE)=false:=by rw[cS]at h;exact h
  rw[e1,aI h];exact bk bz (.inr rfl) rfl (by simp[LW]) ⟨rfl,rfl⟩
 ·have h:¬ (named e.cY&&named e.cE)=false:=by rw[gy]at h;rw[h];simp
  have h5:e.ahD<0∨1073741824<e.ahD∨e.ahI<1∨3<e.ahI:=by
   simp at h5;omega
  rw[e1,aw h,aI h5];exact bk bz (.inr rfl) rfl (by simp[LW]) ⟨rfl,rfl⟩
 ·have h:¬ (named e.cY&&named e.cE)=false:=by rw[gy]at h;rw[h];simp
  have h5:¬ (e.ahD<0∨1073741824<e.ahD∨e.ahI<1∨3<e.ahI):=by
   simp at h5;omega
  rw[e1,aw h,aw h5];exact bk bz (.inr rfl) rfl (by simp[LW]) ⟨rfl,rfl⟩
theorem Gd(e:En)(hs:e.ahE)(J:ae):PC prog 130 [.agg e.ahq] J (fun r J'=>r=.s (Cq e)∧J'=J):=by
 refine PC.intro func130 acG fun bz dH=>aB ?_;simp only[Xc,SS,seval];simp only[En.ahq,VV,seval];refine aC (KH e.ahu hs.ahu hs.wx (fun x hx=>hs.ids x (by simp[hx])) _) rfl ?_;simp only[VV,seval];have hf:=GR e.ahu hs.ahu hs.wx (fun x hx=>hs.ids x (by simp[hx]));have h1:=hs.bM;have h2:=hs.next;refine⟨by simp[maxLen];omega,by simp[maxLen];omega,by simp[maxLen];omega,by simp[maxLen];omega,?_⟩;refine bk bz (.inr rfl) rfl (by simp[LW]) ⟨?_,rfl⟩;simp[Pm.one,Cq]
theorem JL(e:En)(hs:e.ahE)(J:ae):PC prog 67 [.agg e.ahq] J (fun r J'=>r=.s (ez e)∧J'=J):=by
 refine PC.intro func67 c67 fun bz dH=>aB ?_;simp only[p67,SS,seval];simp only[En.ahq,VV,seval];refine aC (p7 e hs _) rfl ?_;simp only[VV,seval];refine⟨fun h=>?_,fun h=>?_⟩
 ·have h:fk e≠0:=by simpa using h
  exact bk bz (.inr rfl) rfl (by simp[LW]) ⟨by simp only[ez,h,aO,eX,cL];rfl,rfl⟩
 ·have h:¬ fk e≠0:=by simpa using h
  refine aC (Gd e hs _) rfl ?_;simp only[VV,seval];exact bk bz (.inr rfl) rfl (by simp[LW]) ⟨by simp only[ez,aw h];rfl,rfl⟩
end Go.Proofs.Tryz

/- A part of a proof; the claim's last text says of what. -/
import Derived.Test.YtlakkaamfadipaaGreatDoorS5
import Derived.Test.YtlakkaamfadipaaGreatDoorS20
import Derived.Test.YtlakkaamfadipaaGreatDoorS27
set_option linter.all false

namespace Go.Proofs.Tryz
open Go Go.Pm Go.Bt
theorem Q0(n:Int)(h0 : -9223372036854775808≤n)(h1:n≤9223372036854775807)(J:ae):PC prog 240 [.i .i64 n] J (fun r J'=>r=.s (Lib.itoa n)∧J'=J):=by
 refine PC.G6 fun B w0 w μ vs hB hv=>?_;have Gl:=(hv.2 0 _ rfl).ei;have Af:vs=#[.int .i64 n]:=by rw[ZN hv.1,Gl]
 have hs:(prog.globalNamed "internal/strconv.uint64pow10").isSome=true:=by kernel_rfl
 obtain⟨g,hg⟩:=Option.isSome_iff_exists.1 hs;have ht:=hB.tab (t:=("internal/strconv.uint64pow10",.u64,yr)) (by simp[P6]) hg;rw[Kv]at ht;refine⟨_,?_,fun w'=>Q1 n h0 h1⟩;rw[Af];refine(Tryz.strconv_Itoa n h0 h1 w ht).mono ?_;rintro e w' ⟨he,k,os,rfl⟩;exact⟨he,Dk w k os⟩
theorem Qv{n:Nat}{J ext:ae}{K:Exit→St→Prop}(s:List UInt8)(hlen:s.length<2^40):∀ (rest pre b:List UInt8) (g:Nat),s=pre++rest→b.length+4*rest.length<2^42 →
  ((fh (.own J.length (g+rest.length)) (fj 59 fo)) fun ZZ=>K (.exit 0) ⟨ZZ,J++(.row 5 1 1 (g+rest.length) false (de (b++rest.flatMap ml))::ext)⟩) →
  fp n prog yw K (rest.length+1) ⟨(.own J.length g::.s s::uu 3 (.i .i64 pre.length::uu 54 [])),J++(.row 5 1 1 g false (de b)::ext)⟩:=by
 intro rest
 induction rest with
 | nil =>
  intro pre b g he hb h1;have he:s=pre:=by simpa using he
  subst he;refine aB fun R hR=>?_;simp only[yw,W,seval];simp only[List.flatMap_nil,bV,aC,dK]at h1;exact⟨fun h=>by simp at h,fun _=>h1 ..⟩
 | cons c rest ih =>
  intro pre b g he hb h1;subst he
  have hw:IntKind.i64.wrap ((pre.length:Int)+1)=(((pre++[c]).length:Nat):Int):=by
   rw[bd (by simp at hlen;omega)];simp
  have Rk:pre++c::rest=(pre++[c])++rest:=by simp
  simp only[ai]at hb
  have next:∀ (t:List UInt8),ml c=t→t.length≤4→∀ {R:St→Prop} {fr:List V},(∀ st',fp n prog yw K (rest.length+1) st'→R st') →
    nU fr (.own J.length (g+1)::.s (pre++c::rest)::uu 3 (.i .i64 (pre++[c]).length::uu 54 []))→R ⟨fr,J++(.row 5 1 1 (g+1) false (de (b++t))::ext)⟩:=by
   intro t ht hl R fr hR hc;have e1:b++(c::rest).flatMap ml=(b++t)++rest.flatMap ml:=by simp[ht]
   have e2:g+(c::rest).length=(g+1)+rest.length:=by simp;omega
   rw[e1,e2]at h1;refine hR _ ?_;exact aZ hc (ih (pre++[c]) (b++t) (g+1) Rk (by simp;omega) h1)
  have okA:∀ n:Nat,n≤4→((de b).length+n)*1≤2^47∧(de b).length+n≤maxLen:=fun n hn=>by simp only[dA,maxLen];omega
  have bv:∀ (t:List UInt8),de b++de t=de (b++t):=fun t=>gO;refine aB fun R hR=>?_;simp only[yw,VV,seval];refine⟨fun _=>⟨by simp;omega,?_⟩,fun h=>by simp at h<;>omega⟩;refine az (EC c _) rfl ?_;cases hp:uP c with
  | true =>
   simp only[VV,seval];refine⟨okA 1 (by omega),?_⟩;rw[show de b++[[V.i .u8 c.toNat]]=de (b++[c])from bv [c]];refine next [c] (by simp[ml,hp]) (by simp) hR ?_
   rw[hw];repeat' constructor
  | false =>
   by_cases c10:c=10
   ·simp only[JV (k:=10) c10 rfl,VV,seval];refine⟨okA 2 (by omega),?_⟩;rw[show de b++[[V.i .u8 92],[V.i .u8 110]]=de (b++[92,110])from bv [92,110]];refine next [92,110] (by simp only[ml,hp,bf c10];rfl) (by simp) hR ?_
    rw[hw];repeat' constructor
   by_cases c9:c=9
   ·simp only[nZ (k:=10) c10 rfl,JV (k:=9) c9 rfl,VV,seval];refine⟨okA 2 (by omega),?_⟩;rw[show de b++[[V.i .u8 92],[V.i .u8 116]]=de (b++[92,116])from bv [92,116]];refine next [92,116] (by simp only[ml,hp,aI c10,bf c9];rfl) (by simp) hR ?_
    rw[hw];repeat' constructor
   by_cases cs:c=92∨c=60∨c=123
   ·have hs:((((c.toNat:Int)==92)||((c.toNat:Int)==60))||((c.toNat:Int)==123))=true:=by
     rcases cs with h | h | h<;>rw[h]<;>rfl
    simp only[nZ (k:=10) c10 rfl,nZ (k:=9) c9 rfl,hs,VV,seval];refine⟨okA 2 (by omega),?_⟩;rw[show de b++[[V.i .u8 92],[V.i .u8 c.toNat]]=de (b++[92,c])from bv [92,c]];refine next [92,c] (by simp only[ml,hp,aI c10,aI c9,bf cs];rfl) (by simp) hR ?_
    rw[hw];repeat' constructor
   ·have hs:((((c.toNat:Int)==92)||((c.toNat:Int)==60))||((c.toNat:Int)==123))=false:=by
     rw[nZ (k:=92) (fun h=>cs (.inl h)) rfl,nZ (k:=60) (fun h=>cs (.inr (.inl h))) rfl,nZ (k:=123) (fun h=>cs (.inr (.inr h))) rfl];rfl
    have hi:=Y5 c;have lo:=Y4 c;simp only[nZ (k:=10) c10 rfl,nZ (k:=9) c9 rfl,hs,hi.2.2,lo.2.2,VV,Int.reduceBEq,Int.reduceBNe,Nat.reduceAdd,Nat.reduceSub,Nat.reduceLeDiff,Nat.reduceEqDiff,Int.reduceToNat,reduceIte,reduceCtorEq];refine⟨by simp,by simpa using⟨hi.1,hi.2.1⟩,by simpa using⟨lo.1,lo.2.1⟩,okA 4 (by omega),?_⟩;rw[show de b++[[V.i .u8 92],[V.i .u8 120],[V.i .u8 (lP (c.toNat / 16)).toNat],[V.i .u8 (lP (c.toNat % 16)).toNat]]=de (b++[92,120,lP (c.toNat / 16),lP (c.toNat % 16)])from bv [92,120,lP (c.toNat / 16),lP (c.toNat % 16)]];refine next [92,120,lP (c.toNat / 16),lP (c.toNat % 16)] (by simp only[ml,hp,aI c10,aI c9,aI cs];rfl) (by simp) hR ?_
    rw[hw];repeat' constructor
theorem AV(b s:List UInt8)(g:Nat)(hlen:b.length+4*s.length<2^42)(J ext:ae):PC prog 241 [.own J.length g,.s s] (J++(.row 5 1 1 g false (de b)::ext))
  (fun r J'=>r=.own J.length (g+s.length)∧J'=J++(.row 5 1 1 (g+s.length) false (de (b++s.flatMap ml))::ext)):=by
 refine PC.intro func241 acB fun bj dx=>ax ?_;simp only[WR,SS,seval];simp only[W,seval];refine b6.aZ ?_ (s.length+1) (Qv s (by omega) s [] b g rfl hlen ?_)
 ·repeat' constructor
 ·simp only[JE];intros;simp only[W,seval];exact eP (.inr rfl) rfl (Wk.refl _ _) rfl ⟨rfl,rfl⟩
theorem Qz{J:ae}{K:Exit→St→Prop}(its:List It)(bj:bG J)(hlen:its.length<2^40)(hid:∀ x∈its,-9223372036854775808≤x.id∧x.id≤9223372036854775807)(pe:∀ x∈its,1≤x.ah9∧x.ah9≤5):
  ∀ (rest pre:List It) (b:List UInt8) (g:Nat),its=pre++rest→b.length+4*aH rest+40*rest.length<2^42 →
  (∀ g,((fj 5 (fh (.own J.length g) (fj 69 fo))) fun ZZ=>K (.exit 0) ⟨ZZ,J++[.row 5 1 1 g false (de (b++rest.flatMap gF))]⟩)) →
  fp J.length prog yx K (rest.length+1) ⟨(uu 5 (.own J.length g::uu 8 (.sl 3 (its.map It.ah7)::.i .i64 its.length::.i .i64 pre.length::uu 58 []))),J++[.row 5 1 1 g false (de b)]⟩:=by
 intro rest
 induction rest with
 | nil =>
  intro pre b g he hb h1;have he:its=pre:=by simpa using he
  subst he;refine aB fun R hR=>?_;simp only[yx,W,seval];simp only[List.flatMap_nil,bV]at h1;exact⟨fun h=>by simp at h,fun _=>h1 g ..⟩
 | cons x rest ih =>
  intro pre b g he hb h1;subst he
  have hw:IntKind.i64.wrap ((pre.length:Int)+1)=(((pre++[x]).length:Nat):Int):=by
   rw[bd (by simp at hlen;omega)];simp
  have Rk:pre++x::rest=(pre++[x])++rest:=by simp
  simp only[aH,ai]at hb;have hx:=hid x (by simp);have hk:=pe x (by simp);have r8:=Lib.itoa_length_le x.id hx.1 hx.2
  have next:∀ (t:List UInt8) (g':Nat) {o:Ob},gF x=t→t.length≤4*x.aib.length+30→∀ {R:St→Prop} {fr:List V},(∀ st',fp J.length prog yx K (rest.length+1) st'→R st') →
    nU fr (uu 5 (.own J.length g'::uu 8 (.sl 3 ((pre++x::rest).map It.ah7)::.i .i64 (pre++x::rest).length::.i .i64 (pre++[x]).length::uu 58 [])))→R ⟨fr,J++[.row 5 1 1 g' false (de (b++t)),o]⟩:=by
   intro t g' o ht hl R fr hR hc;have e1:b++(x::rest).flatMap gF=(b++t)++rest.flatMap gF:=by simp[ht]
   rw[e1]at h1;refine hR _ (b5 [_] [_] (cj bj (by simp)) hc ?_ (ih (pre++[x]) (b++t) g' Rk (by simp;omega) h1));simp only[LW,ai,aC,bz];omega
  have okA:∀ n:Nat,n≤x.aib.length+30→((de b).length+n)*1≤2^47∧(de b).length+n≤maxLen:=fun n hn=>by simp only[dA,maxLen];omega
  have aik:∀ n:Nat,n≤x.aib.length+30→n≤maxLen:=fun n hn=>by simp only[maxLen];omega
  refine aB fun R hR=>?_;simp only[yx,It.ah7,VV,seval];refine⟨fun _=>⟨by simp;omega,?_⟩,fun h=>by simp at h<;>omega⟩;refine az (Q0 x.id hx.1 hx.2 _) rfl ?_;rcases(by omega:x.ah9=1∨x.ah9=2∨x.ah9=3∨x.ah9=4∨x.ah9=5)with h | h | h | h | h
  ·simp only[h,VV,seval];refine az (AV b x.aib g (by omega) J [_]) rfl ?_;simp only[VV,seval];refine next (x.aib.flatMap ml) (g+x.aib.length) (by simp only[gF,h,aL]) (by have:=BO x.aib;omega) hR ?_
   rw[hw];repeat' constructor
  ·simp only[h,VV,seval];refine⟨aik _ (by omega),aik _ (by omega),aik _ (by simp;omega),aik _ (by simp;omega),okA _ (by simp only[dA,ai,al,aC];omega),?_⟩;rw[gO];refine next (60::(Lib.itoa x.id++58::(x.aib++[62]))) (g+1) (by simp[gF,h]) (by simp;omega) hR ?_
   rw[hw];repeat' constructor
  ·simp only[h,VV,seval];refine⟨aik _ (by omega),aik _ (by simp;omega),aik _ (by simp;omega),aik _ (by simp;omega),okA _ (by simp only[dA,ai,al,aC];omega),?_⟩;rw[gO];refine next (60::47::(Lib.itoa x.id++58::(x.aib++[62]))) (g+1) (by simp[gF,h]) (by simp;omega) hR ?_
   rw[hw];repeat' constructor
  ·simp only[h,VV,seval];refine⟨aik _ (by omega),aik _ (by omega),aik _ (by simp;omega),aik _ (by simp;omega),okA _ (by simp only[dA,ai,al,aC];omega),?_⟩;rw[gO];refine next (60::(Lib.itoa x.id++58::(x.aib++[47,62]))) (g+1) (by simp[gF,h]) (by simp;omega) hR ?_
   rw[hw];repeat' constructor
  ·simp only[h,VV,seval];refine⟨aik _ (by omega),aik _ (by first | omega | (simp;omega)),okA _ (by simp only[dA,ai,al,aC];omega),?_⟩;rw[gO];refine next (123::(x.aib++[125])) (g+1) (by simp[gF,h]) (by simp;omega) hR ?_
   rw[hw];repeat' constructor
theorem LF(its:List It)(hlen:its.length<2^30)(ht:aH its<2^30)(hid:∀ x∈its,-9223372036854775808≤x.id∧x.id≤9223372036854775807)(J:ae):PC prog 199 [.sl 3 (its.map It.ah7)] J (fun r J'=>r=.fi [.s (format its).1,.i .i64 (format its).2]∧J'=J):=by
 refine PC.intro func199 acW fun bj dx=>ax ?_;simp only[Xc,SS,seval];simp only[VV,seval];refine az (jO its _) rfl ?_;simp only[ag,VV,seval];refine⟨fun h=>?_,fun h=>?_⟩
 ·have h:bX its≠0:=by simpa using h
  exact aU (.inr rfl) rfl ⟨by simp only[format,h,aL,gm,eQ];rfl,rfl⟩
 ·have h:bX its=0:=by simpa using h
  have e:format its=(its.flatMap gF,0):=by simp only[format,h,gm,jw,aK]
  rw[e];refine b6.wk ((Wk.iy (k:=5) MJ rfl).trans (Wk.gA ?_)) (b6.vP (its.length+1) (Qz its bj (by omega) hid (wT h) its [] [] 0 rfl (by simp only[aC];omega) ?_))
  ·simp only[W,seval]
   repeat' constructor
  ·intro g;simp only[JE];intros;simp only[kz,bk,W,seval];exact bF bj (.inr rfl) rfl (by simp[LW]) ⟨rfl,rfl⟩
theorem qu(e:En)(hs:e.aik)(J:ae):PC prog 66 [.agg e.ah7] J (fun r J'=>r=.i .i64 (eB e)∧J'=J):=by
 refine PC.intro func66 c66 fun bj dx=>ax ?_;simp only[p66,SS,seval];simp only[En.ah7,VV,seval];refine az (jO e.aia _) rfl ?_;simp only[VV,seval];refine⟨fun h=>?_,fun h=>?_⟩
 ·have h:bX e.aia≠0:=by simpa using h
  exact bF bj (.inr rfl) rfl (by simp[LW]) ⟨by simp only[eB,h,aL,gm,eQ];rfl,rfl⟩
 have h1:bX e.aia=0:=by simpa using h
 refine az (jO e.aii _) rfl ?_;simp only[VV,seval];refine⟨fun h=>?_,fun h=>?_⟩
 ·have h:bX e.aii≠0:=by simpa using h
  refine bF bj (.inr rfl) rfl (by simp[LW]) ⟨?_,rfl⟩;simp only[eB,h1,h,aL,gm,eQ,jw,aK];rfl
 have h2:bX e.aii=0:=by simpa using h
 refine az (Dx e.aia e.aii (by have:=hs.aia;omega) (by have:=hs.aii;omega) (by have:=hs.xy;omega) (by have:=hs.P4;omega) _) rfl ?_;simp only[ag,VV,seval];refine cu (by simp only[VV,seval]<;>rfl) (fun _=>wu (eu e.aia e.aii) e.aia _) rfl ?_;simp only[VV,seval];refine cu (by simp only[VV,seval]<;>rfl) (fun _=>wu (eF e.aia e.aii) e.aii _) rfl ?_;simp only[VV,seval]
 have Td:l8 e=!((((e.aia.length:Int)==0)||!ju (eu e.aia e.aii) e.aia)||!ju (eF e.aia e.aii) e.aii):=by
  have:((e.aia.length:Int)==0)=(e.aia.length==0):=by rw[gP];simp
  simp only[l8,this];cases(e.aia.length==0)<;>cases ju (eu e.aia e.aii) e.aia<;>cases ju (eF e.aia e.aii) e.aii<;>rfl
 refine⟨fun h=>?_,fun h=>?_⟩
 ·rw[h]at Td;refine bF bj (.inr rfl) rfl (by simp[LW]) ⟨?_,rfl⟩;simp only[eB,h1,h2,Td,gm,jw,aK];rfl
 rw[h]at Td
 have e1:eB e=if(parse e.bQ).2.2≠0 then(parse e.bQ).2.2 else if(parse e.next).2.2≠0 then(parse e.next).2.2 else
   if(named e.cJ&&named e.b8)=false then 4 else if e.aif<0∨1073741824<e.aif∨e.ail<1∨3<e.ail then 1 else 0:=by
  simp only[eB,h1,h2,Td,gm,jw,aK];rfl
 refine az (jo e.bQ (by have:=hs.bQ;omega) _) rfl ?_;simp only[VV,seval];refine⟨fun h=>?_,fun h=>?_⟩
 ·have h:(parse e.bQ).2.2≠0:=by simpa using h
  rw[e1,bf h];exact bF bj (.inr rfl) rfl (by simp[LW]) ⟨rfl,rfl⟩
 have h3:¬ (parse e.bQ).2.2≠0:=by simpa using h
 refine az (jo e.next (by have:=hs.next;omega) _) rfl ?_;simp only[VV,seval];refine⟨fun h=>?_,fun h=>?_⟩
 ·have h:(parse e.next).2.2≠0:=by simpa using h
  rw[e1,aI h3,bf h];exact bF bj (.inr rfl) rfl (by simp[LW]) ⟨rfl,rfl⟩
 have h4:¬ (parse e.next).2.2≠0:=by simpa using h
 rw[aI h3,aI h4]at e1;refine cu (by simp only[VV,seval]<;>rfl) (fun _=>jq e.cJ _) rfl ?_;simp only[VV,seval];refine cu (by simp only[VV,seval]<;>rfl) (fun _=>jq e.b8 _) rfl ?_;simp only[VV,seval]
 have YQ:((!e.cJ==[]&&!ain e.cJ)||(!e.b8==[]&&!ain e.b8))=!(named e.cJ&&named e.b8):=by
  simp only[named];cases e.cJ==[]<;>cases e.b8==[]<;>cases ain e.cJ<;>cases ain e.b8<;>rfl
 rw[YQ];refine⟨fun h=>?_,fun h=>⟨fun h5=>?_,fun h5=>?_⟩⟩
 ·have h:(named e.cJ&&named e.b8)=false:=by rw[dm]at h;exact h
  rw[e1,bf h];exact bF bj (.inr rfl) rfl (by simp[LW]) ⟨rfl,rfl⟩
 ·have h:¬ (named e.cJ&&named e.b8)=false:=by rw[mS]at h;rw[h];simp
  have h5:e.aif<0∨1073741824<e.aif∨e.ail<1∨3<e.ail:=by
   simp at h5;omega
  rw[e1,aI h,bf h5];exact bF bj (.inr rfl) rfl (by simp[LW]) ⟨rfl,rfl⟩
 ·have h:¬ (named e.cJ&&named e.b8)=false:=by rw[mS]at h;rw[h];simp
  have h5:¬ (e.aif<0∨1073741824<e.aif∨e.ail<1∨3<e.ail):=by
   simp at h5;omega
  rw[e1,aI h,aI h5];exact bF bj (.inr rfl) rfl (by simp[LW]) ⟨rfl,rfl⟩
theorem Hd(e:En)(hs:e.aik)(J:ae):PC prog 130 [.agg e.ah7] J (fun r J'=>r=.s (C8 e)∧J'=J):=by
 refine PC.intro func130 adA fun bj dx=>ax ?_;simp only[XP,SS,seval];simp only[En.ah7,VV,seval];refine az (LF e.aia hs.aia hs.xy (fun x hx=>hs.ids x (by simp[hx])) _) rfl ?_;simp only[VV,seval];have hf:=HK e.aia hs.aia hs.xy (fun x hx=>hs.ids x (by simp[hx]));have h1:=hs.bQ;have h2:=hs.next;refine⟨by simp[maxLen];omega,by simp[maxLen];omega,by simp[maxLen];omega,by simp[maxLen];omega,?_⟩;refine bF bj (.inr rfl) rfl (by simp[LW]) ⟨?_,rfl⟩;simp[Pm.one,C8]
theorem KE(e:En)(hs:e.aik)(J:ae):PC prog 67 [.agg e.ah7] J (fun r J'=>r=.s (ek e)∧J'=J):=by
 refine PC.intro func67 c67 fun bj dx=>ax ?_;simp only[p67,SS,seval];simp only[En.ah7,VV,seval];refine az (qu e hs _) rfl ?_;simp only[VV,seval];refine⟨fun h=>?_,fun h=>?_⟩
 ·have h:eB e≠0:=by simpa using h
  exact bF bj (.inr rfl) rfl (by simp[LW]) ⟨by simp only[ek,h,aL,gm,eQ];rfl,rfl⟩
 ·have h:¬ eB e≠0:=by simpa using h
  refine az (Hd e hs _) rfl ?_;simp only[VV,seval];exact bF bj (.inr rfl) rfl (by simp[LW]) ⟨by simp only[ek,aI h];rfl,rfl⟩
end Go.Proofs.Tryz

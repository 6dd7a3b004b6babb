/- A part of a proof; the claim's last text says of what. -/
import Derived.Test.YtlakkaamfadipaaGreatDoorL6
import Derived.Test.YtlakkaamfadipaaGreatDoorL21
import Derived.Test.YtlakkaamfadipaaGreatDoorL28
set_option linter.all false

namespace Go.Proofs.Tryz
open Go Go.Pm Go.Bt
theorem NC(n:Int)(h0 : -9223372036854775808≤n)(h1:n≤9223372036854775807)(J:ae):PC prog 240 [.i .i64 n] J (fun r J'=>r=.s (Lib.itoa n)∧J'=J):=by
 refine PC.JZ fun B w0 w μ vs hB hv=>?_;have UO:=(hv.2 0 _ rfl).dI;have s8:vs=#[.int .i64 n]:=by rw[Wb hv.1,UO]
 have hs:(prog.globalNamed "internal/strconv.uint64pow10").isSome=true:=by kernel_rfl
 obtain⟨g,hg⟩:=lH.1 hs;have ht:=hB.tab (t:=("internal/strconv.uint64pow10",.u64,vV)) (by simp[MG]) hg;rw[Hv]at ht;refine⟨_,?_,fun w'=>ND n h0 h1⟩;rw[s8];refine(Tryz.strconv_Itoa n h0 h1 w ht).mono ?_;rintro e w' ⟨he,k,os,rfl⟩;exact⟨he,AW w k os⟩
theorem Nc{n:Nat}{J ext:ae}{K:Exit→St→Prop}(s:List UInt8)(hlen:s.length<2^40):∀ (rest pre b:List UInt8) (g:Nat),s=pre++rest→b.length+4*rest.length<2^42 →
  ((fh (.own J.length (g+rest.length)) (fj 59 fo)) fun ZZ=>K (.exit 0) ⟨ZZ,J++(.row 5 1 1 (g+rest.length) false (cN (b++rest.flatMap lP))::ext)⟩) →
  gw n prog vY K (rest.length+1) ⟨(.own J.length g::.s s::uu 3 (.i .i64 pre.length::uu 54 [])),J++(.row 5 1 1 g false (cN b)::ext)⟩:=by
 intro rest
 induction rest with
 | nil =>
  intro pre b g he hb h1;have he:s=pre:=by simpa using he
  subst he;refine aH fun R hR=>?_;simp only[vY,W,seval];simp only[List.flatMap_nil,bF,aK,eA]at h1;exact⟨fun h=>by simp at h,fun _=>h1 ..⟩
 | cons c rest ih =>
  intro pre b g he hb h1;subst he
  have hw:IntKind.i64.wrap ((pre.length:Int)+1)=(((pre++[c]).length:Nat):Int):=by
   rw[br (by simp at hlen;omega)];simp
  have NU:pre++c::rest=(pre++[c])++rest:=by simp
  simp only[ai]at hb
  have next:∀ (t:List UInt8),lP c=t→t.length≤4→∀ {R:St→Prop} {fr:List V},(∀ st',gw n prog vY K (rest.length+1) st'→R st') →
    qJ fr (.own J.length (g+1)::.s (pre++c::rest)::uu 3 (.i .i64 (pre++[c]).length::uu 54 []))→R ⟨fr,J++(.row 5 1 1 (g+1) false (cN (b++t))::ext)⟩:=by
   intro t ht hl R fr hR hc;have e1:b++(c::rest).flatMap lP=(b++t)++rest.flatMap lP:=by simp[ht]
   have e2:g+(c::rest).length=(g+1)+rest.length:=by simp;omega
   rw[e1,e2]at h1;refine hR _ ?_;exact bk hc (ih (pre++[c]) (b++t) (g+1) NU (by simp;omega) h1)
  have okA:∀ n:Nat,n≤4→((cN b).length+n)*1≤2^47∧(cN b).length+n≤maxLen:=fun n hn=>by simp only[dd,maxLen];omega
  have bv:∀ (t:List UInt8),cN b++cN t=cN (b++t):=fun t=>gj;refine aH fun R hR=>?_;simp only[vY,VV,seval];refine⟨fun _=>⟨by simp;omega,?_⟩,fun h=>by simp at h<;>omega⟩;refine aA (B8 c _) rfl ?_;cases hp:sK c with
  | true =>
   simp only[VV,seval];refine⟨okA 1 (by omega),?_⟩;rw[show cN b++[[V.i .u8 c.toNat]]=cN (b++[c])from bv [c]];refine next [c] (by simp[lP,hp]) (by simp) hR ?_
   rw[hw];repeat' constructor
  | false =>
   by_cases c10:c=10
   ·simp only[GY (k:=10) c10 rfl,VV,seval];refine⟨okA 2 (by omega),?_⟩;rw[show cN b++[[V.i .u8 92],[V.i .u8 110]]=cN (b++[92,110])from bv [92,110]];refine next [92,110] (by simp only[lP,hp,aQ c10];rfl) (by simp) hR ?_
    rw[hw];repeat' constructor
   by_cases c9:c=9
   ·simp only[mQ (k:=10) c10 rfl,GY (k:=9) c9 rfl,VV,seval];refine⟨okA 2 (by omega),?_⟩;rw[show cN b++[[V.i .u8 92],[V.i .u8 116]]=cN (b++[92,116])from bv [92,116]];refine next [92,116] (by simp only[lP,hp,aC c10,aQ c9];rfl) (by simp) hR ?_
    rw[hw];repeat' constructor
   by_cases cs:c=92∨c=60∨c=123
   ·have hs:((((c.toNat:Int)==92)||((c.toNat:Int)==60))||((c.toNat:Int)==123))=true:=by
     rcases cs with h | h | h<;>rw[h]<;>rfl
    simp only[mQ (k:=10) c10 rfl,mQ (k:=9) c9 rfl,hs,VV,seval];refine⟨okA 2 (by omega),?_⟩;rw[show cN b++[[V.i .u8 92],[V.i .u8 c.toNat]]=cN (b++[92,c])from bv [92,c]];refine next [92,c] (by simp only[lP,hp,aC c10,aC c9,aQ cs];rfl) (by simp) hR ?_
    rw[hw];repeat' constructor
   ·have hs:((((c.toNat:Int)==92)||((c.toNat:Int)==60))||((c.toNat:Int)==123))=false:=by
     rw[mQ (k:=92) (fun h=>cs (.inl h)) rfl,mQ (k:=60) (fun h=>cs (.inr (.inl h))) rfl,mQ (k:=123) (fun h=>cs (.inr (.inr h))) rfl];rfl
    have hi:=Vp c;have lo:=Vo c;simp only[mQ (k:=10) c10 rfl,mQ (k:=9) c9 rfl,hs,hi.2.2,lo.2.2,VV,Int.reduceBEq,Int.reduceBNe,Nat.reduceAdd,Nat.reduceSub,Nat.reduceLeDiff,Nat.reduceEqDiff,Int.reduceToNat,reduceIte,reduceCtorEq];refine⟨by simp,by simpa using⟨hi.1,hi.2.1⟩,by simpa using⟨lo.1,lo.2.1⟩,okA 4 (by omega),?_⟩;rw[show cN b++[[V.i .u8 92],[V.i .u8 120],[V.i .u8 (ll (c.toNat / 16)).toNat],[V.i .u8 (ll (c.toNat % 16)).toNat]]=cN (b++[92,120,ll (c.toNat / 16),ll (c.toNat % 16)])from bv [92,120,ll (c.toNat / 16),ll (c.toNat % 16)]];refine next [92,120,ll (c.toNat / 16),ll (c.toNat % 16)] (by simp only[lP,hp,aC c10,aC c9,aC cs];rfl) (by simp) hR ?_
    rw[hw];repeat' constructor
theorem yn(b s:List UInt8)(g:Nat)(hlen:b.length+4*s.length<2^42)(J ext:ae):PC prog 241 [.own J.length g,.s s] (J++(.row 5 1 1 g false (cN b)::ext))
  (fun r J'=>r=.own J.length (g+s.length)∧J'=J++(.row 5 1 1 (g+s.length) false (cN (b++s.flatMap lP))::ext)):=by
 refine PC.intro func241 Zg fun bz er=>aB ?_;simp only[To,SS,seval];simp only[W,seval];refine cE.bk ?_ (s.length+1) (Nc s (by omega) s [] b g rfl hlen ?_)
 ·repeat' constructor
 ·simp only[JE];intros;simp only[W,seval];exact fO (.inr rfl) rfl (Wk.refl _ _) rfl ⟨rfl,rfl⟩
theorem Nh{J:ae}{K:Exit→St→Prop}(its:List It)(bz:bG J)(hlen:its.length<2^40)(hid:∀ x∈its,-9223372036854775808≤x.id∧x.id≤9223372036854775807)(nP:∀ x∈its,1≤x.aep∧x.aep≤5):
  ∀ (rest pre:List It) (b:List UInt8) (g:Nat),its=pre++rest→b.length+4*bP rest+40*rest.length<2^42 →
  (∀ g,((fj 5 (fh (.own J.length g) (fj 69 fo))) fun ZZ=>K (.exit 0) ⟨ZZ,J++[.row 5 1 1 g false (cN (b++rest.flatMap fW))]⟩)) →
  gw J.length prog vZ K (rest.length+1) ⟨(uu 5 (.own J.length g::uu 8 (.sl 3 (its.map It.aen)::.i .i64 its.length::.i .i64 pre.length::uu 58 []))),J++[.row 5 1 1 g false (cN b)]⟩:=by
 intro rest
 induction rest with
 | nil =>
  intro pre b g he hb h1;have he:its=pre:=by simpa using he
  subst he;refine aH fun R hR=>?_;simp only[vZ,W,seval];simp only[List.flatMap_nil,bF]at h1;exact⟨fun h=>by simp at h,fun _=>h1 g ..⟩
 | cons x rest ih =>
  intro pre b g he hb h1;subst he
  have hw:IntKind.i64.wrap ((pre.length:Int)+1)=(((pre++[x]).length:Nat):Int):=by
   rw[br (by simp at hlen;omega)];simp
  have NU:pre++x::rest=(pre++[x])++rest:=by simp
  simp only[bP,ai]at hb;have hx:=hid x (by simp);have hk:=nP x (by simp);have u5:=Lib.itoa_length_le x.id hx.1 hx.2
  have next:∀ (t:List UInt8) (g':Nat) {o:Ob},fW x=t→t.length≤4*x.aer.length+30→∀ {R:St→Prop} {fr:List V},(∀ st',gw J.length prog vZ K (rest.length+1) st'→R st') →
    qJ fr (uu 5 (.own J.length g'::uu 8 (.sl 3 ((pre++x::rest).map It.aen)::.i .i64 (pre++x::rest).length::.i .i64 (pre++[x]).length::uu 58 [])))→R ⟨fr,J++[.row 5 1 1 g' false (cN (b++t)),o]⟩:=by
   intro t g' o ht hl R fr hR hc;have e1:b++(x::rest).flatMap fW=(b++t)++rest.flatMap fW:=by simp[ht]
   rw[e1]at h1;refine hR _ (bR [_] [_] (ck bz (by simp)) hc ?_ (ih (pre++[x]) (b++t) g' NU (by simp;omega) h1));simp only[LW,ai,aK,bj];omega
  have okA:∀ n:Nat,n≤x.aer.length+30→((cN b).length+n)*1≤2^47∧(cN b).length+n≤maxLen:=fun n hn=>by simp only[dd,maxLen];omega
  have aew:∀ n:Nat,n≤x.aer.length+30→n≤maxLen:=fun n hn=>by simp only[maxLen];omega
  refine aH fun R hR=>?_;simp only[vZ,It.aen,VV,seval];refine⟨fun _=>⟨by simp;omega,?_⟩,fun h=>by simp at h<;>omega⟩;refine aA (NC x.id hx.1 hx.2 _) rfl ?_;rcases(by omega:x.aep=1∨x.aep=2∨x.aep=3∨x.aep=4∨x.aep=5)with h | h | h | h | h
  ·simp only[h,VV,seval];refine aA (yn b x.aer g (by omega) J [_]) rfl ?_;simp only[VV,seval];refine next (x.aer.flatMap lP) (g+x.aer.length) (by simp only[fW,h,aR]) (by have:=zp x.aer;omega) hR ?_
   rw[hw];repeat' constructor
  ·simp only[h,VV,seval];refine⟨aew _ (by omega),aew _ (by omega),aew _ (by simp;omega),aew _ (by simp;omega),okA _ (by simp only[dd,ai,al,aK];omega),?_⟩;rw[gj];refine next (60::(Lib.itoa x.id++58::(x.aer++[62]))) (g+1) (by simp[fW,h]) (by simp;omega) hR ?_
   rw[hw];repeat' constructor
  ·simp only[h,VV,seval];refine⟨aew _ (by omega),aew _ (by simp;omega),aew _ (by simp;omega),aew _ (by simp;omega),okA _ (by simp only[dd,ai,al,aK];omega),?_⟩;rw[gj];refine next (60::47::(Lib.itoa x.id++58::(x.aer++[62]))) (g+1) (by simp[fW,h]) (by simp;omega) hR ?_
   rw[hw];repeat' constructor
  ·simp only[h,VV,seval];refine⟨aew _ (by omega),aew _ (by omega),aew _ (by simp;omega),aew _ (by simp;omega),okA _ (by simp only[dd,ai,al,aK];omega),?_⟩;rw[gj];refine next (60::(Lib.itoa x.id++58::(x.aer++[47,62]))) (g+1) (by simp[fW,h]) (by simp;omega) hR ?_
   rw[hw];repeat' constructor
  ·simp only[h,VV,seval];refine⟨aew _ (by omega),aew _ (by first | omega | (simp;omega)),okA _ (by simp only[dd,ai,al,aK];omega),?_⟩;rw[gj];refine next (123::(x.aer++[125])) (g+1) (by simp[fW,h]) (by simp;omega) hR ?_
   rw[hw];repeat' constructor
theorem Ix(its:List It)(hlen:its.length<2^30)(ht:bP its<2^30)(hid:∀ x∈its,-9223372036854775808≤x.id∧x.id≤9223372036854775807)(J:ae):PC prog 199 [.sl 3 (its.map It.aen)] J (fun r J'=>r=.fa [.s (format its).1,.i .i64 (format its).2]∧J'=J):=by
 refine PC.intro func199 Zx fun bz er=>aB ?_;simp only[TF,SS,seval];simp only[VV,seval];refine aA (jh its _) rfl ?_;simp only[aj,VV,seval];refine⟨fun h=>?_,fun h=>?_⟩
 ·have h:b6 its≠0:=by simpa using h
  exact a6 (.inr rfl) rfl ⟨by simp only[format,h,aR,gC,dS];rfl,rfl⟩
 ·have h:b6 its=0:=by simpa using h
  have e:format its=(its.flatMap fW,0):=by simp only[format,h,gC,kz,aO]
  rw[e];refine cE.wk ((Wk.pA (k:=5) Jn rfl).trans (Wk.kP ?_)) (cE.BX (its.length+1) (Nh its bz (by omega) hid (uv h) its [] [] 0 rfl (by simp only[aK];omega) ?_))
  ·simp only[W,seval]
   repeat' constructor
  ·intro g;simp only[JE];intros;simp only[jP,bh,W,seval];exact bu bz (.inr rfl) rfl (by simp[LW]) ⟨rfl,rfl⟩
theorem jI(e:En)(hs:e.aew)(J:ae):PC prog 66 [.agg e.aen] J (fun r J'=>r=.i .i64 (cG e)∧J'=J):=by
 refine PC.intro func66 c66 fun bz er=>aB ?_;simp only[p66,SS,seval];simp only[En.aen,VV,seval];refine aA (jh e.aeq _) rfl ?_;simp only[VV,seval];refine⟨fun h=>?_,fun h=>?_⟩
 ·have h:b6 e.aeq≠0:=by simpa using h
  exact bu bz (.inr rfl) rfl (by simp[LW]) ⟨by simp only[cG,h,aR,gC,dS];rfl,rfl⟩
 have h1:b6 e.aeq=0:=by simpa using h
 refine aA (jh e.aex _) rfl ?_;simp only[VV,seval];refine⟨fun h=>?_,fun h=>?_⟩
 ·have h:b6 e.aex≠0:=by simpa using h
  refine bu bz (.inr rfl) rfl (by simp[LW]) ⟨?_,rfl⟩;simp only[cG,h1,h,aR,gC,dS,kz,aO];rfl
 have h2:b6 e.aex=0:=by simpa using h
 refine aA (A9 e.aeq e.aex (by have:=hs.aeq;omega) (by have:=hs.aex;omega) (by have:=hs.px;omega) (by have:=hs.ME;omega) _) rfl ?_;simp only[aj,VV,seval];refine cL (by simp only[VV,seval]<;>rfl) (fun _=>tZ (xo e.aeq e.aex) e.aeq _) rfl ?_;simp only[VV,seval];refine cL (by simp only[VV,seval]<;>rfl) (fun _=>tZ (xn e.aeq e.aex) e.aex _) rfl ?_;simp only[VV,seval]
 have WB:vh e=!((((e.aeq.length:Int)==0)||!iN (xo e.aeq e.aex) e.aeq)||!iN (xn e.aeq e.aex) e.aex):=by
  have:((e.aeq.length:Int)==0)=(e.aeq.length==0):=by rw[ir];simp
  simp only[vh,this];cases(e.aeq.length==0)<;>cases iN (xo e.aeq e.aex) e.aeq<;>cases iN (xn e.aeq e.aex) e.aex<;>rfl
 refine⟨fun h=>?_,fun h=>?_⟩
 ·rw[h]at WB;refine bu bz (.inr rfl) rfl (by simp[LW]) ⟨?_,rfl⟩;simp only[cG,h1,h2,WB,gC,kz,aO];rfl
 rw[h]at WB
 have e1:cG e=if(parse e.bV).2.2≠0 then(parse e.bV).2.2 else if(parse e.next).2.2≠0 then(parse e.next).2.2 else
   if(named e.cC&&named e.bU)=false then 4 else if e.aey<0∨1073741824<e.aey∨e.aeA<1∨3<e.aeA then 1 else 0:=by
  simp only[cG,h1,h2,WB,gC,kz,aO];rfl
 refine aA (iJ e.bV (by have:=hs.bV;omega) _) rfl ?_;simp only[VV,seval];refine⟨fun h=>?_,fun h=>?_⟩
 ·have h:(parse e.bV).2.2≠0:=by simpa using h
  rw[e1,aQ h];exact bu bz (.inr rfl) rfl (by simp[LW]) ⟨rfl,rfl⟩
 have h3:¬ (parse e.bV).2.2≠0:=by simpa using h
 refine aA (iJ e.next (by have:=hs.next;omega) _) rfl ?_;simp only[VV,seval];refine⟨fun h=>?_,fun h=>?_⟩
 ·have h:(parse e.next).2.2≠0:=by simpa using h
  rw[e1,aC h3,aQ h];exact bu bz (.inr rfl) rfl (by simp[LW]) ⟨rfl,rfl⟩
 have h4:¬ (parse e.next).2.2≠0:=by simpa using h
 rw[aC h3,aC h4]at e1;refine cL (by simp only[VV,seval]<;>rfl) (fun _=>iK e.cC _) rfl ?_;simp only[VV,seval];refine cL (by simp only[VV,seval]<;>rfl) (fun _=>iK e.bU _) rfl ?_;simp only[VV,seval]
 have hna:((!e.cC==[]&&!aeC e.cC)||(!e.bU==[]&&!aeC e.bU))=!(named e.cC&&named e.bU):=by
  simp only[named];cases e.cC==[]<;>cases e.bU==[]<;>cases aeC e.cC<;>cases aeC e.bU<;>rfl
 rw[hna];refine⟨fun h=>?_,fun h=>⟨fun h5=>?_,fun h5=>?_⟩⟩
 ·have h:(named e.cC&&named e.bU)=false:=by rw[eH]at h;exact h
  rw[e1,aQ h];exact bu bz (.inr rfl) rfl (by simp[LW]) ⟨rfl,rfl⟩
 ·have h:¬ (named e.cC&&named e.bU)=false:=by rw[Fl]at h;rw[h];simp
  have h5:e.aey<0∨1073741824<e.aey∨e.aeA<1∨3<e.aeA:=by
   simp at h5;omega
  rw[e1,aC h,aQ h5];exact bu bz (.inr rfl) rfl (by simp[LW]) ⟨rfl,rfl⟩
 ·have h:¬ (named e.cC&&named e.bU)=false:=by rw[Fl]at h;rw[h];simp
  have h5:¬ (e.aey<0∨1073741824<e.aey∨e.aeA<1∨3<e.aeA):=by
   simp at h5;omega
  rw[e1,aC h,aC h5];exact bu bz (.inr rfl) rfl (by simp[LW]) ⟨rfl,rfl⟩
theorem El(e:En)(hs:e.aew)(J:ae):PC prog 130 [.agg e.aen] J (fun r J'=>r=.s (gN e)∧J'=J):=by
 refine PC.intro func130 Z3 fun bz er=>aB ?_;simp only[Uf,SS,seval];simp only[En.aen,VV,seval];refine aA (Ix e.aeq hs.aeq hs.px (fun x hx=>hs.ids x (by simp[hx])) _) rfl ?_;simp only[VV,seval];have hf:=ES e.aeq hs.aeq hs.px (fun x hx=>hs.ids x (by simp[hx]));have h1:=hs.bV;have h2:=hs.next;refine⟨by simp[maxLen];omega,by simp[maxLen];omega,by simp[maxLen];omega,by simp[maxLen];omega,?_⟩;refine bu bz (.inr rfl) rfl (by simp[LW]) ⟨?_,rfl⟩;simp[Pm.one,gN]
theorem sU(e:En)(hs:e.aew)(J:ae):PC prog 67 [.agg e.aen] J (fun r J'=>r=.s (aV e)∧J'=J):=by
 refine PC.intro func67 c67 fun bz er=>aB ?_;simp only[p67,SS,seval];simp only[En.aen,VV,seval];refine aA (jI e hs _) rfl ?_;simp only[VV,seval];refine⟨fun h=>?_,fun h=>?_⟩
 ·have h:cG e≠0:=by simpa using h
  exact bu bz (.inr rfl) rfl (by simp[LW]) ⟨by simp only[aV,h,aR,gC,dS];rfl,rfl⟩
 ·have h:¬ cG e≠0:=by simpa using h
  refine aA (El e hs _) rfl ?_;simp only[VV,seval];exact bu bz (.inr rfl) rfl (by simp[LW]) ⟨by simp only[aV,aC h];rfl,rfl⟩
end Go.Proofs.Tryz

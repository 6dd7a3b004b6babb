/- A part of the proof of the statement of the last text of this claim; its conditions stand there. -/
import Derived.Test.YtkkjfegefckehaaGreatDoorB17
import Derived.Test.YtkkjfegefckehaaGreatDoorB20
set_option linter.all false

namespace Go.Proofs.Tryz
open Go Go.Pm Go.Bt
theorem JL(s:bc)(σ:ag):PC prog 137 [.agg s.cells] σ (fun r σ'=>r=.i .i64 (if gf s=false then 1 else 0)∧σ'=σ):=by
 refine PC.intro func137 akp fun aQ cz=>aj ?_;simp only[adA,SS,seval];simp only[bc.cells,VV,seval]
 have e:(decide (s.time<1)||decide (1073741824<s.time)||decide (s.aS<0)||decide (8≤s.aS)||decide (s.number<1)||decide (128<s.number))=!gf s:=by
  simp only[gf];rw[du];simp;omega
 rw[e];refine⟨fun h=>?_,fun h=>?_⟩
 ·refine aG aQ (.inr rfl) (by simp only[RS,seval];rfl) (by simp only[LW]) ⟨?_,rfl⟩;rw[cm]at h;rw[h];rfl
 ·refine aG aQ (.inr rfl) (by simp only[RS,seval];rfl) (by simp only[LW]) ⟨?_,rfl⟩;rw[dC]at h;rw[h];rfl
theorem lN(a b:Int)(σ:ag):PC prog 125 [.i .i64 a,.i .i64 b] σ (fun r σ'=>r=.i .i64 (eV a b)∧σ'=σ):=by
 refine PC.intro func125 akz fun aQ cz=>aj ?_;simp only[adK,SS,seval];simp only[VV,seval];refine⟨fun h=>?_,fun h=>⟨fun h2=>?_,fun h2=>?_⟩⟩<;>simp at h
 ·exact aO (.inr rfl) (by simp only[RS,seval];rfl) ⟨by simp[Pm.one,eV,h],rfl⟩
 ·simp at h2;exact aO (.inr rfl) (by simp only[RS,seval];rfl) ⟨by simp[Pm.one,eV,Nq.2 h,h2],rfl⟩
 ·simp at h2;exact aO (.inr rfl) (by simp only[RS,seval];rfl) ⟨by simp[Pm.one,eV,Nq.2 h,Nq.2 h2],rfl⟩
theorem wg(a b:bc)(σ:ag):PC prog 69 [.agg a.cells,.agg b.cells] σ (fun r σ'=>r=.i .i64 (iq a b)∧σ'=σ):=by
 refine PC.intro func69 c69 fun aQ cz=>aj ?_;simp only[p69,SS,seval];simp only[bc.cells,VV,seval];refine ai (lN a.time b.time _) rfl ?_;simp only[VV,seval];refine⟨fun h=>?_,fun h=>?_⟩
 ·have h:eV a.time b.time≠0:=by simpa using h
  exact aG aQ (.inr rfl) (by simp only[RS,seval];rfl) (by simp only[LW]) ⟨by simp[Pm.one,iq,rz,h],rfl⟩
 have h:eV a.time b.time=0:=by simpa using h
 refine ai (lN a.aS b.aS _) rfl ?_;simp only[VV,seval];refine⟨fun h2=>?_,fun h2=>?_⟩
 ·have h2:eV a.aS b.aS≠0:=by simpa using h2
  exact aG aQ (.inr rfl) (by simp only[RS,seval];rfl) (by simp only[LW]) ⟨by simp[Pm.one,iq,rz,h,h2],rfl⟩
 have h2:eV a.aS b.aS=0:=by simpa using h2
 refine ai (lN a.number b.number _) rfl ?_;simp only[VV,seval];refine aG aQ (.inr rfl) (by simp only[RS,seval];rfl) (by simp only[LW]) ⟨?_,rfl⟩
 by_cases h3:eV a.number b.number=0
 ·simp[Pm.one,iq,rz,h,h2,h3]
 ·simp[Pm.one,iq,rz,h,h2,h3]
theorem uw(v:List Int)(o:Int)(σ:ag):PC prog 120 [.sl 1 (v.map bj),.i .i64 o] σ (fun r σ'=>r=.i .i64 (je v o)∧σ'=σ):=by
 refine PC.intro func120 Nb fun aQ cz=>aj ?_;simp only[adP,SS,seval];simp only[List.length_map,VV,seval]
 have e:(decide (o<0)||decide ((v.length:Int)≤o)||decide (8≤o))=decide (o<0∨(v.length:Int)≤o∨8≤o):=by
  rw[du];simp[or_assoc]
 rw[e];refine⟨fun h=>?_,fun h=>?_⟩
 ·have h:=of_decide_eq_true h;exact aO (.inr rfl) (by simp only[RS,seval];rfl) ⟨by simp only[je,if_pos h];rfl,rfl⟩
 ·have h:=of_decide_eq_false h;obtain⟨n,rfl⟩:∃ n:Nat,o=n:=⟨o.toNat,by omega⟩;have hn:n<v.length:=by omega
  simp only[an,qv hn,VV,seval];refine⟨by omega,?_⟩;refine aO (.inr rfl) (by simp only[RS,seval];rfl) ⟨?_,rfl⟩;simp only[je,if_neg h,an];rfl
theorem ux(e:En)(σ:ag):PC prog 84 [.agg e.cells] σ (fun r σ'=>r=.agg (asked e).cells∧σ'=σ):=by
 refine PC.intro func84 c84 fun aQ cz=>aj ?_;simp only[p84,SS,seval];simp only[En.cells,VV,seval];exact aG aQ (.inr rfl) (by simp only[RS,seval];rfl) (by simp only[LW]) ⟨rfl,rfl⟩
theorem Md(b:UInt8)(σ:ag):PC prog 226 [.i .u8 b.toNat] σ (fun r σ'=>r=.i .i64 (l0 b)∧σ'=σ):=by
 refine PC.intro func226 ajs fun aQ cz=>aj ?_;simp only[acD,SS,seval];simp only[W,seval];clear cz aQ;refine⟨fun h1=>?_,fun h1=>⟨fun h2=>?_,fun h2=>⟨fun h3=>?_,fun h3=>⟨fun h4=>?_,fun h4=>?_⟩⟩⟩⟩<;>refine aO (.inr rfl) rfl ⟨?_,rfl⟩<;>simp at*<;> simp only[Pm.one,l0,V.i.injEq,true_and]<;>(repeat' split)<;>omega
theorem w8(x:It)(σ:ag):PC prog 217 [.agg x.cells] σ (fun r σ'=>r=.b (cI x)∧σ'=σ):=by
 refine PC.intro func217 ajy fun aQ cz=>aj ?_;simp only[acJ,It.cells,SS,seval];simp only[VV,seval];refine aG aQ (.inr rfl) rfl (by simp only[LW]) ⟨?_,rfl⟩;simp only[Pm.one,cI,aE,aT]
theorem VG{n:Nat}{σ:ag}{K:Exit→St→Prop}(s:List UInt8)(hlen:s.length<2^63):∀ (rest pre:List UInt8),s=pre++rest→pre≠[] →
  (rest.all jg=true→(∀ j0 j1 j2 j3 j4 j5 j6 j7 j8 j9 cT cS cX cR cN cM cL cW df dn dx dy dD dI dH dG dX ez eA eH eW fg fi ft fw fG fM fL fK fX gi gF gR gQ,K (.exit 0) ⟨[j0,j1,j2,j3,j4,j5,j6,j7,j8,j9,cT,cS,cX,cR,cN,cM,cL,cW,df,dn,dx,dy,dD,dI,dH,dG,dX,ez,eA,eH,eW,fg,fi,ft,fw,fG,fM,fL,fK,fX,gi,gF,gR,gQ],σ⟩))→(rest.all jg=false→(∀ j0 j1 j3 j4 j5 j6 j7 j8 j9 cT cS cX cR cN cM cL cW df dn dx dy dD dI dH dG dX ez eA eH eW fg fi ft fw fG fM fL fK fX gi gF gR gQ,K .ret ⟨[j0,j1,.b false,j3,j4,j5,j6,j7,j8,j9,cT,cS,cX,cR,cN,cM,cL,cW,df,dn,dx,dy,dD,dI,dH,dG,dX,ez,eA,eH,eW,fg,fi,ft,fw,fG,fM,fL,fK,fX,gi,gF,gR,gQ],σ⟩)) →
  fO n prog CW K (rest.length+1) ⟨[.s s,.u,.u,.i .i64 pre.length,.u,.u,.u,.u,.u,.u,.u,.u,.u,.u,.u,.u,.u,.u,.u,.u,.u,.u,.u,.u,.u,.u,.u,.u,.u,.u,.u,.u,.u,.u,.u,.u,.u,.u,.u,.u,.u,.u,.u,.u],σ⟩:=by
 intro rest
 induction rest with
 | nil =>
  intro pre he hp h1 h2;have he:s=pre:=by simpa using he
  subst he;refine ax fun R hR=>?_;simp only[CW,VV,seval];exact⟨fun h=>by simp at h,fun _=>h1 rfl ..⟩
 | cons c rest ih =>
  intro pre he hp h1 h2;subst he;have rV:0<pre.length:=dK.2 hp;have hd:decide ((0:Int)<pre.length)=true:=by simp;omega
  refine ax fun R hR=>?_;simp only[CW,hd,VV,seval]
  have hn:jg c=((decide (97≤(c.toNat:Int))&&decide ((c.toNat:Int)≤122))||((decide (48≤(c.toNat:Int))&&decide ((c.toNat:Int)≤57))||((c.toNat:Int)==45))):=by
   rw[du];simp[jg];omega
  rw[← hn];refine⟨fun _=>⟨by simp;omega,fun h=>?_,fun h=>?_⟩,fun h=>by simp at h<;>omega⟩
  ·have e:(c::rest).all jg=rest.all jg:=by simp[h]
   rw[e]at h1 h2;refine hR _ (aW ?_ (ih (pre++[c]) (by simp) (by simp) h1 h2));rw[aV (by simp at hlen;omega)];simp only[List.length_append,ab,ah]
   repeat' constructor
  ·exact h2 (by simp[h]) ..
theorem mO(s:List UInt8)(σ:ag):PC prog 190 [.s s] σ (fun r σ'=>r=.b (isName s)∧σ'=σ):=by
 refine PC.intro func190 ajO fun aQ cz=>aj ?_;have hlen:=Er (cz 0 _ rfl).1;simp only[acZ,SS,seval];simp only[VV,seval];cases s with
 | nil =>
  refine⟨fun _=>aO (.inr rfl) rfl ⟨rfl,rfl⟩,fun h=>by simp at h⟩
 | cons c r =>
  refine⟨fun h=>?_,fun h=>?_⟩
  ·refine aO (.inr rfl) rfl ⟨?_,rfl⟩;simp at h;simp[Pm.one,isName];omega
  ·simp at h;refine bA.pd (r.length+2) (ax fun R hR=>?_);simp only[CW,aE,VV,Int.reduceToNat,reduceIte]
   have rB:((decide (97≤(c.toNat:Int))&&decide ((c.toNat:Int)≤122))||(decide ((0:Int)<0)&&((decide (48≤(c.toNat:Int))&&decide ((c.toNat:Int)≤57))||((c.toNat:Int)==45))))=decide (97≤c.toNat∧c.toNat≤122):=by
    rw[du];simp;omega
   have Tj:(c::r).length≤24:=by simp;omega
   rw[rB];refine⟨fun _=>⟨by simp,fun h2=>?_,fun h2=>?_⟩,fun h=>by simp at h<;>omega⟩
   ·have e:isName (c::r)=r.all jg:=by
     simp only[isName,h2,Tj,decide_true,dM]
    refine hR _ (aW ?_ (VG (c::r) hlen r [c] rfl (by simp) (fun h1=>?_) (fun h1=>?_)))
    ·rw[show IntKind.i64.wrap (0+1)=(([c].length:Nat):Int)from IntWalk.i64_in _ (by decide)]
     repeat' constructor
    ·intros;simp only[VV,seval];exact aO (.inr rfl) rfl ⟨by simp only[Pm.one,e,h1,aE,aT],rfl⟩
    ·intros;simp only[VV,seval];exact aO (.inr rfl) rfl ⟨by simp only[Pm.one,e,h1,aE,aT],rfl⟩
   ·refine aO (.inr rfl) rfl ⟨?_,rfl⟩;have e:isName (c::r)=false:=by simp only[isName,h2,yf,gV]
    rw[e];rfl
theorem VM{n:Nat}{σ:ag}{K:Exit→St→Prop}(s:List UInt8)(hlen:s.length<2^63):∀ (rest pre:List UInt8),s=pre++rest→32 ∉ pre →
  (32 ∉ s→(∀ j1 j2 j3 j4 j5 j6 j7 j8 j9 cT cS cX cR cN cM cL cW,K (.exit 0) ⟨[.s s,j1,j2,j3,j4,j5,j6,j7,j8,j9,cT,cS,cX,cR,cN,cM,cL,cW],σ⟩))→(32∈s→(∀ j0 j1 j3 j4 j5 j6 j7 j8 j9 cT cS cX cR cN cM cL cW,K .ret ⟨[j0,j1,.s (s.take (Lib.indexByte s 32).toNat),j3,j4,j5,j6,j7,j8,j9,cT,cS,cX,cR,cN,cM,cL,cW],σ⟩)) →
  fO n prog Hj K (rest.length+1) ⟨[.s s,.u,.u,.i .i64 pre.length,.u,.u,.u,.u,.u,.u,.u,.u,.u,.u,.u,.u,.u,.u],σ⟩:=by
 intro rest
 induction rest with
 | nil =>
  intro pre he hp h1 h2;have he:s=pre:=by simpa using he
  subst he;refine ax fun R hR=>?_;simp only[Hj,VV,seval];exact⟨fun h=>by simp at h,fun _=>h1 hp ..⟩
 | cons c rest ih =>
  intro pre he hp h1 h2;subst he;refine ax fun R hR=>?_;simp only[Hj,VV,seval];refine⟨fun _=>⟨by simp;omega,fun h=>⟨by simp;omega,?_⟩,fun h=>?_⟩,fun h=>by simp at h<;>omega⟩
  ·have hc:c=32:=by
    rw[show(32:Int)=((32:UInt8).toNat:Int)from rfl,zV]at h;simpa using h
   subst hc
   have e:(Lib.indexByte (pre++32::rest) 32).toNat=pre.length:=by
    rw[pA hp];simp
   have:=h2 (by simp);rw[e]at this;exact this ..
  ·have hc:¬ c=32:=by
    rw[show(32:Int)=((32:UInt8).toNat:Int)from rfl,zV]at h;simpa using h
   refine hR _ (aW ?_ (ih (pre++[c]) (by simp) (by simp[hp,IS hc]) h1 h2));rw[aV (by simp at hlen;omega)];simp only[List.length_append,ab,ah]
   repeat' constructor
theorem rH(s:List UInt8)(σ:ag):PC prog 179 [.s s] σ (fun r σ'=>r=.s (dm s)∧σ'=σ):=by
 refine PC.intro func179 ajW fun aQ cz=>aj ?_;have hlen:=Er (cz 0 _ rfl).1;simp only[ac7,SS,seval];simp only[VV,seval];refine bA.aW ?_ (s.length+1) (VM s hlen s [] rfl (by simp) (fun h=>?_) (fun h=>?_))
 ·repeat' constructor
 ·intros;simp only[VV,seval];refine aO (.inr rfl) rfl ⟨?_,rfl⟩;have:Lib.indexByte s 32 = -1:=uY h;simp[Pm.one,dm,cutAt,this]
 ·intros;refine aO (.inr rfl) rfl ⟨?_,rfl⟩;have:0≤Lib.indexByte s 32:=qo h;simp[Pm.one,dm,cutAt,this]
theorem Fc{n:Nat}(h:¬ n<10):Lib.decDigits n=Lib.decDigits (n / 10)++[UInt8.ofNat (48+n % 10)]:=by
 rw[Lib.decDigits,dif_neg h]
theorem KZ{n:Nat}:UInt8.ofNat ((IntKind.u8.wrap (IntKind.i64.wrap (48+(n:Int).tmod 10))).toNat)=UInt8.ofNat (48+n % 10):=by
 have h:(n:Int).tmod 10=((n % 10:Nat):Int):=by rw[aaX (by omega)];rfl
 rw[h,IntWalk.i64_in _ (by omega)]
 have h2:IntKind.u8.wrap (48+((n % 10:Nat):Int))=((48+n % 10:Nat):Int):=by
  rw[IntWalk.u8_in _ (by omega)];omega
 rw[h2];rfl
theorem OJ{n:Nat}(h:n<2^62):IntKind.i64.wrap ((n:Int).tdiv 10)=((n / 10:Nat):Int):=by
 have e:(n:Int).tdiv 10=((n / 10:Nat):Int):=by rw[Int.tdiv_eq_ediv_of_nonneg (by omega)];rfl
 rw[e,IntWalk.i64_in _ (by omega)]
theorem VA{σ:ag}{K:Exit→St→Prop}:∀ (k n:Nat) (s:List UInt8),n<10^(k+1)→n<2^62→s.length+k<2^40 →
  ((∀ j0 j1 j3 j4 j5 j6 j7 j8 j9 cT cS cX cR cN cM cL,K .ret ⟨[j0,j1,.s (Lib.decDigits n++s),j3,j4,j5,j6,j7,j8,j9,cT,cS,cX,cR,cN,cM,cL],σ⟩)) →
  fO σ.length prog CQ K (k+1) ⟨[.i .i64 n,.u,.u,.s s,.u,.u,.u,.u,.u,.u,.u,.u,.u,.u,.u,.u,.u],σ⟩:=by
 have last:∀ (k n:Nat) (s:List UInt8),n<10→n<2^62→s.length+k<2^40→((∀ j0 j1 j3 j4 j5 j6 j7 j8 j9 cT cS cX cR cN cM cL,K .ret ⟨[j0,j1,.s (Lib.decDigits n++s),j3,j4,j5,j6,j7,j8,j9,cT,cS,cX,cR,cN,cM,cL],σ⟩)) →
   fO σ.length prog CQ K (k+1) ⟨[.i .i64 n,.u,.u,.s s,.u,.u,.u,.u,.u,.u,.u,.u,.u,.u,.u,.u,.u],σ⟩:=by
  intro k n s ML hb hs h1;refine ax fun R hR=>?_;simp only[CQ,OJ hb,KZ,VV,reduceIte];rw[Lib.decDigits_one ML]at h1;have e:n % 10=n:=by omega
  have e2:n / 10=0:=by omega
  rw[e,e2];exact⟨by decide,by simp[maxLen];omega,by decide,fun h=>h1 ..,fun h=>by simp at h⟩
 intro k
 induction k with
 | zero=>intro n s hn hb hs h1;exact last 0 n s (by omega) hb hs h1
 | succ k ih =>
  intro n s hn hb hs h1
  by_cases ML:n<10
  ·exact last (k+1) n s ML hb hs h1
  ·rw[Fc ML,List.append_assoc]at h1;have hk:n / 10<10^(k+1):=by rw[Q0]at hn;omega
   refine ax fun R hR=>?_;simp only[CQ,OJ hb,KZ,VV,reduceIte];refine⟨by decide,by simp[maxLen];omega,by decide,fun h=>by simp at h;omega,fun h=>?_⟩;refine hR _ (aW ?_ (ih (n / 10) (UInt8.ofNat (48+n % 10)::s) hk (by omega) (by simp;omega) h1))
   repeat' constructor
theorem G5(n:Nat)(hn:n<2^62)(σ:ag):PC prog 227 [.i .i64 n] σ (fun r σ'=>r=.s (Lib.decDigits n)∧σ'=σ):=by
 refine PC.intro func227 ajr fun aQ cz=>aj ?_;simp only[acC,SS,seval];simp only[VV,seval];refine bA.aW ?_ 19 (VA 18 n [] (by omega) hn (by simp) ?_)
 ·repeat' constructor
 ·intros;simp only[VV,seval];exact aO (.inr rfl) (by simp only[RS,seval];rfl) ⟨by simp[Pm.one],rfl⟩
theorem G6(n:Nat)(hn:n<2^62)(σ:ag):PC prog 192 [.i .i64 n] σ (fun r σ'=>r=.s (Lib.itoa n)∧σ'=σ):=by
 refine PC.intro func192 ajM fun aQ cz=>aj ?_;have h0:decide ((n:Int)<0)=false:=by simp
 have hm:(if(n:Int)<0 then(0:Int)else n)=n:=if_neg (by omega);simp only[acX,SS,seval];simp only[h0,hm,VV,seval];refine ai (G5 n hn _) rfl ?_;simp only[VV,seval];refine aO (.inr rfl) (by simp only[RS,seval];rfl) ⟨?_,rfl⟩;have e:Lib.itoa (n:Int)=Lib.decDigits n:=by unfold Lib.itoa;rw[if_neg (by omega)];rfl
 rw[e];rfl
theorem Lx:∀ c:UInt8,((((c.toNat:Int)==92||(c.toNat:Int)==60)||(c.toNat:Int)==123)=true→eB c=[92,c]) ∧
  ((((c.toNat:Int)==92||(c.toNat:Int)==60)||(c.toNat:Int)==123)=false→(((c.toNat:Int)==10)=true→eB c=[92,110]) ∧
  (((c.toNat:Int)==10)=false→(((c.toNat:Int)==9)=true→eB c=[92,116]) ∧
  (((c.toNat:Int)==9)=false→(((c.toNat:Int)==13||l0 c==1)=true→eB c=[92,120,jF (c.toNat / 16),jF (c.toNat % 16)]) ∧
  (((c.toNat:Int)==13||l0 c==1)=false→eB c=[c])))):=iw (by decide +kernel)
theorem Z0:∀ c:UInt8,(0≤IntKind.u8.wrap ((c.toNat:Int).tdiv 16)∧IntKind.u8.wrap ((c.toNat:Int).tdiv 16)<((16:Nat):Int))∧(0≤(c.toNat:Int).tmod 16∧(c.toNat:Int).tmod 16<((16:Nat):Int)) ∧
  ([48,49,50,51,52,53,54,55,56,57,97,98,99,100,101,102]:List UInt8).getD (IntKind.u8.wrap ((c.toNat:Int).tdiv 16)).toNat 0=jF (c.toNat / 16) ∧
  ([48,49,50,51,52,53,54,55,56,57,97,98,99,100,101,102]:List UInt8).getD ((c.toNat:Int).tmod 16).toNat 0=jF (c.toNat % 16):=iw (by decide +kernel)
theorem yL(c:UInt8)(σ:ag):PC prog 191 [.i .u8 c.toNat] σ (fun r σ'=>r=.s (eB c)∧σ'=σ):=by
 refine PC.intro func191 ajN fun aQ cz=>aj ?_;obtain⟨w1,w2⟩:=Lx c;simp only[acY,SS,seval];simp only[VV,seval];refine⟨fun h1=>⟨by decide,?_⟩,fun h1=>⟨fun h2=>?_,fun h2=>⟨fun h3=>?_,fun h3=>?_⟩⟩⟩
 ·exact aO (.inr rfl) (by simp only[RS,seval];rfl) ⟨by rw[w1 h1];rfl,rfl⟩
 ·exact aO (.inr rfl) (by simp only[RS,seval];rfl) ⟨by rw[(w2 h1).1 h2];rfl,rfl⟩
 ·exact aO (.inr rfl) (by simp only[RS,seval];rfl) ⟨by rw[((w2 h1).2 h2).1 h3];rfl,rfl⟩
 ·have w5:=((w2 h1).2 h2).2 h3;refine bg (by simp only[VV,seval]<;>rfl) (fun _=>Md c _) rfl ?_;simp only[VV,Nat.reduceAdd,reduceIte];obtain⟨x1,x2,x3,x4⟩:=Z0 c;refine⟨fun h4=>⟨by decide,x1,by decide,x2,by decide,?_⟩,fun h4=>?_⟩
  ·refine aO (.inr rfl) (by simp only[RS,seval];rfl) ⟨?_,rfl⟩;rw[w5.1 h4,← x3,← x4];rfl
  ·exact aO (.inr rfl) (by simp only[RS,seval];rfl) ⟨by rw[w5.2 h4];rfl,rfl⟩
def qe(n:Int):Nat→List UInt8
 | 0=>[]
 | m+1=>ij (n / 2^(8*m))::qe n m
theorem HT(n:Int):qe n 4=BA n:=by
 have e:n / 65536 / 256=n / 16777216:=by omega
 simp[qe,BA,qu,e]
theorem Sl(n:Int):qe n 2=qu n:=by simp[qe,qu]
theorem yX(n:Int):IntKind.u8.wrap n=((ij n).toNat:Int):=by
 have h1:IntKind.u8.wrap n=n % 256:=by
  simp[IntKind.wrap,IntKind.bits,IntKind.signed]
 rw[h1];have h2:0≤n % 256:=XE _ (by decide);have h3:n % 256<256:=Nr _ (by decide);simp only[ij,mJ];omega
theorem Yy:Ti prog 5 1 1:=nR (by kernel_rfl)
theorem VW{σ:ag}{K:Exit→St→Prop}(n:Int):∀ (m:Nat) (out:List UInt8) (g:Nat),m≤8→out.length+m≤8 →
  (∀ g,(∀ j0 j1 j2 j3 j4 j6 j7 j8 j9 cT cS cX cR cN cM cL cW df dn dx dy,K (.exit 0) ⟨[j0,j1,j2,j3,j4,.own σ.length g,j6,j7,j8,j9,cT,cS,cX,cR,cN,cM,cL,cW,df,dn,dx,dy],σ++[.row 5 1 1 g false (al (out++qe n m))]⟩)) →
  fO σ.length prog Hu K (m+1) ⟨[.i .i64 n,.u,.u,.u,.u,.own σ.length g,.i .i64 ((m:Int) - 1),.u,.u,.u,.u,.u,.u,.u,.u,.u,.u,.u,.u,.u,.u,.u],σ++[.row 5 1 1 g false (al out)]⟩:=by
 intro m
 induction m with
 | zero =>
  intro out g hm ho h1;simp only[qe,bf]at h1;refine ax fun R hR=>?_;have e1:decide ((0:Int)≤((0:Nat):Int) - 1)=false:=rfl;simp only[Hu,e1,VV,reduceIte,reduceCtorEq];exact h1 g ..
 | succ m ih =>
  intro out g hm ho h1;have e0:((m+1:Nat):Int) - 1=(m:Int):=by omega
  have hw:IntKind.i64.wrap ((m:Int) - 1)=(m:Int) - 1:=IntWalk.i64_in _ (by omega);have h8:IntKind.i64.wrap (8*(m:Int))=((8*m:Nat):Int):=by rw[IntWalk.i64_in _ (by omega)];omega
  rw[e0];refine ax fun R hR=>?_;have Th:min (8*m) IntKind.i64.bits=8*m:=iv (show 8*m≤64 by omega);have hf:n.fdiv (2^(8*m))=n / 2^(8*m):=fm _ (aaY (by decide));simp only[Hu,hw,h8,Th,hf,yX,an,VV,seval];have cP:al out++[[V.i .u8 ((ij (n / 2^(8*m))).toNat:Int)]]=al (out++[ij (n / 2^(8*m))]):=by simp[al]
  have hl:(al out).length=out.length:=by simp[al]
  rw[cP,hl];refine⟨fun _=>⟨by omega,by simp only[maxLen];omega,?_⟩,fun h=>by simp at h<;>omega⟩;refine hR _ (aW ?_ (ih (out++[ij (n / 2^(8*m))]) (g+1) (by omega) (by simp;omega) ?_))
  ·repeat' constructor
  ·simpa only[qe,List.append_assoc,aq,ak]using h1
theorem wC(n:Int)(m:Nat)(hm:m≤8)(σ:ag):PC prog 138 [.i .i64 n,.i .i64 m] σ (fun r σ'=>r=.own σ.length 0∧σ'=σ++[.row 5 1 1 0 false (al (qe n m))]):=by
 refine PC.intro func138 ako fun aQ cz=>aj ?_;have hw:IntKind.i64.wrap ((m:Int) - 1)=(m:Int) - 1:=IntWalk.i64_in _ (by omega);simp only[adz,SS,seval];simp only[hw,VV,seval];refine bA.wk ((Wk.gZ (k:=5) Yy rfl).trans (Wk.ej ?_)) (bA.pd (m+1) (VW n m [] 0 hm (by simpa using hm) ?_))
 ·simp only[VV,seval]
  repeat' constructor
 ·intro g;intros;simp only[ak,VV,seval];exact yz 0 aQ (.inr rfl) rfl rfl rfl (by simp[ES,Ob.gen]) (by simp[Pm.one,Vp,Ob.fresh])
theorem lW(n:Int)(m:Nat)(hm:m≤8)(σ:ag):PC prog 138 [.i .i64 n,.i .i64 m] σ (fun r σ'=>r=.sl 1 (al (qe n m))∧σ'=σ) :=
 PC.closed fun aQ=>PC.fz aQ (wC n m hm σ)
end Go.Proofs.Tryz
namespace Go.Proofs.Tryz
open Go Go.Pm Go.Bt Go.RowKit
theorem Ao(n:Int):Bt.lz n=qe n 4:=by
 have key:∀ m:Int,By m=ij m:=fun m=>by
  apply mY.1;have h1:=Gr m
  have h2:((ij m).toNat:Int)=m % 256:=by
   simp only[ij,mJ];omega
  omega
 have f:∀ k:Nat,n.fdiv (2^k)=n / 2^k:=fun k=>fm _ (aaY (by decide));simp only[Bt.lz,qe,key,f];simp
theorem Rx(h:Nat)(x:UInt8)(hh:h<4294967296):(IntKind.i64.wrap (IntKind.i64.wrap (((BitVec.ofInt IntKind.i64.bits (h:Int) ^^^ BitVec.ofInt IntKind.i64.bits (IntKind.i64.wrap (x.toNat:Int))).toNat:Nat):Int)*16777619)).tmod 4294967296=mr h x:=by
 have hx:=x.toNat_lt;have fk:h ^^^ x.toNat<2^32:=Nat.xor_lt_two_pow (by omega) (by omega);have w64:∀ k:Nat,k<2^62→IntKind.i64.wrap (k:Int)=k:=fun k hk=>IntWalk.i64_in _ (by omega)
 have e1:(BitVec.ofInt IntKind.i64.bits (h:Int) ^^^ BitVec.ofInt IntKind.i64.bits (x.toNat:Int)).toNat=h ^^^ x.toNat:=by
  show(BitVec.ofInt 64 (h:Int) ^^^ BitVec.ofInt 64 (x.toNat:Int)).toNat=h ^^^ x.toNat;rw[iJ,iJ,BitVec.toNat_xor,jI,jI,iG (by omega),iG (by omega)]
 have e2:(BitVec.ofInt IntKind.u32.bits (h:Int) ^^^ BitVec.ofInt IntKind.u32.bits (x.toNat:Int)).toNat=h ^^^ x.toNat:=by
  show(BitVec.ofInt 32 (h:Int) ^^^ BitVec.ofInt 32 (x.toNat:Int)).toNat=h ^^^ x.toNat;rw[iJ,iJ,BitVec.toNat_xor,jI,jI,iG (by omega),iG (by omega)]
 have e3:IntKind.u32.wrap (x.toNat:Int)=x.toNat:=by rw[oF];omega
 rw[w64 x.toNat (by omega),e1,w64 _ (by omega),mr,e3,e2];generalize h ^^^ x.toNat=m at fk;have e4:IntKind.i64.wrap ((m:Int)*16777619)=((m*16777619:Nat):Int):=by rw[IntWalk.i64_in _ (by omega)];omega
 rw[e4,oF,oF,aaX (by omega)];omega
theorem V2{n:Nat}{σ:ag}{K:Exit→St→Prop}(l:List UInt8)(hlen:l.length<2^62):∀ (rest pre:List UInt8) (h:Nat),l=pre++rest→h<4294967296 →
  (∀ j0 j1 j2 j4 j5 j6 j7 j8 j9 cT cS cX cR cN cM cL cW df dn,K (.exit 0) ⟨[j0,j1,j2,.i .i64 (jN h rest),j4,j5,j6,j7,j8,j9,cT,cS,cX,cR,cN,cM,cL,cW,df,dn],σ⟩) →
  fO n prog HC K (rest.length+1) ⟨[.u,.u,.u,.i .i64 h,.u,.u,.sl 1 (al l),.i .i64 l.length,.i .i64 pre.length,.u,.u,.u,.u,.u,.u,.u,.u,.u,.u,.u],σ⟩:=by
 intro rest
 induction rest with
 | nil =>
  intro pre h he hh h1;have he:l=pre:=by simpa using he
  subst he;refine ax fun R hR=>?_;simp only[HC,VV,seval];exact⟨fun h=>by simp at h,fun _=>h1 ..⟩
 | cons x rest ih =>
  intro pre h he hh h1;subst he
  have dY:fe (al (pre++x::rest)) pre.length 0=some (.i .u8 x.toNat):=by
   simp[al,fe]
  have hw:IntKind.i64.wrap ((pre.length:Int)+1)=(((pre++[x]).length:Nat):Int):=by
   rw[aV (by simp at hlen;omega)];simp
  have hr:0≤mr h x∧mr h x<4294967296:=by
   simp only[mr,oF];omega
  obtain⟨q,hq⟩:∃ q:Nat,mr h x=q:=⟨(mr h x).toNat,by omega⟩;have hs:jN h (x::rest)=jN q rest:=by simp only[jN,bd,hq]
  rw[hs]at h1;have EZ:=Rx h x hh;rw[hq]at EZ;refine ax fun R hR=>?_;simp only[HC,aL,dY,hw,EZ,VV,reduceIte];refine⟨fun _=>⟨⟨by omega,by simp;omega⟩,by decide,?_⟩,fun h=>by simp at h<;>omega⟩;refine hR _ (aW ?_ (ih (pre++[x]) q (by simp) (by omega) h1))
  repeat' constructor
theorem yK(l:List UInt8)(hlen:l.length<2^62)(σ:ag):PC prog 124 [.sl 1 (al l)] σ (fun r σ'=>r=.i .i64 (jN qZ l)∧σ'=σ):=by
 refine PC.intro func124 akA fun aQ cz=>aj ?_;simp only[adL,SS,seval];simp only[aL,VV,seval];refine bA.aW (fr':=[.u,.u,.u,.i .i64 (2166136261:Nat),.u,.u,.sl 1 (al l),.i .i64 l.length,.i .i64 (([]:List UInt8).length:Nat),.u,.u,.u,.u,.u,.u,.u,.u,.u,.u,.u]) ?_ (l.length+1) (V2 l hlen l [] 2166136261 rfl (by decide) ?_)
 ·repeat' constructor
 intros;simp only[VV,seval];exact aO (.inr rfl) (by simp only[RS,seval];rfl) ⟨rfl,rfl⟩
theorem ta(a b:List UInt8):al a++al b=al (a++b):=by simp[al]
set_option maxHeartbeats 2000000 in
theorem CK(log p:List UInt8)(hp:p.length≤60000)(hl:log.length≤4000000)(σ:ag):PC prog 87 [.sl 1 (al log),.sl 1 (al p)] σ (fun r σ'=>r=.iK [.sl 1 (al (log++ni p)),.i .i64 0]∧σ'=σ):=by
 refine PC.intro func87 c87 fun aQ cz=>aj ?_;have e1:decide ((65536:Int)<(p.length:Int))=false:=by simp;omega
 have e2:IntKind.i64.wrap ((log.length:Int)+8)=((log.length+8:Nat):Int):=by rw[IntWalk.i64_in _ (by omega)];omega
 have e3:IntKind.i64.wrap (((log.length+8:Nat):Int)+(p.length:Int))=((log.length+8+p.length:Nat):Int):=by rw[IntWalk.i64_in _ (by omega)];omega
 have e4:decide ((4194304:Int)<((log.length+8+p.length:Nat):Int))=false:=by simp;omega
 have aim:ni p=qe (p.length:Int) 4++(qe (jN qZ (qe (p.length:Int) 4++p)) 4++p):=by
  rw[yF p (by omega),← Ao,← Ao];simp only[jN,zR]
 have n4:∀ n:Int,(qe n 4).length=4:=fun n=>by rw[← Ao];rfl
 simp only[p87,SS,seval];simp only[aL,e1,e2,e3,e4,VV,seval];refine ai (lW (p.length:Int) 4 (by decide) _) rfl ?_;have iQ:(al (qe (p.length:Int) 4)).isEmpty=false:=by simp[qe,al]
 simp only[iQ,ak,ta,aL,n4,maxLen,aD,VV,seval];refine⟨⟨by omega,by omega⟩,?_⟩;refine oD σ.length (by simp only[gr];rfl) (yK (qe (p.length:Int) 4++p) (by rw[List.length_append,n4];omega) _) (by simp[fz,kc,ev]) ?_;simp only[VV,seval];refine ai (lW (jN qZ (qe (p.length:Int) 4++p)) 4 (by decide) _) rfl ?_;rw[aim];generalize hc:qe (jN qZ (qe (p.length:Int) 4++p)) 4=c;have WK:c.length=4:=by rw[← hc];exact n4 _
 have hn4:=n4 (p.length:Int);generalize qe (p.length:Int) 4=h at *
 by_cases h0:log=[]
 ·subst h0;have hb:al []=[]:=rfl;simp only[iQ,hb,me,ak,ta,aL,List.length_append,hn4,WK,maxLen,aD,VV,seval];refine⟨⟨by omega,by omega⟩,gg 1 aQ (.inr rfl) (by simp only[RS,seval];rfl) rfl ?_ ?_⟩
  ·simp only[ay,az,Pm.fz,kc,and_self,if_true,LW]
  ·simp only[ay,az,Pm.fz,kc,and_self,if_true];exact⟨rfl,trivial⟩
 ·have aiE:(al log).isEmpty=false:=by cases log with | nil=>exact absurd rfl h0 | cons a r=>rfl
  simp only[aiE,ak,ta,aL,List.length_append,hn4,WK,maxLen,aD,VV,seval];refine⟨⟨by omega,by omega⟩,⟨by omega,by omega⟩,⟨by omega,by omega⟩,⟨by omega,by omega⟩,gg 1 aQ (.inr rfl) (by simp only[RS,seval];rfl) rfl ?_ ?_⟩
  ·simp only[ay,az,Pm.fz,kc,and_self,if_true,LW]
  ·simp only[ay,az,Pm.fz,kc,and_self,if_true];exact⟨rfl,trivial⟩
end Go.Proofs.Tryz
namespace Go.Proofs.Tryz
open Go Go.Pm Go.Bt
theorem VC{n:Nat}{σ:ag}{K:Exit→St→Prop}(l:List Int)(x:Int)(hlen:l.length<2^63):∀ (rest pre:List Int),l=pre++rest →
  (rest.contains x=false→(∀ j0 j1 j2 j3 j4 j5 j6 j7 j8 j9 cT cS cX cR cN cM cL cW,K (.exit 0) ⟨[j0,j1,j2,j3,j4,j5,j6,j7,j8,j9,cT,cS,cX,cR,cN,cM,cL,cW],σ⟩))→(rest.contains x=true→(∀ j0 j1 j2 j3 j5 j6 j7 j8 j9 cT cS cX cR cN cM cL cW,K .ret ⟨[j0,j1,j2,j3,.b true,j5,j6,j7,j8,j9,cT,cS,cX,cR,cN,cM,cL,cW],σ⟩)) →
  fO n prog Hb K (rest.length+1) ⟨[.sl 1 (l.map bj),.i .i64 x,.u,.u,.u,.u,.u,.i .i64 l.length,.i .i64 pre.length,.u,.u,.u,.u,.u,.u,.u,.u,.u],σ⟩:=by
 intro rest
 induction rest with
 | nil =>
  intro pre he h1 h2;have he:l=pre:=by simpa using he
  subst he;refine ax fun R hR=>?_;simp only[Hb,VV,seval];exact⟨fun h=>by simp at h,fun _=>h1 rfl ..⟩
 | cons c rest ih =>
  intro pre he h1 h2;subst he;refine ax fun R hR=>?_;simp only[Hb,bj,VV,seval];refine⟨fun _=>⟨by simp;omega,fun h=>?_,fun h=>?_⟩,fun h=>by simp at h<;>omega⟩
  ·have h:c=x:=by simpa using h
   exact h2 (by simp[h]) ..
  ·have h:¬ c=x:=by simpa using h
   have e:(c::rest).contains x=rest.contains x:=by
    have:(x==c)=false:=by simpa using fun e=>h e.symm
    simp only[List.contains_cons,this,kN]
   rw[e]at h1 h2;refine hR _ (aW ?_ (ih (pre++[c]) (by simp) h1 h2));rw[aV (by simp at hlen;omega)];simp only[List.length_append,ab,ah]
   repeat' constructor
theorem R6(l:List Int)(x:Int)(σ:ag):PC prog 218 [.sl 1 (l.map bj),.i .i64 x] σ (fun r σ'=>r=.b (l.contains x)∧σ'=σ):=by
 refine PC.intro func218 ajx fun aQ cz=>aj ?_;have hlen:=lD (cz 0 _ rfl).1;rw[List.length_map]at hlen;simp only[acI,SS,seval];simp only[List.length_map,VV,seval];refine bA.aW ?_ (l.length+1) (VC l x hlen l [] rfl (fun h=>?_) (fun h=>?_))
 ·repeat' constructor
 ·intros;simp only[VV,seval];exact aO (.inr rfl) rfl ⟨by rw[h];rfl,rfl⟩
 ·intros;exact aO (.inr rfl) rfl ⟨by rw[h];rfl,rfl⟩
theorem VI{n:Nat}{σ:ag}{K:Exit→St→Prop}(its:List It)(hlen:its.length<2^63):∀ (rest pre:List It) (acc:Int),its=pre++rest →
  (∀ j0 j1 j2 j4 j5 j6 j7 j8 j9 cT cS cX cR cN cM cL cW df dn dx dy dD dI dH dG dX ez,K (.exit 0) ⟨[j0,j1,j2,.i .i64 (eZ acc rest),j4,j5,j6,j7,j8,j9,cT,cS,cX,cR,cN,cM,cL,cW,df,dn,dx,dy,dD,dI,dH,dG,dX,ez],σ⟩) →
  fO n prog Hg K (rest.length+1) ⟨[.sl 3 (its.map It.cells),.u,.u,.i .i64 acc,.u,.u,.i .i64 its.length,.i .i64 pre.length,.u,.u,.u,.u,.u,.u,.u,.u,.u,.u,.u,.u,.u,.u,.u,.u,.u,.u,.u,.u],σ⟩:=by
 intro rest
 induction rest with
 | nil =>
  intro pre acc he h1;have he:its=pre:=by simpa using he
  subst he;refine ax fun R hR=>?_;simp only[Hg,VV,seval];exact⟨fun h=>by simp at h,fun _=>h1 ..⟩
 | cons x rest ih =>
  intro pre acc he h1;subst he
  have hw:IntKind.i64.wrap ((pre.length:Int)+1)=(((pre++[x]).length:Nat):Int):=by
   rw[aV (by simp at hlen;omega)];simp
  refine ax fun R hR=>?_;simp only[Hg,It.cells,VV,seval];have e:eZ acc (x::rest)=eZ (IntKind.i64.wrap (acc+width x)) rest:=rfl;rw[e]at h1;refine⟨fun _=>⟨by simp;omega,fun h=>⟨by simp;omega,?_⟩,fun h=>?_⟩,fun h=>by simp at h<;>omega⟩
  ·have h:x.kind=1:=by simpa using h
   have ew:width x=x.text.length:=by simp[width,h]
   rw[ew]at h1;refine hR _ (aW ?_ (ih (pre++[x]) _ (by simp) h1));rw[hw];repeat' constructor
  ·have h:¬ x.kind=1:=by simpa using h
   have ew:width x=1:=by simp[width,h]
   rw[ew]at h1;refine hR _ (aW ?_ (ih (pre++[x]) _ (by simp) h1));rw[hw];repeat' constructor
theorem JK(its:List It)(σ:ag):PC prog 187 [.sl 3 (its.map It.cells)] σ (fun r σ'=>r=.i .i64 (eZ 0 its)∧σ'=σ):=by
 refine PC.intro func187 ajR fun aQ cz=>aj ?_;have hlen:=lD (cz 0 _ rfl).1;rw[List.length_map]at hlen;simp only[ac2,SS,seval];simp only[List.length_map,VV,seval];refine bA.aW ?_ (its.length+1) (VI its hlen its [] 0 rfl ?_)
 ·repeat' constructor
 ·intros;simp only[VV,seval];exact aO (.inr rfl) rfl ⟨rfl,rfl⟩
theorem Zd{n:Nat}{σ:ag}{K:Exit→St→Prop}(a b:List It)(hlen:a.length<2^63)(tD:a.length=b.length):∀ (ra rb pa pb:List It),a=pa++ra→b=pb++rb→pa.length=pb.length →
  (gq ra rb=true→(∀ j0 j1 j2 j3 j4 j5 j6 j7 j8 j9 cT cS cX cR cN cM cL cW df dn dx dy dD dI dH dG,K (.exit 0) ⟨[j0,j1,j2,j3,j4,j5,j6,j7,j8,j9,cT,cS,cX,cR,cN,cM,cL,cW,df,dn,dx,dy,dD,dI,dH,dG],σ⟩))→(gq ra rb=false→(∀ j0 j1 j2 j3 j5 j6 j7 j8 j9 cT cS cX cR cN cM cL cW df dn dx dy dD dI dH dG,K .ret ⟨[j0,j1,j2,j3,.b false,j5,j6,j7,j8,j9,cT,cS,cX,cR,cN,cM,cL,cW,df,dn,dx,dy,dD,dI,dH,dG],σ⟩)) →
  fO n prog NP K (ra.length+1) ⟨[.sl 3 (a.map It.cells),.sl 3 (b.map It.cells),.u,.u,.u,.u,.u,.u,.u,.u,.u,.u,.i .i64 a.length,.i .i64 pa.length,.u,.u,.u,.u,.u,.u,.u,.u,.u,.u,.u,.u],σ⟩:=by
 intro ra
 induction ra with
 | nil =>
  intro rb pa pb ha hb hp h1 h2
  have:rb=[]:=by
   subst ha;subst hb;simp at tD;exact bL (by omega)
  subst this;have ha:a=pa:=by simpa using ha
  subst ha;refine ax fun R hR=>?_;simp only[NP,VV,seval];exact⟨fun h=>by simp at h,fun _=>h1 rfl ..⟩
 | cons x ra ih =>
  intro rb pa pb ha hb hp h1 h2;cases rb with
  | nil=>subst ha;subst hb;simp at tD;omega
  | cons y rb =>
   subst ha;subst hb;have e2:(List.map It.cells (pb++y::rb)).getD pa.length []=y.cells:=by rw[hp];exact ki
   have hw:IntKind.i64.wrap ((pa.length:Int)+1)=(((pa++[x]).length:Nat):Int):=by
    rw[aV (by simp at hlen;omega)];simp
   refine ax fun R hR=>?_;simp only[NP,an,e2,It.cells,l7,di,VV,seval];have Q8:(0:Int)≤pa.length∧(pa.length:Int)<(List.map It.cells (pa++x::ra)).length:=by simp;omega
   have ZT:(0:Int)≤pa.length∧(pa.length:Int)<(List.map It.cells (pb++y::rb)).length:=by simp at tD ⊢;omega
   have hq:EY x y=(x.kind==y.kind&&(x.text==y.text&&x.id==y.id)):=rfl;rw[← hq];refine⟨fun _=>⟨Q8,ZT,fun h=>?_,fun h=>?_⟩,fun h=>by simp at h<;>omega⟩
   ·have h:EY x y=false:=by rw[cm]at h;exact h
    exact h2 (by simp[gq,h]) ..
   ·have h:EY x y=true:=by rw[dC]at h;exact h
    have e:gq (x::ra) (y::rb)=gq ra rb:=by simp[gq,h]
    rw[e]at h1 h2;refine hR _ (aW ?_ (ih rb (pa++[x]) (pb++[y]) (by simp) (by simp) (by simp[hp]) h1 h2));rw[hw];repeat' constructor
theorem vM(a b:List It)(σ:ag):PC prog 75 [.sl 3 (a.map It.cells),.sl 3 (b.map It.cells)] σ (fun r σ'=>r=.b (gq a b)∧σ'=σ):=by
 refine PC.intro func75 c75 fun aQ cz=>aj ?_;have hlen:=lD (cz 0 _ rfl).1;rw[List.length_map]at hlen;simp only[p75,SS,seval];simp only[List.length_map,VV,seval];refine⟨fun h=>?_,fun h=>?_⟩
 ·refine aO (.inr rfl) rfl ⟨?_,rfl⟩
  have:gq a b=false:=by
   cases h2:gq a b with
   | false=>rfl
   | true=>have:=FV h2;simp at h;omega
  simp[Pm.one,this]
 ·have tD:a.length=b.length:=by simp at h;omega
  refine bA.aW ?_ (a.length+1) (Zd a b hlen tD a b [] [] rfl rfl rfl (fun h=>?_) (fun h=>?_))
  ·repeat' constructor
  ·intros;simp only[VV,seval];exact aO (.inr rfl) rfl ⟨by simp[Pm.one,h],rfl⟩
  ·intros;exact aO (.inr rfl) rfl ⟨by simp[Pm.one,h],rfl⟩
theorem VK{σ:ag}{K:Exit→St→Prop}(N:Nat)(hN:N<2^40):∀ (k i:Nat),i+k=N →
  (∀ j0 j1 j2 j4 j5 j6 j7 j8 j9 cT cS cX cR cN,K (.exit 0) ⟨[j0,j1,j2,.own σ.length N,j4,j5,j6,j7,j8,j9,cT,cS,cX,cR,cN],σ++[.row 3 1 8 N false ((cu N).map bj)]⟩) →
  fO σ.length prog Hh K (k+1) ⟨[.i .i64 N,.u,.u,.own σ.length i,.i .i64 ((i+1:Nat):Int),.u,.u,.u,.u,.u,.u,.u,.u,.u,.u],σ++[.row 3 1 8 i false ((cu i).map bj)]⟩:=by
 intro k
 induction k with
 | zero =>
  intro i he h1;have he:i=N:=by omega
  subst he;refine ax fun R hR=>?_;simp only[Hh,VV,seval];exact⟨fun h=>by simp at h<;>omega,fun _=>h1 ..⟩
 | succ k ih =>
  intro i he h1;refine ax fun R hR=>?_;have hc:(cu i).map bj++[[.i .i64 ((i+1:Nat):Int)]]=(cu (i+1)).map bj:=by simp[cu,vy,bj]
  have aQ:(cu i).length=i:=by simp[cu]
  simp only[Hh,hc,List.length_map,aQ,VV,seval];refine⟨fun _=>⟨⟨by omega,by simp only[maxLen];omega⟩,?_⟩,fun h=>by simp at h<;>omega⟩;refine hR _ (aW ?_ (ih (i+1) (by omega) h1));rw[aV (by omega)]
  repeat' constructor
theorem Pr(n:Nat)(hn:n<2^40)(σ:ag):PC prog 182 [.i .i64 n] σ (fun r σ'=>r=.sl 1 ((cu n).map bj)∧σ'=σ):=by
 refine PC.intro func182 ajU fun aQ cz=>aj ?_;simp only[ac5,SS,seval];simp only[VV,seval];refine bA.wk ((Wk.gZ (k:=3) tI rfl).trans (Wk.ej ?_)) (bA.pd (n+1) (VK n hn n 0 (by omega) ?_))
 ·simp only[VV,seval]
  repeat' constructor
 ·intros;simp only[VV,seval];refine gg 0 aQ (.inr rfl) rfl rfl ?_ ?_
  ·simp[fz,kc,gM,uG]
  ·simp[fz,kc,Pm.one]
theorem VB{n:Nat}{σ:ag}{K:Exit→St→Prop}(s:List UInt8)(hlen:s.length<2^63):∀ (rest pre:List UInt8),s=pre++rest →
  (rest.all (fun b=>!gJ b)=true→(∀ j1 j2 j3 j4 j5 j6 j7 j8 j9 cT cS cX cR cN cM cL cW df dn dx dy dD dI dH dG dX ez eA eH eW fg fi ft fw fG fM fL fK fX gi gF gR gQ il ix iV iU iT iS iR jo jn jm jK jY kx ku kt kH lB l9 mD nr nH nG nF,K (.exit 0) ⟨[.s s,j1,j2,j3,j4,j5,j6,j7,j8,j9,cT,cS,cX,cR,cN,cM,cL,cW,df,dn,dx,dy,dD,dI,dH,dG,dX,ez,eA,eH,eW,fg,fi,ft,fw,fG,fM,fL,fK,fX,gi,gF,gR,gQ,il,ix,iV,iU,iT,iS,iR,jo,jn,jm,jK,jY,kx,ku,kt,kH,lB,l9,mD,nr,nH,nG,nF],σ⟩))→(rest.all (fun b=>!gJ b)=false→(∀ j0 j1 j3 j4 j5 j6 j7 j8 j9 cT cS cX cR cN cM cL cW df dn dx dy dD dI dH dG dX ez eA eH eW fg fi ft fw fG fM fL fK fX gi gF gR gQ il ix iV iU iT iS iR jo jn jm jK jY kx ku kt kH lB l9 mD nr nH nG nF,K .ret ⟨[j0,j1,.b false,j3,j4,j5,j6,j7,j8,j9,cT,cS,cX,cR,cN,cM,cL,cW,df,dn,dx,dy,dD,dI,dH,dG,dX,ez,eA,eH,eW,fg,fi,ft,fw,fG,fM,fL,fK,fX,gi,gF,gR,gQ,il,ix,iV,iU,iT,iS,iR,jo,jn,jm,jK,jY,kx,ku,kt,kH,lB,l9,mD,nr,nH,nG,nF],σ⟩)) →
  fO n prog Ha K (rest.length+1) ⟨[.s s,.u,.u,.i .i64 pre.length,.u,.u,.u,.u,.u,.u,.u,.u,.u,.u,.u,.u,.u,.u,.u,.u,.u,.u,.u,.u,.u,.u,.u,.u,.u,.u,.u,.u,.u,.u,.u,.u,.u,.u,.u,.u,.u,.u,.u,.u,.u,.u,.u,.u,.u,.u,.u,.u,.u,.u,.u,.u,.u,.u,.u,.u,.u,.u,.u,.u,.u,.u,.u],σ⟩:=by
 intro rest
 induction rest with
 | nil =>
  intro pre he h1 h2;have he:s=pre:=by simpa using he
  subst he;refine ax fun R hR=>?_;simp only[Ha,VV,seval];exact⟨fun h=>by simp at h,fun _=>h1 rfl ..⟩
 | cons c rest ih =>
  intro pre he h1 h2;subst he
  have hb:gJ c=(((((decide ((c.toNat:Int)<32)||decide (126<(c.toNat:Int)))||((c.toNat:Int)==60))||((c.toNat:Int)==62))||((c.toNat:Int)==123))||((c.toNat:Int)==125)):=by
   clear h1 h2 ih hlen;revert c;exact iw (by decide +kernel)
  refine ax fun R hR=>?_;simp only[Ha,VV,seval];rw[← hb];refine⟨fun _=>⟨by simp;omega,fun h=>?_,fun h=>?_⟩,fun h=>by simp at h<;>omega⟩
  ·exact h2 (by simp[h]) ..
  ·have e:(c::rest).all (fun b=>!gJ b)=rest.all (fun b=>!gJ b):=by simp[h]
   rw[e]at h1 h2;refine hR _ (aW ?_ (ih (pre++[c]) (by simp) h1 h2));rw[aV (by simp at hlen;omega)];simp only[List.length_append,ab,ah]
   repeat' constructor
theorem TZ(s:List UInt8):kS s=(isName (dm s)&&(decide ((dm s).length=s.length)||decide ((dm s).length+1<s.length))):=by
 have hb:=lY s 32
 by_cases h:0≤Lib.indexByte s 32
 ·have e0:cutAt s 32=(s.take (Lib.indexByte s 32).toNat,s.drop ((Lib.indexByte s 32).toNat+1),true):=by simp only[cutAt,if_pos h]
  have e3:dm s=s.take (Lib.indexByte s 32).toNat:=by simp only[dm,e0]
  simp only[kS,e0,e3];have e1:(s.take (Lib.indexByte s 32).toNat).length=(Lib.indexByte s 32).toNat:=by rw[aR];omega
  have e2:(s.drop ((Lib.indexByte s 32).toNat+1)).length=s.length - ((Lib.indexByte s 32).toNat+1):=by simp
  simp only[e1,e2,gU,kN];congr 1;rw[du];simp;omega
 ·have e0:cutAt s 32=(s,[],false):=by simp only[cutAt,if_neg h]
  have e3:dm s=s:=by simp only[dm,e0]
  simp only[kS,e0,e3];simp
theorem qa(s:List UInt8)(σ:ag):PC prog 224 [.s s] σ (fun r σ'=>r=.b (db s)∧σ'=σ):=by
 refine PC.intro func224 aju fun aQ cz=>aj ?_;have hlen:=Er (cz 0 _ rfl).1;simp only[acF,SS,seval];simp only[VV,seval];refine⟨fun h=>?_,fun h=>?_⟩
 ·refine aO (.inr rfl) rfl ⟨?_,rfl⟩;have h:¬ s.length≤64:=by simp at h;omega
  simp[Pm.one,db,jz,h]
 have h64:s.length≤64:=by simp at h;omega
 refine bA.aW ?_ (s.length+1) (VB s hlen s [] rfl (fun ha=>?_) (fun ha=>?_))
 ·repeat' constructor
 ·intros;simp only[VV,seval];refine ai (rH s _) rfl ?_;simp only[VV,seval];refine ai (mO (dm s) _) rfl ?_;simp only[VV,seval];have hle:(dm s).length≤s.length:=(wa s 32).1;have hw:IntKind.i64.wrap (((dm s).length:Int)+1)=((dm s).length:Int)+1:=IntWalk.i64_in _ (by omega);have hc:(((dm s).length:Int)==(s.length:Int))=decide ((dm s).length=s.length):=by rw[du];simp;omega
  have hd:decide (((dm s).length:Int)+1<(s.length:Int))=decide ((dm s).length+1<s.length):=by rw[du];simp;omega
  rw[hw,hc,hd,← TZ]
  have iQ:kS s=true→0<s.length:=fun h=>by
   cases s with
   | nil=>revert h;decide
   | cons c s=>simp
  refine⟨fun h=>?_,?_⟩
  ·have h:kS s=true:=by simpa using h
   have:=iQ h;rw[IntWalk.i64_in _ (by omega)];omega
  ·refine aO (.inr rfl) rfl ⟨?_,rfl⟩;cases hn:kS s with
   | false=>simp[Pm.one,db,hn]
   | true =>
    have h0:=iQ hn;have e1:(IntKind.i64.wrap ((s.length:Int) - 1)).toNat=s.length - 1:=by rw[IntWalk.i64_in _ (by omega)];omega
    simp only[Pm.one,aE,aT,e1,db,jz,hn,ha,dM,gW,h64,decide_true];have h3:s.length≠0:=by omega
    simp only[h3,ne_eq,not_false_eq_true,decide_true,dM,V.b.injEq];rw[du];simp;omega
 ·intros;exact aO (.inr rfl) rfl ⟨by simp[Pm.one,db,ha],rfl⟩
theorem FI(b:Bool)(n:Int):(b&&decide (1≤n)&&decide (n≤999))=!(!b||decide (n<1)||decide (999<n)):=by
 rw[du];simp[Nq]
theorem VH{σ:ag}{K:Exit→St→Prop}(its:List It)(x:It)(aQ:bP σ)(hlen:its.length<2^63):∀ (rest pre:List It),its=pre++rest →
  ((rest.all fun y=>!fa x y)=true→(∀ j0 j1 j2 j3 j4 j5 j6 j7 j8 j9 cT cS cX cR cN cM cL cW df dn dx dy dD dI dH dG dX ez eA eH eW fg fi ft fw fG fM fL fK fX gi gF gR gQ il ix iV iU iT iS iR jo jn jm jK jY kx ku kt kH lB l9 mD nr nH nG nF pw pt pq po pn pk qD tH uT uS uR uQ uP uO uN uM uL uK uJ xu xt xr xq xp xo xn xl xk xj xi xh xg zb nZ nY qm ql rh sL sK sJ sI sH sG sF sE sD,K (.exit 1) ⟨[j0,j1,j2,j3,j4,j5,j6,j7,j8,j9,cT,cS,cX,cR,cN,cM,cL,cW,df,dn,dx,dy,dD,dI,dH,dG,dX,ez,eA,eH,eW,fg,fi,ft,fw,fG,fM,fL,fK,fX,gi,gF,gR,gQ,il,ix,iV,iU,iT,iS,iR,jo,jn,jm,jK,jY,kx,ku,kt,kH,lB,l9,mD,nr,nH,nG,nF,pw,pt,pq,po,pn,pk,qD,tH,uT,uS,uR,uQ,uP,uO,uN,uM,uL,uK,uJ,xu,xt,xr,xq,xp,xo,xn,xl,xk,xj,xi,xh,xg,zb,nZ,nY,qm,ql,rh,sL,sK,sJ,sI,sH,sG,sF,sE,sD],σ++[.box 76 x.cells]⟩))→((rest.all fun y=>!fa x y)=false→∀ loc,(∀ j0 j1 j2 j3 j5 j6 j7 j8 j9 cT cS cX cR cN cM cL cW df dn dx dy dD dI dH dG dX ez eA eH eW fg fi ft fw fG fM fL fK fX gi gF gR gQ il ix iV iU iT iS iR jo jn jm jK jY kx ku kt kH lB l9 mD nr nH nG nF pw pt pq po pn pk qD tH uT uS uR uQ uP uO uN uM uL uK uJ xu xt xr xq xp xo xn xl xk xj xi xh xg zb nZ nY qm ql rh sL sK sJ sI sH sG sF sE sD,K .ret ⟨[j0,j1,j2,j3,.i .i64 7,j5,j6,j7,j8,j9,cT,cS,cX,cR,cN,cM,cL,cW,df,dn,dx,dy,dD,dI,dH,dG,dX,ez,eA,eH,eW,fg,fi,ft,fw,fG,fM,fL,fK,fX,gi,gF,gR,gQ,il,ix,iV,iU,iT,iS,iR,jo,jn,jm,jK,jY,kx,ku,kt,kH,lB,l9,mD,nr,nH,nG,nF,pw,pt,pq,po,pn,pk,qD,tH,uT,uS,uR,uQ,uP,uO,uN,uM,uL,uK,uJ,xu,xt,xr,xq,xp,xo,xn,xl,xk,xj,xi,xh,xg,zb,nZ,nY,qm,ql,rh,sL,sK,sJ,sI,sH,sG,sF,sE,sD],σ++(.box 76 x.cells::loc)⟩)) →
  fO σ.length prog Aj K (rest.length+1) ⟨[.sl 3 (its.map It.cells),.u,.u,.ptr σ.length 0,.u,.u,.u,.u,.u,.u,.u,.u,.u,.u,.u,.u,.u,.u,.u,.u,.u,.u,.u,.u,.u,.u,.u,.u,.u,.u,.u,.u,.u,.u,.u,.u,.u,.u,.u,.u,.u,.u,.u,.u,.u,.u,.u,.u,.u,.u,.u,.u,.u,.u,.u,.u,.u,.u,.u,.u,.u,.u,.u,.u,.u,.u,.u,.u,.u,.u,.u,.u,.u,.u,.u,.u,.u,.u,.u,.i .i64 its.length,.i .i64 pre.length,.u,.u,.u,.u,.u,.u,.u,.u,.u,.u,.u,.u,.u,.u,.u,.u,.u,.u,.u,.u,.u,.u,.u,.u,.u,.u,.u,.u,.u,.u,.u,.u,.u],σ++[.box 76 x.cells]⟩:=by
 intro rest
 induction rest with
 | nil =>
  intro pre he h1 h2;have he:its=pre:=by simpa using he
  subst he;refine ax fun R hR=>?_;simp only[Aj,VV,seval];exact⟨fun h=>by simp at h,fun _=>h1 rfl ..⟩
 | cons y rest ih =>
  intro pre he h1 h2;subst he
  have hw:IntKind.i64.wrap ((pre.length:Int)+1)=(((pre++[y]).length:Nat):Int):=by
   rw[aV (by simp at hlen;omega)];simp
  have next:fa x y=false→∀ {loc:ag} {R:St→Prop} {fr:List V},(∀ st',fO σ.length prog Aj K (rest.length+1) st'→R st') →
    pH fr [.sl 3 ((pre++y::rest).map It.cells),.u,.u,.ptr σ.length 0,.u,.u,.u,.u,.u,.u,.u,.u,.u,.u,.u,.u,.u,.u,.u,.u,.u,.u,.u,.u,.u,.u,.u,.u,.u,.u,.u,.u,.u,.u,.u,.u,.u,.u,.u,.u,.u,.u,.u,.u,.u,.u,.u,.u,.u,.u,.u,.u,.u,.u,.u,.u,.u,.u,.u,.u,.u,.u,.u,.u,.u,.u,.u,.u,.u,.u,.u,.u,.u,.u,.u,.u,.u,.u,.u,.i .i64 (pre++y::rest).length,.i .i64 (IntKind.i64.wrap ((pre.length:Int)+1)),.u,.u,.u,.u,.u,.u,.u,.u,.u,.u,.u,.u,.u,.u,.u,.u,.u,.u,.u,.u,.u,.u,.u,.u,.u,.u,.u,.u,.u,.u,.u,.u,.u]→R ⟨fr,σ++(.box 76 x.cells::loc)⟩:=by
   intro hf loc R fr hR hc;rw[hw]at hc;have e:((y::rest).all fun y=>!fa x y)=rest.all fun y=>!fa x y:=by simp[hf]
   rw[e]at h1 h2;refine hR _ (cH [_] loc (bU aQ (by simp only[bV,It.cells,LW];simp)) hc ?_ (ih (pre++[y]) (by simp) h1 h2));simp only[LW,ab,ah,aK];omega
  refine ax fun R hR=>?_;simp only[Aj,It.cells,VV,seval];refine⟨fun _=>⟨by simp;omega,?_⟩,fun h=>by simp at h<;>omega⟩;refine ai (w8 y _) rfl ?_;simp only[VV,seval];have e1:fa x y=(!(!cI y||y.id != x.id)&&(x.kind != 3||y.kind != 2||!(dm y.text==x.text))):=rfl;refine⟨fun h=>?_,fun h=>?_⟩
  ·refine next (by rw[e1,h];rfl) hR ?_
   simp only
   repeat' constructor
  ·refine bg (by simp only[VV,seval]<;>rfl) (fun _=>rH y.text _) rfl ?_;simp only[VV,seval];refine⟨fun h3=>?_,fun h3=>?_⟩
   ·have hb:fa x y=true:=by rw[e1,h];simpa[bne]using h3
    exact h2 (by simp[hb]) _ ..
   ·have hb:fa x y=false:=by rw[e1,h];simpa[bne]using h3
    refine next hb hR ?_
    simp only
    repeat' constructor
theorem CL(before:List It)(x:It)(σ:ag):PC prog 188 [.sl 3 (before.map It.cells),.agg x.cells] σ (fun r σ'=>r=.i .i64 (fE before x)∧σ'=σ):=by
 refine PC.intro func188 ajQ fun aQ cz=>aj ?_;have hlen:=lD (cz 0 _ rfl).1;rw[List.length_map]at hlen;simp only[ac1,SS,seval]
 have loop:∀ {fr:List V},bB before.getLast? x=true→cI x=true→pH fr [.sl 3 (before.map It.cells),.u,.u,.ptr σ.length 0,.u,.u,.u,.u,.u,.u,.u,.u,.u,.u,.u,.u,.u,.u,.u,.u,.u,.u,.u,.u,.u,.u,.u,.u,.u,.u,.u,.u,.u,.u,.u,.u,.u,.u,.u,.u,.u,.u,.u,.u,.u,.u,.u,.u,.u,.u,.u,.u,.u,.u,.u,.u,.u,.u,.u,.u,.u,.u,.u,.u,.u,.u,.u,.u,.u,.u,.u,.u,.u,.u,.u,.u,.u,.u,.u,.i .i64 before.length,.i .i64 ((0:Nat):Int),.u,.u,.u,.u,.u,.u,.u,.u,.u,.u,.u,.u,.u,.u,.u,.u,.u,.u,.u,.u,.u,.u,.u,.u,.u,.u,.u,.u,.u,.u,.u,.u,.u] →
   bA σ.length prog (.loop Aj) (Ed 1 (RK (BE σ.length prog (.seq (.dq [] [⟨some 4,[],.k6 (.c (.i .i64 0))⟩]) .ret) (BI prog σ.length [.t 4] fun r σ'=>r=.i .i64 (fE before x)∧σ'=σ)) (BI prog σ.length [.t 4] fun r σ'=>r=.i .i64 (fE before x)∧σ'=σ)))
    ⟨fr,σ++[.box 76 x.cells]⟩:=by
  intro fr hf ht hc;refine bA.aW hc (before.length+1) (VH before x aQ hlen before [] rfl (fun ha=>?_) (fun ha=>?_))
  ·intros;simp only[VV,seval];refine aG aQ (.inr rfl) (by simp only[RS,seval];rfl) (by simp only[LW]) ⟨?_,rfl⟩;have UG:fits before x=true:=ha;simp[Pm.one,fE,hf,ht,UG]
  ·intros;simp only[VV,seval];refine aG aQ (.inr rfl) (by simp only[RS,seval];rfl) (by simp only[LW]) ⟨?_,rfl⟩;have UG:fits before x=false:=ha;simp[Pm.one,fE,hf,ht,UG]
 have early:cI x=false→fE before x=if bB before.getLast? x=false then 1 else 0:=by
  intro h;simp[fE,h]
 by_cases k1:x.kind=1
 ·have hnt:cI x=false:=by simp[cI,k1]
  rw[early hnt];rcases dQ before with hb | ⟨b',y,hb⟩
  ·subst hb;have e0:decide ((0:Int)<(([]:List V).length:Int))=false:=rfl;simp only[It.cells,k1,az,VV,seval];refine⟨fun h=>by simp at h,.i .i64 0,fun h=>by simp at h,?_⟩;simp only[VV,seval];refine⟨fun h=>?_,fun h=>?_⟩ <;>
   ·refine aG aQ (.inr rfl) (by simp only[RS,seval];rfl) (by simp only[LW]) ⟨?_,rfl⟩;have e2:bB ([]:List It).getLast? x=!(x.text==[]||x.id != 0):=by simp[bB,k1,bne]
    rw[e2,h];rfl
  ·rw[dt]at hb;subst hb
   have hp:IntKind.i64.wrap (((b'++[y]).length:Int) - 1)=b'.length:=by
    have:(b'++[y]).length<2^63:=hlen;rw[IntWalk.i64_in _ (by simp at this ⊢;omega)];simp
   have dY:fe (List.map It.cells (b'++[y])) b'.length 0=some (.i .i64 y.kind):=by
    rw[lU];rfl
   have e0:decide ((0:Int)<((List.map It.cells (b'++[y])).length:Int))=true:=by simp
   have e2:bB (b'++[y]).getLast? x=!((x.text==[]||x.id != 0)||y.kind==1):=by simp[bB,k1,bne]
   rw[e2];simp only[It.cells,k1,VV,seval];simp only[List.length_map,hp,an,dY,VV,seval];refine⟨fun _=>by simp;omega,.i .i64 y.kind,fun _=>?_,?_⟩
   ·rfl
   have e3:decide ((0:Int)<((b'++[y]).length:Int))=true:=by simp
   simp only[e3,VV,seval];refine⟨fun h=>?_,fun h=>?_⟩ <;>
   ·refine aG aQ (.inr rfl) (by simp only[RS,seval];rfl) (by simp only[LW]) ⟨?_,rfl⟩;rw[h];rfl
 by_cases k5:x.kind=5
 ·have hnt:cI x=false:=by simp[cI,k5]
  rw[early hnt];have e2:bB before.getLast? x=!(!isName x.text||x.id != 0):=by simp[bB,k5,bne]
  rw[e2];simp only[It.cells,k5,VV,seval];refine ai (mO _ _) rfl ?_;simp only[VV,seval];refine⟨fun h=>?_,fun h=>?_⟩ <;>
  ·refine aG aQ (.inr rfl) (by simp only[RS,seval];rfl) (by simp only[LW]) ⟨?_,rfl⟩;rw[h];rfl
 have bad:bB before.getLast? x=false→fE before x=1:=fun h=>by simp[fE,h]
 have skip:bB before.getLast? x=true→cI x=false→fE before x=0:=fun h h2=>by simp[fE,h,h2]
 by_cases k24:x.kind=2∨x.kind=4
 ·have ht:cI x=true:=by simp[cI];rcases k24 with h | h<;>simp[h]
  have e2:bB before.getLast? x=!(!db x.text||decide (x.id<1)||decide (999<x.id)):=by
   rw[← FI];simp[bB,k24,k1,k5]
  rcases k24 with k | k
  ·rw[It.cells,k]at loop;simp only[It.cells,k,VV,seval];refine ai (qa _ _) rfl ?_;simp only[VV,seval];refine⟨fun h=>?_,fun h=>loop (by rw[e2,h];rfl) ht (by simp only[List.length_map,iI];repeat' constructor)⟩;refine aG aQ (.inr rfl) (by simp only[RS,seval];rfl) (by simp only[LW]) ⟨?_,rfl⟩;rw[bad (by rw[e2,h];rfl)];rfl
  ·rw[It.cells,k]at loop;simp only[It.cells,k,VV,seval];refine ai (qa _ _) rfl ?_;simp only[VV,seval];refine⟨fun h=>?_,fun h=>loop (by rw[e2,h];rfl) ht (by simp only[List.length_map,iI];repeat' constructor)⟩;refine aG aQ (.inr rfl) (by simp only[RS,seval];rfl) (by simp only[LW]) ⟨?_,rfl⟩;rw[bad (by rw[e2,h];rfl)];rfl
 by_cases k3:x.kind=3
 ·have ht:cI x=true:=by simp[cI,k3]
  have e2:bB before.getLast? x=!(!isName x.text||decide (x.id<1)||decide (999<x.id)):=by
   rw[← FI];simp[bB,k3]
  rw[It.cells,k3]at loop;simp only[It.cells,k3,VV,seval];refine ai (mO _ _) rfl ?_;simp only[VV,seval];refine⟨fun h=>?_,fun h=>loop (by rw[e2,h];rfl) ht (by simp only[List.length_map,iI];repeat' constructor)⟩;refine aG aQ (.inr rfl) (by simp only[RS,seval];rfl) (by simp only[LW]) ⟨?_,rfl⟩;rw[bad (by rw[e2,h];rfl)];rfl
 ·have n1:(x.kind==1)=false:=by simpa using k1
  have n2:(x.kind==2)=false:=by simp;omega
  have n3:(x.kind==3)=false:=by simpa using k3
  have n4:(x.kind==4)=false:=by simp;omega
  have n5:(x.kind==5)=false:=by simpa using k5
  have e2:bB before.getLast? x=false:=by simp[bB,k1,k24,k3,k5]
  rw[bad e2];simp only[It.cells,n1,n2,n3,n4,n5,VV,seval];exact aG aQ (.inr rfl) (by simp only[RS,seval];rfl) (by simp only[LW]) ⟨rfl,rfl⟩
theorem V1{σ:ag}{K:Exit→St→Prop}(its:List It)(aQ:bP σ)(hlen:its.length<2^63):∀ (rest pre:List It),its=pre++rest →
  (bt pre rest=0→(∀ j0 j1 j2 j3 j4 j5 j6 j7 j8 j9 cT cS cX cR cN cM cL cW df dn dx dy dD dI dH dG dX ez eA eH,K (.exit 0) ⟨[j0,j1,j2,j3,j4,j5,j6,j7,j8,j9,cT,cS,cX,cR,cN,cM,cL,cW,df,dn,dx,dy,dD,dI,dH,dG,dX,ez,eA,eH],σ⟩))→(bt pre rest≠0→(∀ j0 j1 j3 j4 j5 j6 j7 j8 j9 cT cS cX cR cN cM cL cW df dn dx dy dD dI dH dG dX ez eA eH,K .ret ⟨[j0,j1,.i .i64 (bt pre rest),j3,j4,j5,j6,j7,j8,j9,cT,cS,cX,cR,cN,cM,cL,cW,df,dn,dx,dy,dD,dI,dH,dG,dX,ez,eA,eH],σ⟩)) →
  fO σ.length prog HB K (rest.length+1) ⟨[.sl 3 (its.map It.cells),.u,.u,.u,.u,.u,.u,.u,.u,.u,.u,.u,.u,.u,.i .i64 its.length,.i .i64 pre.length,.u,.u,.u,.u,.u,.u,.u,.u,.u,.u,.u,.u,.u,.u],σ⟩:=by
 intro rest
 induction rest with
 | nil =>
  intro pre he h1 h2;have he:its=pre:=by simpa using he
  subst he;refine ax fun R hR=>?_;simp only[HB,VV,seval];exact⟨fun h=>by simp at h,fun _=>h1 rfl ..⟩
 | cons y rest ih =>
  intro pre he h1 h2;subst he;refine ax fun R hR=>?_;have ht:List.take pre.length (List.map It.cells (pre++y::rest))=pre.map It.cells:=by simp
  simp only[HB,It.cells,VV,seval];refine⟨fun _=>?_,fun h=>by simp at h;omega⟩;refine⟨by simp;omega,by simp;omega,?_⟩;rw[ht];refine ai (CL pre y _) rfl ?_;simp only[VV,seval];refine⟨fun h=>?_,fun h=>?_⟩
  ·have h':fE pre y≠0:=by simpa using h
   have e:bt pre (y::rest)=fE pre y:=by rw[uV,if_pos h']
   rw[e]at h2;exact h2 h' ..
  ·have h':fE pre y=0:=by simpa using h
   have e:bt pre (y::rest)=bt (pre++[y]) rest:=by rw[uV,h'];simp
   rw[e]at h1 h2;refine hR _ (aW ?_ (ih (pre++[y]) (by simp) h1 h2));rw[aV (by simp at hlen;omega)];simp only[List.length_append,ab,ah]
   repeat' constructor
theorem re(its:List It)(σ:ag):PC prog 126 [.sl 3 (its.map It.cells)] σ (fun r σ'=>r=.i .i64 (bO its)∧σ'=σ):=by
 refine PC.intro func126 aky fun aQ cz=>aj ?_;have hlen:=lD (cz 0 _ rfl).1;rw[List.length_map]at hlen;simp only[adJ,SS,seval];simp only[List.length_map,VV,seval];refine bg (by simp only[VV,seval]<;>rfl) (fun _=>JK its _) rfl ?_;simp only[List.length_map,VV,seval];refine⟨fun h=>?_,fun h=>?_⟩
 ·refine aO (.inr rfl) (by simp only[RS,seval];rfl) ⟨?_,rfl⟩;simp at h;have:512<its.length∨1024<eZ 0 its:=by omega
  simp only[Pm.one,bO,this,if_true]
 ·simp at h;have hn:¬ (512<its.length∨1024<eZ 0 its):=by omega
  refine bA.aW ?_ (its.length+1) (V1 its aQ hlen its [] rfl (fun h1=>?_) (fun h1=>?_))
  ·simp only[VV,seval]
   repeat' constructor
  ·intros;simp only[VV,seval];exact aO (.inr rfl) (by simp only[RS,seval];rfl) ⟨by simp only[Pm.one,bO,hn,h1,if_false],rfl⟩
  ·intros;simp only[VV,seval];exact aO (.inr rfl) (by simp only[RS,seval];rfl) ⟨by simp only[Pm.one,bO,hn,if_false],rfl⟩
theorem VL{σ:ag}{K:Exit→St→Prop}(its:List It)(aQ:bP σ)(hlen:its.length<2^40):∀ (rest pre:List It) (acc:List Int) (g:Nat),its=pre++rest→acc.length≤pre.length →
  (∀ g,(∀ j0 j1 j2 j4 j5 j6 j7 j8 j9 cT cS cX cR cN cM cL cW df dn dx dy dD dI dH dG dX ez eA eH eW fg fi ft fw,K (.exit 0) ⟨[j0,j1,j2,.own σ.length g,j4,j5,j6,j7,j8,j9,cT,cS,cX,cR,cN,cM,cL,cW,df,dn,dx,dy,dD,dI,dH,dG,dX,ez,eA,eH,eW,fg,fi,ft,fw],σ++[.row 3 1 8 g true ((cB acc rest).map bj)]⟩)) →
  fO σ.length prog Hi K (rest.length+1) ⟨[.sl 3 (its.map It.cells),.u,.u,.own σ.length g,.u,.u,.i .i64 its.length,.i .i64 pre.length,.u,.u,.u,.u,.u,.u,.u,.u,.u,.u,.u,.u,.u,.u,.u,.u,.u,.u,.u,.u,.u,.u,.u,.u,.u,.u,.u],σ++[.row 3 1 8 g true (acc.map bj)]⟩:=by
 intro rest
 induction rest with
 | nil =>
  intro pre acc g he ha h1;have he:its=pre:=by simpa using he
  subst he;refine ax fun R hR=>?_;simp only[Hi,VV,seval];exact⟨fun h=>by simp at h,fun _=>h1 g ..⟩
 | cons y rest ih =>
  intro pre acc g he ha h1;subst he
  have hw:IntKind.i64.wrap ((pre.length:Int)+1)=(((pre++[y]).length:Nat):Int):=by
   rw[aV (by simp at hlen;omega)];simp
  refine ax fun R hR=>?_;simp only[Hi,It.cells,VV,seval];refine⟨fun _=>⟨by simp;omega,?_⟩,fun h=>by simp at h<;>omega⟩;refine ai (w8 y _) rfl ?_;have bnd:(0:Int)≤pre.length∧(pre.length:Int)<(List.map It.cells (pre++y::rest)).length:=by simp;omega
  cases ht:cI y with
  | false =>
   have e:cB acc (y::rest)=cB acc rest:=by simp[cB,ht]
   rw[e]at h1;simp only[It.cells,VV,seval];refine⟨fun h=>by simp at h,.i .i64 0,fun h=>by simp at h,?_⟩;refine bg (c:=false) (v:=.b false) (by rfl) (fun h=>by simp at h) rfl ?_;simp only[VV,seval];refine hR _ (aW ?_ (ih (pre++[y]) acc g (by simp) (by simp;omega) h1));rw[hw];repeat' constructor
  | true =>
   simp only[It.cells,VV,seval];refine⟨bnd,.i .i64 y.id,rfl,?_⟩;refine bg (c:=true) (by rfl) (fun _=>PC.fzs σ.length (by simp only[gr];rfl) (R6 acc y.id _) (by simp only[ay,az,ev,aT,aE,fz,kc,and_self,if_true])) rfl ?_;simp only[It.cells,VV,seval];refine⟨fun h=>?_,fun h=>?_⟩
   ·have h:acc.contains y.id=false:=by rw[cm]at h;exact h
    have e:cB acc (y::rest)=cB (acc++[y.id]) rest:=by simp only[cB,ht,h,jS,afz,if_true]
    rw[e]at h1;have hr:acc.map bj++[[V.i .i64 y.id]]=(acc++[y.id]).map bj:=by simp[bj]
    rw[hr];refine⟨bnd,⟨by simp at hlen ⊢;omega,by simp at hlen ⊢;simp only[maxLen];omega⟩,?_⟩;refine hR _ (aW ?_ (ih (pre++[y]) (acc++[y.id]) (g+1) (by simp) (by simp;omega) h1));rw[hw];repeat' constructor
   ·have h:acc.contains y.id=true:=by rw[dC]at h;exact h
    have e:cB acc (y::rest)=cB acc rest:=by simp only[cB,ht,h,gU,yf];rfl
    rw[e]at h1;refine hR _ (aW ?_ (ih (pre++[y]) acc g (by simp) (by simp;omega) h1));rw[hw];repeat' constructor
theorem G1(its:List It)(hlen:its.length<2^40)(σ:ag):PC prog 181 [.sl 3 (its.map It.cells)] σ (fun r σ'=>r=.sl 1 ((numbers its).map bj)∧σ'=σ):=by
 refine PC.intro func181 ajV fun aQ cz=>aj ?_;simp only[ac6,SS,seval];simp only[List.length_map,VV,seval];refine bA.wk ((Wk.gZ (k:=3) tI rfl).trans (Wk.YA.trans (Wk.ej ?_))) (bA.pd (its.length+1) (VL its aQ hlen its [] [] 0 rfl (aB _) ?_))
 ·simp only[VV,seval]
  repeat' constructor
 ·intro g;intros;simp only[VV,seval];refine gg 0 aQ (.inr rfl) rfl rfl ?_ ?_
  ·simp[fz,kc,gM,uG]
  ·simp[fz,kc,Pm.one,numbers]
theorem Ji:Ti prog 76 3 32:=nR (by kernel_rfl)
theorem Og{σ:ag}{K:Exit→St→Prop}(its:List It)(aQ:bP σ)(hlen:its.length<2^40)(aes:aM its<2^40):∀ (rest pre out:List It) (g:Nat),its=pre++rest→out.length≤pre.length→aM out≤aM pre →
  (∀ g,(∀ j0 j1 j2 j4 j5 j6 j7 j8 j9 cT cS cX cR cN cM cL cW df dn dx dy dD dI dH dG dX ez eA eH eW fg fi ft fw fG fM fL fK fX gi gF gR gQ il ix iV iU iT iS iR jo jn jm jK jY kx ku kt kH lB,K (.exit 0) ⟨[j0,j1,j2,.own σ.length g,j4,j5,j6,j7,j8,j9,cT,cS,cX,cR,cN,cM,cL,cW,df,dn,dx,dy,dD,dI,dH,dG,dX,ez,eA,eH,eW,fg,fi,ft,fw,fG,fM,fL,fK,fX,gi,gF,gR,gQ,il,ix,iV,iU,iT,iS,iR,jo,jn,jm,jK,jY,kx,ku,kt,kH,lB],σ++[.row 76 3 32 g false ((rest.foldl cD out).map It.cells)]⟩)) →
  fO σ.length prog CT K (rest.length+1) ⟨[.sl 3 (its.map It.cells),.u,.u,.own σ.length g,.u,.u,.u,.u,.i .i64 its.length,.i .i64 pre.length,.u,.u,.u,.u,.u,.u,.u,.u,.u,.u,.u,.u,.u,.u,.u,.u,.u,.u,.u,.u,.u,.u,.u,.u,.u,.u,.u,.u,.u,.u,.u,.u,.u,.u,.u,.u,.u,.u,.u,.u,.u,.u,.u,.u,.u,.u,.u,.u,.u,.u,.u],σ++[.row 76 3 32 g false (out.map It.cells)]⟩:=by
 intro rest
 induction rest with
 | nil =>
  intro pre out g he ho ht h1;have he:its=pre:=by simpa using he
  subst he;refine ax fun R hR=>?_;simp only[CT,VV,seval];exact⟨fun h=>by simp at h,fun _=>h1 g ..⟩
 | cons x rest ih =>
  intro pre out g he ho ht h1;subst he
  have next:∀ (out':List It) (g':Nat) {loc:ag},cD out x=out'→∀ {R:St→Prop} {fr:List V},(∀ st',fO σ.length prog CT K (rest.length+1) st'→R st') →
    pH fr [.sl 3 ((pre++x::rest).map It.cells),.u,.u,.own σ.length g',.u,.u,.u,.u,.i .i64 (pre++x::rest).length,.i .i64 (IntKind.i64.wrap ((pre.length:Int)+1)),.u,.u,.u,.u,.u,.u,.u,.u,.u,.u,.u,.u,.u,.u,.u,.u,.u,.u,.u,.u,.u,.u,.u,.u,.u,.u,.u,.u,.u,.u,.u,.u,.u,.u,.u,.u,.u,.u,.u,.u,.u,.u,.u,.u,.u,.u,.u,.u,.u,.u,.u]→R ⟨fr,σ++(.row 76 3 32 g' false (out'.map It.cells)::loc)⟩:=by
   intro out' g' loc hw R fr hR hc
   have e1:IntKind.i64.wrap ((pre.length:Int)+1)=(((pre++[x]).length:Nat):Int):=by
    rw[aV (by simp at hlen;omega)];simp
   rw[e1]at hc;have hb:=qh out x;rw[hw]at hb;have e2:(x::rest).foldl cD out=rest.foldl cD out':=by rw[bd,hw]
   rw[e2]at h1;refine hR _ (cH [_] loc (bU aQ (by simp)) hc ?_ (ih (pre++[x]) out' g' (by simp) (by simp;omega) (by simp only[eK,aM];omega) h1));simp only[LW,ab,ah,aK];omega
  have okA:(out.length+1)*32≤2^47∧out.length+1≤maxLen:=by simp at hlen;simp[maxLen];omega
  refine ax fun R hR=>?_;simp only[CT,It.cells,VV,seval];refine⟨fun _=>⟨by simp;omega,fun hk=>?_,fun hk=>⟨fun Wt=>?_,fun Wt=>?_⟩⟩,fun h=>by simp at h<;>omega⟩
  ·have hk:x.kind≠1:=by simpa using hk
   have cP:out.map It.cells++[[.i .i64 x.kind,.s x.text,.i .i64 x.id]]=(out++[x]).map It.cells:=by simp[It.cells]
   refine⟨by rw[List.length_map];exact okA,?_⟩;rw[cP];refine next (out++[x]) (g+1) (by simp[cD,hk]) hR ?_
   simp only
   repeat' constructor
  ·have hk:x.kind=1:=by simpa using hk
   have Wt:x.text=[]:=by simpa using Wt
   refine next out g (by simp[cD,hk,Wt]) hR ?_
   simp only
   repeat' constructor
  have hk:x.kind=1:=by simpa using hk
  have Wt:x.text≠[]:=by simpa using Wt
  rcases dQ out with Tc | ⟨out',y,aeL⟩
  ·subst Tc;have e0:decide ((0:Int)<(([]:List (List V)).length:Int))=false:=rfl;simp only[az,e0];refine⟨fun h=>by simp at h,.i .i64 0,fun h=>by simp at h,?_⟩;simp only[VV,seval];refine⟨by decide,next [⟨1,x.text,0⟩] (g+1) (by simp[cD,hk,Wt]) hR ?_⟩;simp only
   repeat' constructor
  ·rw[dt]at aeL;subst aeL
   have hp:IntKind.i64.wrap (((out'++[y]).length:Int) - 1)=out'.length:=by
    have:(out'++[y]).length<2^63:=by simp at ho hlen ⊢;omega
    rw[IntWalk.i64_in _ (by simp at this ⊢;omega)];simp
   have dY:fe (List.map It.cells (out'++[y])) out'.length 0=some (.i .i64 y.kind):=by
    rw[lU];rfl
   have e0:decide ((0:Int)<((List.map It.cells (out'++[y])).length:Int))=true:=by simp
   simp only[List.length_map,hp,an,dY];refine⟨fun _=>by simp;omega,.i .i64 y.kind,fun _=>⟨True,rfl,trivial⟩,?_⟩;have e3:decide ((0:Int)<((out'++[y]).length:Int))=true:=by simp
   have WM:fe (List.map It.cells (out'++[y])) out'.length 1=some (.s y.text):=by
    rw[lU];rfl
   simp only[e3,hp,an,WM,List.length_map,VV,seval];have hb:(0:Int)≤(out'.length:Int)∧(out'.length:Int)<((out'++[y]).length:Int):=⟨by omega,by rw[List.length_append,List.length_singleton];omega⟩;refine⟨fun hy=>⟨hb,?_,hb,by omega,?_⟩,fun hy=>⟨okA,?_⟩⟩
   ·simp only[eK,aM]at ht aes;simp only[maxLen];omega
   ·have hy:y.kind=1:=by simpa using hy
    have cP:(List.map It.cells (out'++[y])).set out'.length (.i .i64 1::.s (y.text++x.text)::.i .i64 0::List.drop 3 y.cells)=(out'++[(⟨1,y.text++x.text,0⟩:It)]).map It.cells:=by
     simp[List.set_append,It.cells]
    rw[cP];refine next (out'++[⟨1,y.text++x.text,0⟩]) g (by simp[cD,hk,Wt,hy]) hR ?_
    simp only
    repeat' constructor
   ·have hy:¬ y.kind=1:=by simpa using hy
    have cP:List.map It.cells (out'++[y])++[[.i .i64 1,.s x.text,.i .i64 0]]=(out'++[y]++[(⟨1,x.text,0⟩:It)]).map It.cells:=by simp[It.cells]
    rw[cP];refine next (out'++[y]++[⟨1,x.text,0⟩]) (g+1) (by simp[cD,hk,Wt,hy]) hR ?_
    simp only
    repeat' constructor
theorem uo(its:List It)(hlen:its.length<2^40)(ht:aM its<2^40)(σ:ag):PC prog 216 [.sl 3 (its.map It.cells)] σ (fun r σ'=>r=.sl 3 ((normalize its).map It.cells)∧σ'=σ):=by
 refine PC.intro func216 afm fun aQ cz=>aj ?_;simp only[YK,SS,seval];simp only[List.length_map,VV,seval];refine bA.wk ((Wk.gZ (k:=3) Ji rfl).trans (Wk.ej ?_)) (bA.pd (its.length+1) (Og its aQ hlen ht its [] [] 0 rfl (aB _) (aB _) ?_))
 ·simp only[VV,seval]
  repeat' constructor
 ·intro g;intros;simp only[VV,seval];refine gg 0 aQ (.inr rfl) rfl rfl ?_ ?_
  ·simp[fz,kc,gM,uG]
  ·have e:its.foldl cD []=normalize its:=oO its;simp[fz,kc,Pm.one,e]
theorem mN(a b:List It)(ha:a.length<2^39)(hb:b.length<2^39)(dY:aM a<2^39)(hbt:aM b<2^39)(σ:ag):PC prog 180 [.sl 3 (a.map It.cells),.sl 3 (b.map It.cells)] σ (fun r σ'=>r=.sl 3 ((normalize (a++b)).map It.cells)∧σ'=σ):=by
 refine PC.intro func180 afn fun aQ cz=>aj ?_;simp only[YM,SS,seval];simp only[List.length_map,VV,seval];refine⟨by simp[maxLen];omega,by simp[maxLen];omega,?_⟩;refine oD σ.length (by simp only[gr];rfl) (uo (a++b) (by simp;omega) (by rw[eK];omega) _) (by simp[fz,kc,ev]) ?_;simp only[VV,seval];exact aG aQ (.inr rfl) (by simp only[RS,seval];rfl) (by simp only[LW]) ⟨rfl,rfl⟩
theorem aeb(c:UInt8):((c.toNat:Int) != 62)=(c != 62):=by revert c;exact iw (by decide +kernel)
theorem Xk(c:UInt8):(decide (48≤(c.toNat:Int))&&decide ((c.toNat:Int)≤57))=dP c:=by revert c;exact iw (by decide +kernel)
theorem TW{pre:List UInt8}{c:UInt8}(hp:∀ c∈pre,dP c=true)(hl:pre.length≤4)(hc:dP c=true):
  IntKind.i64.wrap (IntKind.i64.wrap (10*dZ 0 pre)+IntKind.i64.wrap (IntKind.u8.wrap ((c.toNat:Int) - 48)))=dZ 0 (pre++[c]):=by
 have h:=DW pre 0 pre.length rfl (bI.2 hp) (UK 0)
 have ML:(10:Int)^pre.length≤10^4:=by
  have:pre.length=0∨pre.length=1∨pre.length=2∨pre.length=3∨pre.length=4:=by omega
  rcases this with h | h | h | h | h<;>rw[h]<;>decide
 simp only[dP,aC,decide_eq_true_eq]at hc;have e:IntKind.u8.wrap ((c.toNat:Int) - 48)=(c.toNat:Int) - 48:=IntWalk.u8_in _ (by omega);have h2:dZ 0 pre<10000:=by omega
 rw[e,IntWalk.i64_in (10*dZ 0 pre) (by omega),IntWalk.i64_in ((c.toNat:Int) - 48) (by omega),IntWalk.i64_in _ (by omega)];simp[dZ]
theorem LD{pre rest:List UInt8}(hp:∀ c∈pre,dP c=true):((pre++rest).takeWhile dP).length=pre.length+(rest.takeWhile dP).length:=by
 rw[List.takeWhile_append_of_pos hp,List.length_append]
set_option maxRecDepth 4000 in
theorem PV{n:Nat}{σ:ag}{K:Exit→St→Prop}(A:V)(s:List UInt8)(hlen:s.length<2^62):∀ (rest pre:List UInt8),s=pre++rest →
  ((∀ j1 j3 j5 j6 j7 j8 j9 cT cS cX cR cN cM cL cW df dn dx dy dD dI dH dG dX ez eA eH eW fg fi ft fw fG fM fL fK fX gi gF gR gQ il ix iV iU iT iS iR jo jn jm jK jY kx ku kt kH lB l9 mD nr nH nG nF pw pt pq po pn pk qD tH uT uS uR uQ uP uO uN uM uL uK uJ xu xt xr xq xp xo xn xl xk xj xi xh xg zb nZ nY qm ql rh sL sK sJ sI sH sG sF sE sD xM xL xK xJ xH xG xF xE xD xC xB xA xz xy xx xw Aw Av Au As Ar H5 H4 H3 H2,K (.exit 0) ⟨[.s s,j1,A,j3,.i .i64 ((pre.length+(rest.takeWhile fun c=>c != 62).length:Nat):Int),j5,j6,j7,j8,j9,cT,cS,cX,cR,cN,cM,cL,cW,df,dn,dx,dy,dD,dI,dH,dG,dX,ez,eA,eH,eW,fg,fi,ft,fw,fG,fM,fL,fK,fX,gi,gF,gR,gQ,il,ix,iV,iU,iT,iS,iR,jo,jn,jm,jK,jY,kx,ku,kt,kH,lB,l9,mD,nr,nH,nG,nF,pw,pt,pq,po,pn,pk,qD,tH,uT,uS,uR,uQ,uP,uO,uN,uM,uL,uK,uJ,xu,xt,xr,xq,xp,xo,xn,xl,xk,xj,xi,xh,xg,zb,nZ,nY,qm,ql,rh,sL,sK,sJ,sI,sH,sG,sF,sE,sD,xM,xL,xK,xJ,xH,xG,xF,xE,xD,xC,xB,xA,xz,xy,xx,xw,Aw,Av,Au,As,Ar,H5,H4,H3,H2],σ⟩)) →
  fO n prog G9 K (rest.length+1) ⟨[.s s,.u,A,.u,.i .i64 pre.length,.u,.u,.u,.u,.u,.u,.u,.u,.u,.u,.u,.u,.u,.u,.u,.u,.u,.u,.u,.u,.u,.u,.u,.u,.u,.u,.u,.u,.u,.u,.u,.u,.u,.u,.u,.u,.u,.u,.u,.u,.u,.u,.u,.u,.u,.u,.u,.u,.u,.u,.u,.u,.u,.u,.u,.u,.u,.u,.u,.u,.u,.u,.u,.u,.u,.u,.u,.u,.u,.u,.u,.u,.u,.u,.u,.u,.u,.u,.u,.u,.u,.u,.u,.u,.u,.u,.u,.u,.u,.u,.u,.u,.u,.u,.u,.u,.u,.u,.u,.u,.u,.u,.u,.u,.u,.u,.u,.u,.u,.u,.u,.u,.u,.u,.u,.u,.u,.u,.u,.u,.u,.u,.u,.u,.u,.u,.u,.u,.u,.u,.u,.u,.u,.u],σ⟩:=by
 intro rest
 induction rest with
 | nil =>
  intro pre he h1;have he:s=pre:=by simpa using he
  subst he;have e0:decide ((s.length:Int)<(s.length:Int))=false:=by simp
  simp only[List.takeWhile_nil,ah,bC]at h1;refine ax fun R hR=>?_;simp only[G9,e0,VV,seval];exact⟨fun h=>by simp at h,h1 ..⟩
 | cons c rest ih =>
  intro pre he h1;subst he;have e0:decide ((pre.length:Int)<((pre++c::rest).length:Int))=true:=by simp;omega
  refine ax fun R hR=>?_;simp only[G9,e0,VV,seval];refine⟨by simp;omega,fun hc=>?_,fun hc=>?_⟩
  ·have zk:(c != 62)=true:=by rw[← aeb];exact hc
   have e2:pre.length+((c::rest).takeWhile fun c=>c != 62).length=(pre++[c]).length+(rest.takeWhile fun c=>c != 62).length:=by
    rw[eg,if_pos zk];simp;omega
   rw[e2]at h1;refine hR _ (aW ?_ (ih (pre++[c]) (by simp) h1));rw[aV (by simp at hlen;omega)];simp only[List.length_append,ab,ah]
   repeat' constructor
  ·have zk:¬ (c != 62)=true:=by rw[← aeb,hc];simp
   have e2:pre.length+((c::rest).takeWhile fun c=>c != 62).length=pre.length:=by
    rw[eg,if_neg zk];simp
   rw[e2]at h1;exact h1 ..
set_option maxRecDepth 4000 in
theorem PU{n:Nat}{σ:ag}{K:Exit→St→Prop}(A B C:V)(t:List UInt8)(hlen:t.length<2^62):∀ (m:Nat) (pre rest:List UInt8),t=pre++rest→pre.length+m=4→(∀ c∈pre,dP c=true) →
  (∀ k:Nat,k=min 4 (t.takeWhile dP).length→(∀ j0 j1 j3 j9 cT cS cX cR cN cM cL cW df dn dx dy dD dI dH dG dX ez eA eH eW fg fi ft fw fG fM fL fK fX gi gF gR gQ il ix iV iU iT iS iR jo jn jm jK jY kx ku kt kH lB l9 mD nr nH nG nF pw pt pq po pn pk qD tH uT uS uR uQ uP uO uN uM uL uK uJ xu xt xr xq xp xo xn xl xk xj xi xh xg zb nZ nY qm ql rh sL sK sJ sI sH sG sF sE sD xM xL xK xJ xH xG xF xE xD xC xB xA xz xy xx xw Aw Av Au As Ar H5 H4 H3 H2,K (.exit 2) ⟨[j0,j1,A,j3,B,.s t,C,.i .i64 (dZ 0 (t.take k)),.i .i64 k,j9,cT,cS,cX,cR,cN,cM,cL,cW,df,dn,dx,dy,dD,dI,dH,dG,dX,ez,eA,eH,eW,fg,fi,ft,fw,fG,fM,fL,fK,fX,gi,gF,gR,gQ,il,ix,iV,iU,iT,iS,iR,jo,jn,jm,jK,jY,kx,ku,kt,kH,lB,l9,mD,nr,nH,nG,nF,pw,pt,pq,po,pn,pk,qD,tH,uT,uS,uR,uQ,uP,uO,uN,uM,uL,uK,uJ,xu,xt,xr,xq,xp,xo,xn,xl,xk,xj,xi,xh,xg,zb,nZ,nY,qm,ql,rh,sL,sK,sJ,sI,sH,sG,sF,sE,sD,xM,xL,xK,xJ,xH,xG,xF,xE,xD,xC,xB,xA,xz,xy,xx,xw,Aw,Av,Au,As,Ar,H5,H4,H3,H2],σ⟩)) →
  fO n prog CS K (m+1) ⟨[.u,.u,A,.u,B,.s t,C,.i .i64 (dZ 0 pre),.i .i64 pre.length,.u,.u,.u,.u,.u,.u,.u,.u,.u,.u,.u,.u,.u,.u,.u,.u,.u,.u,.u,.u,.u,.u,.u,.u,.u,.u,.u,.u,.u,.u,.u,.u,.u,.u,.u,.u,.u,.u,.u,.u,.u,.u,.u,.u,.u,.u,.u,.u,.u,.u,.u,.u,.u,.u,.u,.u,.u,.u,.u,.u,.u,.u,.u,.u,.u,.u,.u,.u,.u,.u,.u,.u,.u,.u,.u,.u,.u,.u,.u,.u,.u,.u,.u,.u,.u,.u,.u,.u,.u,.u,.u,.u,.u,.u,.u,.u,.u,.u,.u,.u,.u,.u,.u,.u,.u,.u,.u,.u,.u,.u,.u,.u,.u,.u,.u,.u,.u,.u,.u,.u,.u,.u,.u,.u,.u,.u,.u,.u,.u,.u],σ⟩:=by
 intro m
 induction m with
 | zero =>
  intro pre rest he hm hp h1;subst he;have e1:decide ((pre.length:Int)<4)=false:=by simp;omega
  refine ax fun R hR=>?_;simp only[CS,e1,VV,seval];have:=h1 pre.length (by rw[LD hp];omega);rw[mb]at this;exact⟨fun h=>by simp at h,fun h=>by simp at h,this ..⟩
 | succ m ih =>
  intro pre rest he hm hp h1;subst he;have e1:decide ((pre.length:Int)<4)=true:=by simp;omega
  cases rest with
  | nil =>
   have e0:decide ((pre.length:Int)<(pre.length:Int))=false:=by simp
   have h2:=h1 pre.length (by rw[LD hp];simp;omega);rw[mb]at h2;clear h1 ih;simp only[bf]at h2 ⊢;refine ax fun R hR=>?_;simp only[CS,e0,e1,VV,seval];exact⟨fun h=>by simp at h,fun h=>by simp at h,h2 ..⟩
  | cons c rest =>
   have e0:decide ((pre.length:Int)<((pre++c::rest).length:Int))=true:=by simp;omega
   refine ax fun R hR=>?_;simp only[CS,e0,e1,VV,seval];have hb:(0:Int)≤(pre.length:Int)∧(pre.length:Int)<((pre++c::rest).length:Int):=by simp;omega
   rw[Xk];refine⟨hb,fun _=>hb,fun hc=>⟨hb,?_⟩,fun hc=>?_⟩
   ·rw[TW hp (by omega) hc]
    refine hR _ (aW ?_ (ih (pre++[c]) rest (by simp) (by simp;omega) (by
     intro x hx;rcases List.mem_append.1 hx with hx | hx
     ·exact hp x hx
     ·simp only[aU,bD,or_false]at hx;subst hx;exact hc) h1))
    rw[aV (by omega)];simp only[List.length_append,ab,ah]
    repeat' constructor
   ·have:=h1 pre.length (by rw[LD hp,eg,if_neg (by rw[hc];simp)];simp;omega);rw[mb]at this;exact this ..
theorem SY(c:UInt8):∀ l:List UInt8,Lib.indexByte l c=if(l.takeWhile fun x=>x != c).length<l.length then((l.takeWhile fun x=>x != c).length:Int)else -1
 | []=>by simp[Lib.indexByte]
 | a::l=>by
  by_cases ha:a=c
  ·subst ha;simp[Lib.indexByte]
  ·have WO:(a==c)=false:=by simpa using ha
   have ha3:(a != c)=true:=by simpa using ha
   have ih:=SY c l;simp only[Lib.indexByte,WO,aD,if_false,eg,ha3,if_true,ab];generalize (l.takeWhile fun x=>x != c).length=tw at ih
   by_cases h:tw<l.length
   ·rw[if_pos h]at ih;have e:((tw:Int) == -1)=false:=by rw[beq_eq_false_iff_ne];omega
    rw[ih,if_pos (show tw+1<l.length+1 by omega),e];rfl
   ·rw[if_neg h]at ih;rw[ih,if_neg (show ¬ tw+1<l.length+1 by omega)];rfl
theorem LU(rest:List UInt8):kC (60::rest)=if(rest.takeWhile fun x=>x != 62).length<rest.length then
  (if(GN (rest.take (rest.takeWhile fun x=>x != 62).length)).2=true then((GN (rest.take (rest.takeWhile fun x=>x != 62).length)).1,((rest.takeWhile fun x=>x != 62).length:Int)+2)else(nE,0))else(nE,0):=by
 have hi:=SY 62 (60::rest);simp only[eg,show((60:UInt8) != 62)=true from rfl,if_true,ab]at hi;rw[Pb rfl]
 by_cases h:(rest.takeWhile fun x=>x != 62).length<rest.length
 ·rw[if_pos (by omega)]at hi;rw[hi,if_pos h,if_neg (by omega)]
  have e:((60::rest).take (((rest.takeWhile fun x=>x != 62).length+1:Nat):Int).toNat).drop 1=rest.take (rest.takeWhile fun x=>x != 62).length:=by
   rw[an,cC];rfl
  rw[e];congr 2
 ·rw[if_neg (by omega)]at hi;rw[hi,if_neg h,if_pos (by decide)]
theorem u47(a:UInt8):((a.toNat:Int)==47)=(a==47):=by revert a;exact iw (by decide +kernel)
theorem u48(a:UInt8):((a.toNat:Int)==48)=(a==48):=by revert a;exact iw (by decide +kernel)
theorem u58(a:UInt8):((a.toNat:Int) != 58)=(a != 58):=by revert a;exact iw (by decide +kernel)
theorem aco{t:List UInt8}(h:t≠[]):hasPrefix t [47]=(((t.getD 0 0).toNat:Int)==47):=by
 cases t with
 | nil=>exact absurd rfl h
 | cons a t=>rw[u47];simp[hasPrefix]
theorem abw{t:List UInt8}(h:t≠[]):hasSuffix t [47]=(((t.getD (t.length - 1) 0).toNat:Int)==47):=by
 rcases dQ t with ht | ⟨t',a,ht⟩
 ·exact absurd ht h
 ·rw[dt]at ht;subst ht;rw[u47,nv];simp[List.getD_eq_getElem?_getD]
set_option maxRecDepth 8000 in
theorem GZ(s:List UInt8)(h0:s.getD 0 0=60)(hlen:s.length<2^62)(σ:ag):PC prog 225 [.s s] σ (fun r σ'=>r=.iK [.agg (kC s).1.cells,.i .i64 (kC s).2]∧σ'=σ):=by
 obtain⟨rest,rfl⟩:∃ rest,s=60::rest:=by
  cases s with
  | nil=>simp at h0
  | cons a r=>simp only[aE]at h0;exact⟨r,by rw[h0]⟩
 refine PC.intro func225 ajt fun aQ cz=>?_;simp only[acE,SS,seval];refine bA.cut fun R hR=>?_;simp only[VV,seval];refine hR _ (bA.ej (fr':=[.s (60::rest),.u,.ptr σ.length 0,.u,.u,.u,.u,.u,.u,.u,.u,.u,.u,.u,.u,.u,.u,.u,.u,.u,.u,.u,.u,.u,.u,.u,.u,.u,.u,.u,.u,.u,.u,.u,.u,.u,.u,.u,.u,.u,.u,.u,.u,.u,.u,.u,.u,.u,.u,.u,.u,.u,.u,.u,.u,.u,.u,.u,.u,.u,.u,.u,.u,.u,.u,.u,.u,.u,.u,.u,.u,.u,.u,.u,.u,.u,.u,.u,.u,.u,.u,.u,.u,.u,.u,.u,.u,.u,.u,.u,.u,.u,.u,.u,.u,.u,.u,.u,.u,.u,.u,.u,.u,.u,.u,.u,.u,.u,.u,.u,.u,.u,.u,.u,.u,.u,.u,.u,.u,.u,.u,.u,.u,.u,.u,.u,.u,.u,.u,.u,.u,.u,.u,.u,.u,.u,.u,.u,.u]) ?_ (by repeat' constructor));clear hR R;refine bA.cut fun R hR=>?_;simp only[VV,seval];refine hR _ (bA.ej (fr':=[.s (60::rest),.u,.ptr σ.length 0,.u,.i .i64 ((1:Nat):Int),.u,.u,.u,.u,.u,.u,.u,.u,.u,.u,.u,.u,.u,.u,.u,.u,.u,.u,.u,.u,.u,.u,.u,.u,.u,.u,.u,.u,.u,.u,.u,.u,.u,.u,.u,.u,.u,.u,.u,.u,.u,.u,.u,.u,.u,.u,.u,.u,.u,.u,.u,.u,.u,.u,.u,.u,.u,.u,.u,.u,.u,.u,.u,.u,.u,.u,.u,.u,.u,.u,.u,.u,.u,.u,.u,.u,.u,.u,.u,.u,.u,.u,.u,.u,.u,.u,.u,.u,.u,.u,.u,.u,.u,.u,.u,.u,.u,.u,.u,.u,.u,.u,.u,.u,.u,.u,.u,.u,.u,.u,.u,.u,.u,.u,.u,.u,.u,.u,.u,.u,.u,.u,.u,.u,.u,.u,.u,.u,.u,.u,.u,.u,.u,.u]) ?_ (by repeat' constructor));clear hR R;refine bA.cut fun R hR=>?_;simp only[VV,seval];have hr:=LU rest;refine bA.aW ?_ (rest.length+1) (PV (.ptr σ.length 0) (60::rest) hlen rest [60] rfl ?_)
 ·simp only[ab,ah]
  repeat' constructor
 generalize he:(rest.takeWhile fun x=>x != 62).length=e at hr;have hle:e≤rest.length:=by rw[← he];exact(List.takeWhile_prefix _).length_le
 intros;simp only[ab,ah,aK,VV,seval];refine hR _ (bA.ej (fr':=[.s (60::rest),.u,.ptr σ.length 0,.u,.i .i64 ((1+e:Nat):Int),.u,.u,.u,.u,.u,.u,.u,.u,.u,.u,.u,.u,.u,.u,.u,.u,.u,.u,.u,.u,.u,.u,.u,.u,.u,.u,.u,.u,.u,.u,.u,.u,.u,.u,.u,.u,.u,.u,.u,.u,.u,.u,.u,.u,.u,.u,.u,.u,.u,.u,.u,.u,.u,.u,.u,.u,.u,.u,.u,.u,.u,.u,.u,.u,.u,.u,.u,.u,.u,.u,.u,.u,.u,.u,.u,.u,.u,.u,.u,.u,.u,.u,.u,.u,.u,.u,.u,.u,.u,.u,.u,.u,.u,.u,.u,.u,.u,.u,.u,.u,.u,.u,.u,.u,.u,.u,.u,.u,.u,.u,.u,.u,.u,.u,.u,.u,.u,.u,.u,.u,.u,.u,.u,.u,.u,.u,.u,.u,.u,.u,.u,.u,.u,.u]) ?_ (by repeat' constructor));clear hR R;refine bA.cut fun R hR=>?_;simp only[ab,VV,seval];refine⟨fun h=>?_,fun h=>?_⟩
 ·have h:¬ e<rest.length:=by simp at h;omega
  rw[if_neg h]at hr;refine aG aQ (.inr rfl) (by simp only[RS,seval];rfl) (by simp only[LW]) ⟨?_,rfl⟩;rw[hr];rfl
 have h:e<rest.length:=by simp at h;omega
 rw[if_pos h]at hr;refine hR _ (bA.ej (fr':=[.s (60::rest),.u,.ptr σ.length 0,.u,.i .i64 ((1+e:Nat):Int),.u,.u,.u,.u,.u,.u,.u,.u,.u,.u,.u,.u,.u,.u,.u,.u,.u,.u,.u,.u,.u,.u,.u,.u,.u,.u,.u,.u,.u,.u,.u,.u,.u,.u,.u,.u,.u,.u,.u,.u,.u,.u,.u,.u,.u,.u,.u,.u,.u,.u,.u,.u,.u,.u,.u,.u,.u,.u,.u,.u,.u,.u,.u,.u,.u,.u,.u,.u,.u,.u,.u,.u,.u,.u,.u,.u,.u,.u,.u,.u,.u,.u,.u,.u,.u,.u,.u,.u,.u,.u,.u,.u,.u,.u,.u,.u,.u,.u,.u,.u,.u,.u,.u,.u,.u,.u,.u,.u,.u,.u,.u,.u,.u,.u,.u,.u,.u,.u,.u,.u,.u,.u,.u,.u,.u,.u,.u,.u,.u,.u,.u,.u,.u,.u]) ?_ (by repeat' constructor));clear hR R;generalize ht:rest.take e=t at hr;have wH:t.length<2^62:=by rw[← ht,aR];simp at hlen;omega
 refine bA.cut fun R hR=>?_;simp only[ab,VV,seval];refine⟨by omega,?_⟩;have e1:List.take (1+e - 1) rest=t:=by rw[← ht];congr 1;omega
 rw[e1];refine hR _ (bA.ej (fr':=[.u,.u,.ptr σ.length 0,.u,.i .i64 ((1+e:Nat):Int),.s t,.i .i64 2,.u,.u,.u,.u,.u,.u,.u,.u,.u,.u,.u,.u,.u,.u,.u,.u,.u,.u,.u,.u,.u,.u,.u,.u,.u,.u,.u,.u,.u,.u,.u,.u,.u,.u,.u,.u,.u,.u,.u,.u,.u,.u,.u,.u,.u,.u,.u,.u,.u,.u,.u,.u,.u,.u,.u,.u,.u,.u,.u,.u,.u,.u,.u,.u,.u,.u,.u,.u,.u,.u,.u,.u,.u,.u,.u,.u,.u,.u,.u,.u,.u,.u,.u,.u,.u,.u,.u,.u,.u,.u,.u,.u,.u,.u,.u,.u,.u,.u,.u,.u,.u,.u,.u,.u,.u,.u,.u,.u,.u,.u,.u,.u,.u,.u,.u,.u,.u,.u,.u,.u,.u,.u,.u,.u,.u,.u,.u,.u,.u,.u,.u,.u]) ?_ (by repeat' constructor));clear hR R;refine bA.cut fun R hR=>?_
 have tail:∀ (kind:Int) (u:List UInt8),u.length<2^62→kC (60::rest)=(if(uj kind u).2=true then((uj kind u).1,(e:Int)+2)else(nE,0))→(kind=2∨kind=3∨kind=4) →
   ∀ {fr:List V},pH fr [.u,.u,.ptr σ.length 0,.u,.i .i64 ((1+e:Nat):Int),.s u,.i .i64 kind,.u,.u,.u,.u,.u,.u,.u,.u,.u,.u,.u,.u,.u,.u,.u,.u,.u,.u,.u,.u,.u,.u,.u,.u,.u,.u,.u,.u,.u,.u,.u,.u,.u,.u,.u,.u,.u,.u,.u,.u,.u,.u,.u,.u,.u,.u,.u,.u,.u,.u,.u,.u,.u,.u,.u,.u,.u,.u,.u,.u,.u,.u,.u,.u,.u,.u,.u,.u,.u,.u,.u,.u,.u,.u,.u,.u,.u,.u,.u,.u,.u,.u,.u,.u,.u,.u,.u,.u,.u,.u,.u,.u,.u,.u,.u,.u,.u,.u,.u,.u,.u,.u,.u,.u,.u,.u,.u,.u,.u,.u,.u,.u,.u,.u,.u,.u,.u,.u,.u,.u,.u,.u,.u,.u,.u,.u,.u,.u,.u,.u,.u,.u]→R ⟨fr,σ++[.box 76 [.i .i64 0,.s [],.i .i64 0]]⟩:=by
  intro kind u hu hru X4 fr hc;refine hR _ (bA.ej ?_ hc);clear hR R;refine bA.cut fun R hR=>?_;simp only[VV,seval];refine hR _ (bA.ej (fr':=[.u,.u,.ptr σ.length 0,.u,.i .i64 ((1+e:Nat):Int),.s u,.i .i64 kind,.i .i64 (dZ 0 []),.i .i64 (([]:List UInt8).length:Nat),.u,.u,.u,.u,.u,.u,.u,.u,.u,.u,.u,.u,.u,.u,.u,.u,.u,.u,.u,.u,.u,.u,.u,.u,.u,.u,.u,.u,.u,.u,.u,.u,.u,.u,.u,.u,.u,.u,.u,.u,.u,.u,.u,.u,.u,.u,.u,.u,.u,.u,.u,.u,.u,.u,.u,.u,.u,.u,.u,.u,.u,.u,.u,.u,.u,.u,.u,.u,.u,.u,.u,.u,.u,.u,.u,.u,.u,.u,.u,.u,.u,.u,.u,.u,.u,.u,.u,.u,.u,.u,.u,.u,.u,.u,.u,.u,.u,.u,.u,.u,.u,.u,.u,.u,.u,.u,.u,.u,.u,.u,.u,.u,.u,.u,.u,.u,.u,.u,.u,.u,.u,.u,.u,.u,.u,.u,.u,.u,.u,.u]) ?_ (by repeat' constructor));clear hR R;refine bA.cut fun R hR=>?_;simp only[VV,seval];refine bA.aW ?_ 5 (PU (.ptr σ.length 0) (.i .i64 ((1+e:Nat):Int)) (.i .i64 kind) u hu 4 [] u rfl rfl (by simp) ?_)
  ·repeat' constructor
  intro k hk;intros;simp only[VV,seval];refine hR _ (bA.ej (fr':=[.u,.u,.ptr σ.length 0,.u,.i .i64 ((1+e:Nat):Int),.s u,.i .i64 kind,.i .i64 (dZ 0 (u.take k)),.i .i64 k,.u,.u,.u,.u,.u,.u,.u,.u,.u,.u,.u,.u,.u,.u,.u,.u,.u,.u,.u,.u,.u,.u,.u,.u,.u,.u,.u,.u,.u,.u,.u,.u,.u,.u,.u,.u,.u,.u,.u,.u,.u,.u,.u,.u,.u,.u,.u,.u,.u,.u,.u,.u,.u,.u,.u,.u,.u,.u,.u,.u,.u,.u,.u,.u,.u,.u,.u,.u,.u,.u,.u,.u,.u,.u,.u,.u,.u,.u,.u,.u,.u,.u,.u,.u,.u,.u,.u,.u,.u,.u,.u,.u,.u,.u,.u,.u,.u,.u,.u,.u,.u,.u,.u,.u,.u,.u,.u,.u,.u,.u,.u,.u,.u,.u,.u,.u,.u,.u,.u,.u,.u,.u,.u,.u,.u,.u,.u,.u,.u,.u]) ?_ (by repeat' constructor));clear hR R
  have S4:uj kind u=if k=0∨u.length≤k∨u.getD 0 0=48∨999<dZ 0 (u.take k)∨u.getD k 0≠58 then(nE,false)else
    if(kind=3∧isName (u.drop (k+1))=false)∨(kind≠3∧db (u.drop (k+1))=false)then(nE,false)else(⟨kind,u.drop (k+1),dZ 0 (u.take k)⟩,true):=by rw[hk];rfl
  refine bA.cut fun R hR=>?_;simp only[an,VV,seval]
  have hC:(((((k:Int)==0||decide ((u.length:Int)≤(k:Int)))||((u.getD 0 0).toNat:Int)==48)||decide (999<dZ 0 (u.take k)))||((u.getD k 0).toNat:Int) != 58)=decide (k=0∨u.length≤k∨u.getD 0 0=48∨999<dZ 0 (u.take k)∨u.getD k 0≠58):=by
   rw[u48,u58,du];simp[or_assoc]
  rw[hC];refine⟨fun h=>by simp at h;omega,fun h=>by simp at h;omega,fun h=>?_,fun h=>?_⟩
  ·rw[if_pos (by simpa using h)]at S4;refine aG aQ (.inr rfl) (by simp only[RS,seval];rfl) (by simp only[LW]) ⟨?_,rfl⟩;rw[hru,S4];rfl
  have h:=of_decide_eq_false h;rw[if_neg h]at S4;simp only[not_or]at h;refine hR _ (bA.ej (fr':=[.u,.u,.ptr σ.length 0,.u,.i .i64 ((1+e:Nat):Int),.s u,.i .i64 kind,.i .i64 (dZ 0 (u.take k)),.i .i64 k,.u,.u,.u,.u,.u,.u,.u,.u,.u,.u,.u,.u,.u,.u,.u,.u,.u,.u,.u,.u,.u,.u,.u,.u,.u,.u,.u,.u,.u,.u,.u,.u,.u,.u,.u,.u,.u,.u,.u,.u,.u,.u,.u,.u,.u,.u,.u,.u,.u,.u,.u,.u,.u,.u,.u,.u,.u,.u,.u,.u,.u,.u,.u,.u,.u,.u,.u,.u,.u,.u,.u,.u,.u,.u,.u,.u,.u,.u,.u,.u,.u,.u,.u,.u,.u,.u,.u,.u,.u,.u,.u,.u,.u,.u,.u,.u,.u,.u,.u,.u,.u,.u,.u,.u,.u,.u,.u,.u,.u,.u,.u,.u,.u,.u,.u,.u,.u,.u,.u,.u,.u,.u,.u,.u,.u,.u,.u,.u,.u,.u]) ?_ (by repeat' constructor));clear hR R;have qA:IntKind.i64.wrap ((k:Int)+1)=((k+1:Nat):Int):=by rw[IntWalk.i64_in _ (by omega)];omega
  refine bA.cut fun R hR=>?_;simp only[qA,an,VV,seval];have htk:List.take (u.length - (k+1)) (List.drop (k+1) u)=u.drop (k+1):=bJ (by simp);rw[htk];refine⟨by omega,?_⟩;refine hR _ (bA.ej (fr':=[.u,.u,.ptr σ.length 0,.u,.i .i64 ((1+e:Nat):Int),.u,.i .i64 kind,.u,.u,.ptr (σ.length+1) 0,.u,.u,.u,.u,.u,.u,.u,.u,.u,.u,.u,.u,.u,.u,.u,.u,.u,.u,.u,.u,.u,.u,.u,.u,.u,.u,.u,.u,.u,.u,.u,.u,.u,.u,.u,.u,.u,.u,.u,.u,.u,.u,.u,.u,.u,.u,.u,.u,.u,.u,.u,.u,.u,.u,.u,.u,.u,.u,.u,.u,.u,.u,.u,.u,.u,.u,.u,.u,.u,.u,.u,.u,.u,.u,.u,.u,.u,.u,.u,.u,.u,.u,.u,.u,.u,.u,.u,.u,.u,.u,.u,.u,.u,.u,.u,.u,.u,.u,.u,.u,.u,.u,.u,.u,.u,.u,.u,.u,.u,.u,.u,.u,.u,.u,.u,.u,.u,.u,.u,.u,.u,.u,.u,.u,.u,.u,.u,.u,.u]) ?_ (by repeat' constructor));clear hR R;have WI:IntKind.i64.wrap (((1+e:Nat):Int)+1)=(e:Int)+2:=by rw[IntWalk.i64_in _ (by simp at hlen;omega)];omega
  refine bA.cut fun R hR=>?_
  have fin:∀ {fr:List V},kC (60::rest)=(⟨kind,u.drop (k+1),dZ 0 (u.take k)⟩,(e:Int)+2)→pH fr [.u,.u,.ptr σ.length 0,.u,.i .i64 ((1+e:Nat):Int),.u,.u,.u,.u,.ptr (σ.length+1) 0,.u,.u,.u,.u,.u,.u,.u,.u,.u,.u,.u,.u,.u,.u,.u,.u,.u,.u,.u,.u,.u,.u,.u,.u,.u,.u,.u,.u,.u,.u,.u,.u,.u,.u,.u,.u,.u,.u,.u,.u,.u,.u,.u,.u,.u,.u,.u,.u,.u,.u,.u,.u,.u,.u,.u,.u,.u,.u,.u,.u,.u,.u,.u,.u,.u,.u,.u,.u,.u,.u,.u,.u,.u,.u,.u,.u,.u,.u,.u,.u,.u,.u,.u,.u,.u,.u,.u,.u,.u,.u,.u,.u,.u,.u,.u,.u,.u,.u,.u,.u,.u,.u,.u,.u,.u,.u,.u,.u,.u,.u,.u,.u,.u,.u,.u,.u,.u,.u,.u,.u,.u,.u,.u,.u,.u,.u,.u,.u,.u] →
    R ⟨fr,σ++[.box 76 [.i .i64 0,.s [],.i .i64 0],.box 76 [.i .i64 kind,.s (u.drop (k+1)),.i .i64 (dZ 0 (u.take k))]]⟩:=by
   intro fr hg hc;refine hR _ (bA.ej ?_ hc);clear hR R;refine aj ?_;simp only[WI,VV,seval];refine aG aQ (.inr rfl) (by simp only[RS,seval];rfl) (by simp only[LW]) ⟨?_,rfl⟩;rw[hg];rfl
  by_cases k3:kind=3
  ·subst k3;simp only[VV,seval];refine bg (by simp only[VV,seval]<;>rfl) (fun _=>mO _ _) rfl ?_;simp only[VV,seval];refine bg (c:=false) (v:=.b false) (by simp only[VV,seval]<;>simp) (fun h=>by simp at h) rfl ?_;simp only[VV,seval];refine⟨fun h2=>?_,fun h2=>?_⟩
   ·have h2:isName (u.drop (k+1))=false:=by rw[cm]at h2;exact h2
    rw[if_pos (.inl ⟨rfl,h2⟩)]at S4;refine aG aQ (.inr rfl) (by simp only[RS,seval];rfl) (by simp only[LW]) ⟨?_,rfl⟩;rw[hru,S4];rfl
   ·have h2:isName (u.drop (k+1))=true:=by rw[dC]at h2;exact h2
    rw[if_neg (by simp only[h2];simp)]at S4;exact fin (by rw[hru,S4];rfl) (by repeat' constructor)
  ·have n3:(kind==3)=false:=by simpa using k3
   have n3':(kind != 3)=true:=by simpa using k3
   simp only[n3,VV,seval];refine bg (c:=false) (v:=.b false) (by simp only[VV,seval]<;>rfl) (fun h=>by simp at h) rfl ?_;simp only[n3',VV,seval];refine bg (by simp only[VV,seval]<;>rfl) (fun _=>qa _ _) rfl ?_;simp only[VV,seval];refine⟨fun h2=>?_,fun h2=>?_⟩
   ·have h2:db (u.drop (k+1))=false:=by rw[cm]at h2;exact h2
    rw[if_pos (.inr ⟨k3,h2⟩)]at S4;refine aG aQ (.inr rfl) (by simp only[RS,seval];rfl) (by simp only[LW]) ⟨?_,rfl⟩;rw[hru,S4];rfl
   ·have h2:db (u.drop (k+1))=true:=by rw[dC]at h2;exact h2
    rw[if_neg (by simp only[h2,k3];simp)]at S4;exact fin (by rw[hru,S4];rfl) (by repeat' constructor)
 simp only[VV,seval];have aeJ:t.length≤rest.length:=by rw[← ht,aR];omega
 by_cases Wr:t=[]
 ·subst Wr;refine⟨fun h=>by simp at h,fun h=>by simp at h,fun _=>⟨fun h=>by simp at h,fun h=>by simp at h,fun _=>tail 2 [] (by simp) ?_ (.inl rfl) ?_⟩⟩
  ·exact hr
  ·repeat' constructor
 have Qi:0<t.length:=dK.2 Wr;have hw:IntKind.i64.wrap ((t.length:Int) - 1)=((t.length - 1:Nat):Int):=by rw[IntWalk.i64_in _ (by omega)];omega
 have hd:decide ((0:Int)<(t.length:Int))=true:=by simp;omega
 have Z1:List.take (t.length - 1) (List.drop 1 t)=t.drop 1:=bJ (by simp);simp only[hw,hd,Z1,an,dM,← aco Wr,← abw Wr];refine⟨fun _=>by omega,fun h=>⟨by omega,tail 3 (t.drop 1) (by simp;omega) ?_ (.inr (.inl rfl)) ?_⟩,fun h=>⟨fun _=>by omega,fun h2=>⟨by omega,tail 4 (t.take (t.length - 1)) (by simp;omega) ?_ (.inr (.inr rfl)) ?_⟩,fun h2=>tail 2 t wH ?_ (.inl rfl) ?_⟩⟩
 ·rw[hr];simp only[GN,h,if_true]
 ·repeat' constructor
 ·rw[hr];simp only[GN,h,h2,aD,if_false,if_true]
 ·repeat' constructor
 ·rw[hr];simp only[GN,h,h2,aD,if_false]
 ·repeat' constructor
end Go.Proofs.Tryz

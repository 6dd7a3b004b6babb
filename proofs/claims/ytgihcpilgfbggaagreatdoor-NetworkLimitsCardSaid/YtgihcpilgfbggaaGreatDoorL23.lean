/- A part of the proof that for every input the law NetworkLimits returns true and leaves its argument as it was. -/
import Derived.Test.YtgihcpilgfbggaaGreatDoorL14
import Derived.Test.YtgihcpilgfbggaaGreatDoorL15
import Derived.Test.YtgihcpilgfbggaaGreatDoorL16
import Derived.Test.YtgihcpilgfbggaaGreatDoorL17
import Derived.Test.YtgihcpilgfbggaaGreatDoorL18
import Derived.Test.YtgihcpilgfbggaaGreatDoorL20
import Derived.Test.YtgihcpilgfbggaaGreatDoorL21
set_option linter.all false

namespace Go.Proofs.Tryz
open Go Go.Pm Go.Bt
open Go.Pm.V(u)
theorem F3(b:UInt8)(σ:ah):PC prog 247 [.i .u8 b.toNat] σ (fun r σ'=>r=.i .i64 (jG b)∧σ'=σ):=by
 refine PC.intro func247 Zz fun aU da=>al ?_;simp only[UI,SS,seval];simp only[W,seval];clear da aU;refine⟨fun h1=>?_,fun h1=>⟨fun h2=>?_,fun h2=>⟨fun h3=>?_,fun h3=>⟨fun h4=>?_,fun h4=>?_⟩⟩⟩⟩<;>refine aP (.inr rfl) rfl ⟨?_,rfl⟩<;>simp at*<;> simp only[Pm.one,jG,ar,aC,V.i.injEq,true_and]<;>(repeat' split)<;>omega
theorem rQ(x:It)(σ:ah):PC prog 242 [.agg x.cells] σ (fun r σ'=>r=.b (cX x)∧σ'=σ):=by
 refine PC.intro func242 ZE fun aU da=>al ?_;simp only[UN,It.cells,SS,seval];simp only[VV,seval];refine aD aU (.inr rfl) rfl (by simp only[LW]) ⟨?_,rfl⟩;simp only[Pm.one,cX,ar,aC]
theorem OL{n:Nat}{σ:ah}{K:Exit→St→Prop}(s:List UInt8)(hlen:s.length<2^63):∀ (rest pre:List UInt8),s=pre++rest→pre≠[] →
  (rest.all gv=true→(∀ j0 j1 j2 j3 j4 j5 j6 j7 j8 j9 cC cH cG cF cB cE cD cI cQ db de dh dm dv du dt dN dR dU dX ej eD eL eQ eP fb fi fh fg fw fG fF fK fW,K (.exit 0) ⟨[j0,j1,j2,j3,j4,j5,j6,j7,j8,j9,cC,cH,cG,cF,cB,cE,cD,cI,cQ,db,de,dh,dm,dv,du,dt,dN,dR,dU,dX,ej,eD,eL,eQ,eP,fb,fi,fh,fg,fw,fG,fF,fK,fW],σ⟩))→(rest.all gv=false→(∀ j0 j1 j3 j4 j5 j6 j7 j8 j9 cC cH cG cF cB cE cD cI cQ db de dh dm dv du dt dN dR dU dX ej eD eL eQ eP fb fi fh fg fw fG fF fK fW,K .ret ⟨[j0,j1,.b false,j3,j4,j5,j6,j7,j8,j9,cC,cH,cG,cF,cB,cE,cD,cI,cQ,db,de,dh,dm,dv,du,dt,dN,dR,dU,dX,ej,eD,eL,eQ,eP,fb,fi,fh,fg,fw,fG,fF,fK,fW],σ⟩)) →
  fp n prog xf K (rest.length+1) ⟨[.s s,u,u,.i .i64 pre.length,u,u,u,u,u,u,u,u,u,u,u,u,u,u,u,u,u,u,u,u,u,u,u,u,u,u,u,u,u,u,u,u,u,u,u,u,u,u,u,u],σ⟩:=by
 intro rest
 induction rest with
 | nil =>
  intro pre he hp h1 h2;have he:s=pre:=by simpa using he
  subst he;refine ay fun R hR=>?_;simp only[xf,VV,seval];exact⟨fun h=>by simp at h,fun _=>h1 rfl ..⟩
 | cons c rest ih =>
  intro pre he hp h1 h2;subst he;have Fq:0<pre.length:=cZ.2 hp;have hd:decide ((0:Int)<pre.length)=true:=by simp;omega
  refine ay fun R hR=>?_;simp only[xf,hd,VV,seval]
  have hn:gv c=((decide (97≤(c.toNat:Int))&&decide ((c.toNat:Int)≤122))||((decide (48≤(c.toNat:Int))&&decide ((c.toNat:Int)≤57))||((c.toNat:Int)==45))):=by
   rw[cP];simp[gv];omega
  rw[← hn];refine⟨fun _=>⟨by simp;omega,fun h=>?_,fun h=>?_⟩,fun h=>by simp at h<;>omega⟩
  ·have e:(c::rest).all gv=rest.all gv:=by simp[h]
   rw[e]at h1 h2;refine hR _ (bb ?_ (ih (pre++[c]) (by simp) (by simp) h1 h2));rw[aX (by simp at hlen;omega)];simp only[List.length_append,ag,ai]
   repeat' constructor
  ·exact h2 (by simp[h]) ..
theorem ki(s:List UInt8)(σ:ah):PC prog 229 [.s s] σ (fun r σ'=>r=.b (isName s)∧σ'=σ):=by
 refine PC.intro func229 ZI fun aU da=>al ?_;have hlen:=yP (da 0 _ rfl).1;simp only[UR,SS,seval];simp only[VV,seval];cases s with
 | nil =>
  refine⟨fun _=>aP (.inr rfl) rfl ⟨rfl,rfl⟩,fun h=>by simp at h⟩
 | cons c r =>
  refine⟨fun h=>?_,fun h=>?_⟩
  ·refine aP (.inr rfl) rfl ⟨?_,rfl⟩;simp at h;simp[Pm.one,isName];omega
  ·simp at h;refine bX.ml (r.length+2) (ay fun R hR=>?_);simp only[xf,ar,VV,Int.reduceBEq,Int.reduceBNe,Nat.reduceAdd,Nat.reduceSub,Nat.reduceLeDiff,Nat.reduceEqDiff,Int.reduceToNat,reduceIte,reduceCtorEq]
   have lC:((decide (97≤(c.toNat:Int))&&decide ((c.toNat:Int)≤122))||(decide ((0:Int)<0)&&((decide (48≤(c.toNat:Int))&&decide ((c.toNat:Int)≤57))||((c.toNat:Int)==45))))=decide (97≤c.toNat∧c.toNat≤122):=by
    rw[cP];simp;omega
   have SX:(c::r).length≤24:=by simp;omega
   rw[lC];refine⟨fun _=>⟨by simp,fun h2=>?_,fun h2=>?_⟩,fun h=>by simp at h<;>omega⟩
   ·have e:isName (c::r)=r.all gv:=by
     simp only[isName,h2,SX,decide_true,bu]
    refine hR _ (bb ?_ (OL (c::r) hlen r [c] rfl (by simp) (fun h1=>?_) (fun h1=>?_)))
    ·rw[show IntKind.i64.wrap (0+1)=(([c].length:Nat):Int)from IntWalk.i64_in _ (by decide)]
     repeat' constructor
    ·intros;simp only[VV,seval];exact aP (.inr rfl) rfl ⟨by simp only[Pm.one,e,h1,ar,aC],rfl⟩
    ·intros;simp only[VV,seval];exact aP (.inr rfl) rfl ⟨by simp only[Pm.one,e,h1,ar,aC],rfl⟩
   ·refine aP (.inr rfl) rfl ⟨?_,rfl⟩;have e:isName (c::r)=false:=by simp only[isName,h2,bZ,bA]
    rw[e];rfl
theorem OJ{n:Nat}{σ:ah}{K:Exit→St→Prop}(s:List UInt8)(hlen:s.length<2^63):∀ (rest pre:List UInt8),s=pre++rest→32 ∉ pre →
  (32 ∉ s→(∀ j1 j2 j3 j4 j5 j6 j7 j8 j9 cC cH cG cF cB cE cD cI,K (.exit 0) ⟨[.s s,j1,j2,j3,j4,j5,j6,j7,j8,j9,cC,cH,cG,cF,cB,cE,cD,cI],σ⟩))→(32∈s→(∀ j0 j1 j3 j4 j5 j6 j7 j8 j9 cC cH cG cF cB cE cD cI,K .ret ⟨[j0,j1,.s (s.take (Lib.indexByte s 32).toNat),j3,j4,j5,j6,j7,j8,j9,cC,cH,cG,cF,cB,cE,cD,cI],σ⟩)) →
  fp n prog Bw K (rest.length+1) ⟨[.s s,u,u,.i .i64 pre.length,u,u,u,u,u,u,u,u,u,u,u,u,u,u],σ⟩:=by
 intro rest
 induction rest with
 | nil =>
  intro pre he hp h1 h2;have he:s=pre:=by simpa using he
  subst he;refine ay fun R hR=>?_;simp only[Bw,VV,seval];exact⟨fun h=>by simp at h,fun _=>h1 hp ..⟩
 | cons c rest ih =>
  intro pre he hp h1 h2;subst he;refine ay fun R hR=>?_;simp only[Bw,VV,seval];refine⟨fun _=>⟨by simp;omega,fun h=>⟨by simp;omega,?_⟩,fun h=>?_⟩,fun h=>by simp at h<;>omega⟩
  ·have hc:c=32:=by
    rw[show(32:Int)=((32:UInt8).toNat:Int)from rfl,tL]at h;simpa using h
   subst hc
   have e:(Lib.indexByte (pre++32::rest) 32).toNat=pre.length:=by
    rw[mc hp];simp
   have:=h2 (by simp);rw[e]at this;exact this ..
  ·have hc:¬ c=32:=by
    rw[show(32:Int)=((32:UInt8).toNat:Int)from rfl,tL]at h;simpa using h
   refine hR _ (bb ?_ (ih (pre++[c]) (by simp) (by simp[hp,Kh hc]) h1 h2));rw[aX (by simp at hlen;omega)];simp only[List.length_append,ag,ai]
   repeat' constructor
theorem Ae(s:List UInt8)(σ:ah):PC prog 243 [.s s] σ (fun r σ'=>r=.s (dz s)∧σ'=σ):=by
 refine PC.intro func243 ZD fun aU da=>al ?_;have hlen:=yP (da 0 _ rfl).1;simp only[UM,SS,seval];simp only[VV,seval];refine bX.bb ?_ (s.length+1) (OJ s hlen s [] rfl (by simp) (fun h=>?_) (fun h=>?_))
 ·repeat' constructor
 ·intros;simp only[VV,seval];refine aP (.inr rfl) rfl ⟨?_,rfl⟩;have:Lib.indexByte s 32 = -1:=qk h;simp[Pm.one,dz,cutAt,this]
 ·intros;refine aP (.inr rfl) rfl ⟨?_,rfl⟩;have:0≤Lib.indexByte s 32:=mQ h;simp[Pm.one,dz,cutAt,this]
theorem OI{n:Nat}{σ:ah}{K:Exit→St→Prop}(l:List Int)(x:Int)(hlen:l.length<2^63):∀ (rest pre:List Int),l=pre++rest →
  (rest.contains x=false→(∀ j0 j1 j2 j3 j4 j5 j6 j7 j8 j9 cC cH cG cF cB cE cD cI,K (.exit 0) ⟨[j0,j1,j2,j3,j4,j5,j6,j7,j8,j9,cC,cH,cG,cF,cB,cE,cD,cI],σ⟩))→(rest.contains x=true→(∀ j0 j1 j2 j3 j5 j6 j7 j8 j9 cC cH cG cF cB cE cD cI,K .ret ⟨[j0,j1,j2,j3,.b true,j5,j6,j7,j8,j9,cC,cH,cG,cF,cB,cE,cD,cI],σ⟩)) →
  fp n prog Bu K (rest.length+1) ⟨[.sl 1 (l.map bW),.i .i64 x,u,u,u,u,u,.i .i64 l.length,.i .i64 pre.length,u,u,u,u,u,u,u,u,u],σ⟩:=by
 intro rest
 induction rest with
 | nil =>
  intro pre he h1 h2;have he:l=pre:=by simpa using he
  subst he;refine ay fun R hR=>?_;simp only[Bu,VV,seval];exact⟨fun h=>by simp at h,fun _=>h1 rfl ..⟩
 | cons c rest ih =>
  intro pre he h1 h2;subst he;refine ay fun R hR=>?_;simp only[Bu,bW,VV,seval];refine⟨fun _=>⟨by simp;omega,fun h=>?_,fun h=>?_⟩,fun h=>by simp at h<;>omega⟩
  ·have h:c=x:=by simpa using h
   exact h2 (by simp[h]) ..
  ·have h:¬ c=x:=by simpa using h
   have e:(c::rest).contains x=rest.contains x:=by
    have:(x==c)=false:=by simpa using fun e=>h e.symm
    simp only[List.contains_cons,this,jA]
   rw[e]at h1 h2;refine hR _ (bb ?_ (ih (pre++[c]) (by simp) h1 h2));rw[aX (by simp at hlen;omega)];simp only[List.length_append,ag,ai]
   repeat' constructor
theorem Lg(l:List Int)(x:Int)(σ:ah):PC prog 244 [.sl 1 (l.map bW),.i .i64 x] σ (fun r σ'=>r=.b (l.contains x)∧σ'=σ):=by
 refine PC.intro func244 ZC fun aU da=>al ?_;have hlen:=kS (da 0 _ rfl).1;rw[ae]at hlen;simp only[UL,SS,seval];simp only[ae,VV,seval];refine bX.bb ?_ (l.length+1) (OI l x hlen l [] rfl (fun h=>?_) (fun h=>?_))
 ·repeat' constructor
 ·intros;simp only[VV,seval];exact aP (.inr rfl) rfl ⟨by rw[h];rfl,rfl⟩
 ·intros;exact aP (.inr rfl) rfl ⟨by rw[h];rfl,rfl⟩
theorem OP{n:Nat}{σ:ah}{K:Exit→St→Prop}(its:List It)(hlen:its.length<2^63):∀ (rest pre:List It) (acc:Int),its=pre++rest →
  (∀ j0 j1 j2 j4 j5 j6 j7 j8 j9 cC cH cG cF cB cE cD cI cQ db de dh dm dv du dt dN dR,K (.exit 0) ⟨[j0,j1,j2,.i .i64 (dS acc rest),j4,j5,j6,j7,j8,j9,cC,cH,cG,cF,cB,cE,cD,cI,cQ,db,de,dh,dm,dv,du,dt,dN,dR],σ⟩) →
  fp n prog BC K (rest.length+1) ⟨[.sl 3 (its.map It.cells),u,u,.i .i64 acc,u,u,.i .i64 its.length,.i .i64 pre.length,u,u,u,u,u,u,u,u,u,u,u,u,u,u,u,u,u,u,u,u],σ⟩:=by
 intro rest
 induction rest with
 | nil =>
  intro pre acc he h1;have he:its=pre:=by simpa using he
  subst he;refine ay fun R hR=>?_;simp only[BC,VV,seval];exact⟨fun h=>by simp at h,fun _=>h1 ..⟩
 | cons x rest ih =>
  intro pre acc he h1;subst he
  have hw:IntKind.i64.wrap ((pre.length:Int)+1)=(((pre++[x]).length:Nat):Int):=by
   rw[aX (by simp at hlen;omega)];simp
  refine ay fun R hR=>?_;simp only[BC,It.cells,VV,seval];have e:dS acc (x::rest)=dS (IntKind.i64.wrap (acc+width x)) rest:=rfl;rw[e]at h1;refine⟨fun _=>⟨by simp;omega,fun h=>⟨by simp;omega,?_⟩,fun h=>?_⟩,fun h=>by simp at h<;>omega⟩
  ·have h:x.kind=1:=by simpa using h
   have ew:width x=x.text.length:=by simp[width,h]
   rw[ew]at h1;refine hR _ (bb ?_ (ih (pre++[x]) _ (by simp) h1));rw[hw];repeat' constructor
  ·have h:¬ x.kind=1:=by simpa using h
   have ew:width x=1:=by simp[width,h]
   rw[ew]at h1;refine hR _ (bb ?_ (ih (pre++[x]) _ (by simp) h1));rw[hw];repeat' constructor
theorem DP(its:List It)(σ:ah):PC prog 222 [.sl 3 (its.map It.cells)] σ (fun r σ'=>r=.i .i64 (dS 0 its)∧σ'=σ):=by
 refine PC.intro func222 ZP fun aU da=>al ?_;have hlen:=kS (da 0 _ rfl).1;rw[ae]at hlen;simp only[UZ,SS,seval];simp only[ae,VV,seval];refine bX.bb ?_ (its.length+1) (OP its hlen its [] 0 rfl ?_)
 ·repeat' constructor
 ·intros;simp only[VV,seval];exact aP (.inr rfl) rfl ⟨rfl,rfl⟩
theorem R5{n:Nat}{σ:ah}{K:Exit→St→Prop}(a b:List It)(hlen:a.length<2^63)(rH:a.length=b.length):∀ (ra rb pa pb:List It),a=pa++ra→b=pb++rb→pa.length=pb.length →
  (eM ra rb=true→(∀ j0 j1 j2 j3 j4 j5 j6 j7 j8 j9 cC cH cG cF cB cE cD cI cQ db de dh dm dv du dt,K (.exit 0) ⟨[j0,j1,j2,j3,j4,j5,j6,j7,j8,j9,cC,cH,cG,cF,cB,cE,cD,cI,cQ,db,de,dh,dm,dv,du,dt],σ⟩))→(eM ra rb=false→(∀ j0 j1 j2 j3 j5 j6 j7 j8 j9 cC cH cG cF cB cE cD cI cQ db de dh dm dv du dt,K .ret ⟨[j0,j1,j2,j3,.b false,j5,j6,j7,j8,j9,cC,cH,cG,cF,cB,cE,cD,cI,cQ,db,de,dh,dm,dv,du,dt],σ⟩)) →
  fp n prog Ht K (ra.length+1) ⟨[.sl 3 (a.map It.cells),.sl 3 (b.map It.cells),u,u,u,u,u,u,u,u,u,u,.i .i64 a.length,.i .i64 pa.length,u,u,u,u,u,u,u,u,u,u,u,u],σ⟩:=by
 intro ra
 induction ra with
 | nil =>
  intro rb pa pb ha hb hp h1 h2
  have:rb=[]:=by
   subst ha;subst hb;simp at rH;exact bq (by omega)
  subst this;have ha:a=pa:=by simpa using ha
  subst ha;refine ay fun R hR=>?_;simp only[Ht,VV,seval];exact⟨fun h=>by simp at h,fun _=>h1 rfl ..⟩
 | cons x ra ih =>
  intro rb pa pb ha hb hp h1 h2;cases rb with
  | nil=>subst ha;subst hb;simp at rH;omega
  | cons y rb =>
   subst ha;subst hb;have e2:(List.map It.cells (pb++y::rb)).getD pa.length []=y.cells:=by rw[hp];exact jj
   have hw:IntKind.i64.wrap ((pa.length:Int)+1)=(((pa++[x]).length:Nat):Int):=by
    rw[aX (by simp at hlen;omega)];simp
   refine ay fun R hR=>?_;simp only[Ht,aH,e2,It.cells,fm,cu,VV,seval];have QW:(0:Int)≤pa.length∧(pa.length:Int)<(List.map It.cells (pa++x::ra)).length:=by simp;omega
   have SY:(0:Int)≤pa.length∧(pa.length:Int)<(List.map It.cells (pb++y::rb)).length:=by simp at rH ⊢;omega
   have hq:zi x y=(x.kind==y.kind&&(x.text==y.text&&x.id==y.id)):=rfl;rw[← hq];refine⟨fun _=>⟨QW,SY,fun h=>?_,fun h=>?_⟩,fun h=>by simp at h<;>omega⟩
   ·have h:zi x y=false:=by rw[bU]at h;exact h
    exact h2 (by simp[eM,h]) ..
   ·have h:zi x y=true:=by rw[cL]at h;exact h
    have e:eM (x::ra) (y::rb)=eM ra rb:=by simp[eM,h]
    rw[e]at h1 h2;refine hR _ (bb ?_ (ih rb (pa++[x]) (pb++[y]) (by simp) (by simp) (by simp[hp]) h1 h2));rw[hw];repeat' constructor
theorem qM(a b:List It)(σ:ah):PC prog 71 [.sl 3 (a.map It.cells),.sl 3 (b.map It.cells)] σ (fun r σ'=>r=.b (eM a b)∧σ'=σ):=by
 refine PC.intro func71 c71 fun aU da=>al ?_;have hlen:=kS (da 0 _ rfl).1;rw[ae]at hlen;simp only[p71,SS,seval];simp only[ae,VV,seval];refine⟨fun h=>?_,fun h=>?_⟩
 ·refine aP (.inr rfl) rfl ⟨?_,rfl⟩
  have:eM a b=false:=by
   cases h2:eM a b with
   | false=>rfl
   | true=>have:=Ar h2;simp at h;omega
  simp[Pm.one,this]
 ·have rH:a.length=b.length:=by simp at h;omega
  refine bX.bb ?_ (a.length+1) (R5 a b hlen rH a b [] [] rfl rfl rfl (fun h=>?_) (fun h=>?_))
  ·repeat' constructor
  ·intros;simp only[VV,seval];exact aP (.inr rfl) rfl ⟨by simp[Pm.one,h],rfl⟩
  ·intros;exact aP (.inr rfl) rfl ⟨by simp[Pm.one,h],rfl⟩
theorem OM{σ:ah}{K:Exit→St→Prop}(N:Nat)(hN:N<2^40):∀ (k i:Nat),i+k=N →
  (∀ j0 j1 j2 j4 j5 j6 j7 j8 j9 cC cH cG cF cB,K (.exit 0) ⟨[j0,j1,j2,.own σ.length N,j4,j5,j6,j7,j8,j9,cC,cH,cG,cF,cB],σ++[.row 3 1 8 N false ((dH N).map bW)]⟩) →
  fp σ.length prog BA K (k+1) ⟨[.i .i64 N,u,u,.own σ.length i,.i .i64 ((i+1:Nat):Int),u,u,u,u,u,u,u,u,u,u],σ++[.row 3 1 8 i false ((dH i).map bW)]⟩:=by
 intro k
 induction k with
 | zero =>
  intro i he h1;have he:i=N:=by omega
  subst he;refine ay fun R hR=>?_;simp only[BA,VV,seval];exact⟨fun h=>by simp at h<;>omega,fun _=>h1 ..⟩
 | succ k ih =>
  intro i he h1;refine ay fun R hR=>?_;have hc:(dH i).map bW++[[.i .i64 ((i+1:Nat):Int)]]=(dH (i+1)).map bW:=by simp[dH,mw,bW]
  have aU:(dH i).length=i:=by simp[dH]
  simp only[BA,hc,ae,aU,VV,seval];refine⟨fun _=>⟨⟨by omega,by simp only[maxLen];omega⟩,?_⟩,fun h=>by simp at h<;>omega⟩;refine hR _ (bb ?_ (ih (i+1) (by omega) h1));rw[aX (by omega)]
  repeat' constructor
theorem I2(n:Nat)(hn:n<2^40)(σ:ah):PC prog 225 [.i .i64 n] σ (fun r σ'=>r=.sl 1 ((dH n).map bW)∧σ'=σ):=by
 refine PC.intro func225 ZM fun aU da=>al ?_;simp only[UW,SS,seval];simp only[VV,seval];refine bX.wk ((Wk.iZ (k:=3) tI rfl).trans (Wk.ic ?_)) (bX.ml (n+1) (OM n hn n 0 (by omega) ?_))
 ·simp only[VV,seval]
  repeat' constructor
 ·intros;simp only[VV,seval];refine iy 0 aU (.inr rfl) rfl rfl ?_ ?_
  ·simp[fz,kF,gh,qc]
  ·simp[fz,kF,Pm.one]
theorem Lj(x n:Int)(hn:0<n)(h2:n<2^62)(σ:ah):PC prog 6 [.i .i64 x,.i .i64 n] σ (fun r σ'=>r=.i .i64 (place x n)∧σ'=σ):=by
 refine PC.intro func6 c6 fun aU da=>al ?_;simp only[p6,SS,seval];simp only[VV,seval];refine⟨by omega,fun h=>?_,fun h=>?_⟩
 ·have h:x.tmod n<0:=by simpa using h
  have hr:=vj (x:=x) hn;have e:place x n=x.tmod n+n:=by simp only[place,if_pos h]
  refine aP (.inr rfl) rfl ⟨?_,rfl⟩;rw[e]at hr ⊢;simp only[Pm.one,ar,aC];rw[IntWalk.i64_in _ (by omega)]
 ·have h:¬ x.tmod n<0:=by simpa using h
  have e:place x n=x.tmod n:=by simp only[place,if_neg h]
  exact aP (.inr rfl) rfl ⟨by rw[e];rfl,rfl⟩
theorem DQ(s:bY)(σ:ah):PC prog 177 [.agg s.cells] σ (fun r σ'=>r=.i .i64 (if gH s=false then 1 else 0)∧σ'=σ):=by
 refine PC.intro func177 aaf fun aU da=>al ?_;simp only[Vp,SS,seval];simp only[bY.cells,VV,seval]
 have e:(decide (s.time<1)||decide (1073741824<s.time)||decide (s.bP<0)||decide (8≤s.bP)||decide (s.number<1)||decide (128<s.number))=!gH s:=by
  simp only[gH];rw[cP];simp;omega
 rw[e];refine⟨fun h=>?_,fun h=>?_⟩
 ·refine aD aU (.inr rfl) (by simp only[RS,seval];rfl) (by simp only[LW]) ⟨?_,rfl⟩;rw[bU]at h;rw[h];rfl
 ·refine aD aU (.inr rfl) (by simp only[RS,seval];rfl) (by simp only[LW]) ⟨?_,rfl⟩;rw[cL]at h;rw[h];rfl
theorem jw(a b:Int)(σ:ah):PC prog 183 [.i .i64 a,.i .i64 b] σ (fun r σ'=>r=.i .i64 (eT a b)∧σ'=σ):=by
 refine PC.intro func183 Z9 fun aU da=>al ?_;simp only[Vj,SS,seval];simp only[VV,seval];refine⟨fun h=>?_,fun h=>⟨fun h2=>?_,fun h2=>?_⟩⟩<;>simp at h
 ·exact aP (.inr rfl) (by simp only[RS,seval];rfl) ⟨by simp[Pm.one,eT,h],rfl⟩
 ·simp at h2;exact aP (.inr rfl) (by simp only[RS,seval];rfl) ⟨by simp[Pm.one,eT,G4.2 h,h2],rfl⟩
 ·simp at h2;exact aP (.inr rfl) (by simp only[RS,seval];rfl) ⟨by simp[Pm.one,eT,G4.2 h,G4.2 h2],rfl⟩
theorem qX(a b:bY)(σ:ah):PC prog 149 [.agg a.cells,.agg b.cells] σ (fun r σ'=>r=.i .i64 (jh a b)∧σ'=σ):=by
 refine PC.intro func149 aaw fun aU da=>al ?_;simp only[VG,SS,seval];simp only[bY.cells,VV,seval];refine an (jw a.time b.time _) rfl ?_;simp only[VV,seval];refine⟨fun h=>?_,fun h=>?_⟩
 ·have h:eT a.time b.time≠0:=by simpa using h
  exact aD aU (.inr rfl) (by simp only[RS,seval];rfl) (by simp only[LW]) ⟨by simp[Pm.one,jh,qN,h],rfl⟩
 have h:eT a.time b.time=0:=by simpa using h
 refine an (jw a.bP b.bP _) rfl ?_;simp only[VV,seval];refine⟨fun h2=>?_,fun h2=>?_⟩
 ·have h2:eT a.bP b.bP≠0:=by simpa using h2
  exact aD aU (.inr rfl) (by simp only[RS,seval];rfl) (by simp only[LW]) ⟨by simp[Pm.one,jh,qN,h,h2],rfl⟩
 have h2:eT a.bP b.bP=0:=by simpa using h2
 refine an (jw a.number b.number _) rfl ?_;simp only[VV,seval];refine aD aU (.inr rfl) (by simp only[RS,seval];rfl) (by simp only[LW]) ⟨?_,rfl⟩
 by_cases h3:eT a.number b.number=0
 ·simp[Pm.one,jh,qN,h,h2,h3]
 ·simp[Pm.one,jh,qN,h,h2,h3]
theorem sM(v:List Int)(o:Int)(σ:ah):PC prog 180 [.sl 1 (v.map bW),.i .i64 o] σ (fun r σ'=>r=.i .i64 (lL v o)∧σ'=σ):=by
 refine PC.intro func180 aac fun aU da=>al ?_;simp only[Vm,SS,seval];simp only[ae,VV,seval]
 have e:(decide (o<0)||decide ((v.length:Int)≤o)||decide (8≤o))=decide (o<0∨(v.length:Int)≤o∨8≤o):=by
  rw[cP];simp[or_assoc]
 rw[e];refine⟨fun h=>?_,fun h=>?_⟩
 ·have h:=of_decide_eq_true h;exact aP (.inr rfl) (by simp only[RS,seval];rfl) ⟨by simp only[lL,if_pos h];rfl,rfl⟩
 ·have h:=of_decide_eq_false h;obtain⟨n,rfl⟩:∃ n:Nat,o=n:=⟨o.toNat,by omega⟩;have hn:n<v.length:=by omega
  simp only[aH,oD hn,VV,seval];refine⟨by omega,?_⟩;refine aP (.inr rfl) (by simp only[RS,seval];rfl) ⟨?_,rfl⟩;simp only[lL,if_neg h,aH];rfl
theorem vh(e:En)(σ:ah):PC prog 148 [.agg e.cells] σ (fun r σ'=>r=.agg (asked e).cells∧σ'=σ):=by
 refine PC.intro func148 aax fun aU da=>al ?_;simp only[VH,SS,seval];simp only[En.cells,VV,seval];exact aD aU (.inr rfl) (by simp only[RS,seval];rfl) (by simp only[LW]) ⟨rfl,rfl⟩
theorem zB{n:Nat}(h:¬ n<10):Lib.decDigits n=Lib.decDigits (n / 10)++[UInt8.ofNat (48+n % 10)]:=by
 rw[Lib.decDigits,dif_neg h]
theorem ET{n:Nat}:UInt8.ofNat ((IntKind.u8.wrap (IntKind.i64.wrap (48+(n:Int).tmod 10))).toNat)=UInt8.ofNat (48+n % 10):=by
 have h:(n:Int).tmod 10=((n % 10:Nat):Int):=by rw[Int.tmod_eq_emod_of_nonneg (by omega)];rfl
 rw[h,IntWalk.i64_in _ (by omega)]
 have h2:IntKind.u8.wrap (48+((n % 10:Nat):Int))=((48+n % 10:Nat):Int):=by
  rw[IntWalk.u8_in _ (by omega)];omega
 rw[h2];rfl
theorem Il{n:Nat}(h:n<2^62):IntKind.i64.wrap ((n:Int).tdiv 10)=((n / 10:Nat):Int):=by
 have e:(n:Int).tdiv 10=((n / 10:Nat):Int):=by rw[Int.tdiv_eq_ediv_of_nonneg (by omega)];rfl
 rw[e,IntWalk.i64_in _ (by omega)]
theorem OG{σ:ah}{K:Exit→St→Prop}:∀ (k n:Nat) (s:List UInt8),n<10^(k+1)→n<2^62→s.length+k<2^40 →
  ((∀ j0 j1 j3 j4 j5 j6 j7 j8 j9 cC cH cG cF cB cE cD,K .ret ⟨[j0,j1,.s (Lib.decDigits n++s),j3,j4,j5,j6,j7,j8,j9,cC,cH,cG,cF,cB,cE,cD],σ⟩)) →
  fp σ.length prog xc K (k+1) ⟨[.i .i64 n,u,u,.s s,u,u,u,u,u,u,u,u,u,u,u,u,u],σ⟩:=by
 have last:∀ (k n:Nat) (s:List UInt8),n<10→n<2^62→s.length+k<2^40→((∀ j0 j1 j3 j4 j5 j6 j7 j8 j9 cC cH cG cF cB cE cD,K .ret ⟨[j0,j1,.s (Lib.decDigits n++s),j3,j4,j5,j6,j7,j8,j9,cC,cH,cG,cF,cB,cE,cD],σ⟩)) →
   fp σ.length prog xc K (k+1) ⟨[.i .i64 n,u,u,.s s,u,u,u,u,u,u,u,u,u,u,u,u,u],σ⟩:=by
  intro k n s Fv hb hs h1;refine ay fun R hR=>?_;simp only[xc,Il hb,ET,VV,Int.reduceBEq,Int.reduceBNe,Nat.reduceAdd,Nat.reduceSub,Nat.reduceLeDiff,Nat.reduceEqDiff,Int.reduceToNat,reduceIte,reduceCtorEq];rw[Lib.decDigits_one Fv]at h1;have e:n % 10=n:=by omega
  have e2:n / 10=0:=by omega
  rw[e,e2];exact⟨by decide,by simp[maxLen];omega,by decide,fun h=>h1 ..,fun h=>by simp at h⟩
 intro k
 induction k with
 | zero=>intro n s hn hb hs h1;exact last 0 n s (by omega) hb hs h1
 | succ k ih =>
  intro n s hn hb hs h1
  by_cases Fv:n<10
  ·exact last (k+1) n s Fv hb hs h1
  ·rw[zB Fv,List.append_assoc]at h1;have hk:n / 10<10^(k+1):=by rw[Nat.pow_succ]at hn;omega
   refine ay fun R hR=>?_;simp only[xc,Il hb,ET,VV,Int.reduceBEq,Int.reduceBNe,Nat.reduceAdd,Nat.reduceSub,Nat.reduceLeDiff,Nat.reduceEqDiff,Int.reduceToNat,reduceIte,reduceCtorEq];refine⟨by decide,by simp[maxLen];omega,by decide,fun h=>by simp at h;omega,fun h=>?_⟩;refine hR _ (bb ?_ (ih (n / 10) (UInt8.ofNat (48+n % 10)::s) hk (by omega) (by simp;omega) h1))
   repeat' constructor
theorem Bo(n:Nat)(hn:n<2^62)(σ:ah):PC prog 248 [.i .i64 n] σ (fun r σ'=>r=.s (Lib.decDigits n)∧σ'=σ):=by
 refine PC.intro func248 Zy fun aU da=>al ?_;simp only[UH,SS,seval];simp only[VV,seval];refine bX.bb ?_ 19 (OG 18 n [] (by omega) hn (by simp) ?_)
 ·repeat' constructor
 ·intros;simp only[VV,seval];exact aP (.inr rfl) (by simp only[RS,seval];rfl) ⟨by simp[Pm.one],rfl⟩
theorem Bp(n:Nat)(hn:n<2^62)(σ:ah):PC prog 231 [.i .i64 n] σ (fun r σ'=>r=.s (Lib.itoa n)∧σ'=σ):=by
 refine PC.intro func231 ZG fun aU da=>al ?_;have h0:decide ((n:Int)<0)=false:=by simp
 have hm:(if(n:Int)<0 then(0:Int)else n)=n:=if_neg (by omega);simp only[UP,SS,seval];simp only[h0,hm,VV,seval];refine an (Bo n hn _) rfl ?_;simp only[VV,seval];refine aP (.inr rfl) (by simp only[RS,seval];rfl) ⟨?_,rfl⟩;have e:Lib.itoa (n:Int)=Lib.decDigits n:=by unfold Lib.itoa;rw[if_neg (by omega)];rfl
 rw[e];rfl
theorem Fy:∀ c:UInt8,((((c.toNat:Int)==92||(c.toNat:Int)==60)||(c.toNat:Int)==123)=true→dC c=[92,c]) ∧
  ((((c.toNat:Int)==92||(c.toNat:Int)==60)||(c.toNat:Int)==123)=false→(((c.toNat:Int)==10)=true→dC c=[92,110]) ∧
  (((c.toNat:Int)==10)=false→(((c.toNat:Int)==9)=true→dC c=[92,116]) ∧
  (((c.toNat:Int)==9)=false→(((c.toNat:Int)==13||jG c==1)=true→dC c=[92,120,ia (c.toNat / 16),ia (c.toNat % 16)]) ∧
  (((c.toNat:Int)==13||jG c==1)=false→dC c=[c])))):=fO (by decide +kernel)
theorem S2:∀ c:UInt8,(0≤IntKind.u8.wrap ((c.toNat:Int).tdiv 16)∧IntKind.u8.wrap ((c.toNat:Int).tdiv 16)<((16:Nat):Int))∧(0≤(c.toNat:Int).tmod 16∧(c.toNat:Int).tmod 16<((16:Nat):Int)) ∧
  ([48,49,50,51,52,53,54,55,56,57,97,98,99,100,101,102]:List UInt8).getD (IntKind.u8.wrap ((c.toNat:Int).tdiv 16)).toNat 0=ia (c.toNat / 16) ∧
  ([48,49,50,51,52,53,54,55,56,57,97,98,99,100,101,102]:List UInt8).getD ((c.toNat:Int).tmod 16).toNat 0=ia (c.toNat % 16):=fO (by decide +kernel)
theorem sK(c:UInt8)(σ:ah):PC prog 230 [.i .u8 c.toNat] σ (fun r σ'=>r=.s (dC c)∧σ'=σ):=by
 refine PC.intro func230 ZH fun aU da=>al ?_;obtain⟨w1,w2⟩:=Fy c;simp only[UQ,SS,seval];simp only[VV,seval];refine⟨fun h1=>⟨by decide,?_⟩,fun h1=>⟨fun h2=>?_,fun h2=>⟨fun h3=>?_,fun h3=>?_⟩⟩⟩
 ·exact aP (.inr rfl) (by simp only[RS,seval];rfl) ⟨by rw[w1 h1];rfl,rfl⟩
 ·exact aP (.inr rfl) (by simp only[RS,seval];rfl) ⟨by rw[(w2 h1).1 h2];rfl,rfl⟩
 ·exact aP (.inr rfl) (by simp only[RS,seval];rfl) ⟨by rw[((w2 h1).2 h2).1 h3];rfl,rfl⟩
 ·have w5:=((w2 h1).2 h2).2 h3;refine br (by simp only[VV,seval]<;>rfl) (fun _=>F3 c _) rfl ?_;simp only[VV,Int.reduceBEq,Int.reduceBNe,Nat.reduceAdd,Nat.reduceSub,Nat.reduceLeDiff,Nat.reduceEqDiff,Int.reduceToNat,reduceIte,reduceCtorEq];obtain⟨x1,x2,x3,x4⟩:=S2 c;refine⟨fun h4=>⟨by decide,x1,by decide,x2,by decide,?_⟩,fun h4=>?_⟩
  ·refine aP (.inr rfl) (by simp only[RS,seval];rfl) ⟨?_,rfl⟩;rw[w5.1 h4,← x3,← x4];rfl
  ·exact aP (.inr rfl) (by simp only[RS,seval];rfl) ⟨by rw[w5.2 h4];rfl,rfl⟩
def vQ(n:Int):Nat→List UInt8
 | 0=>[]
 | m+1=>iA (n / 2^(8*m))::vQ n m
theorem B8(n:Int):vQ n 4=zK n:=by
 have e:n / 65536 / 256=n / 16777216:=by omega
 simp[vQ,zK,pt,e]
theorem Lx(n:Int):vQ n 2=pt n:=by simp[vQ,pt]
theorem sX(n:Int):IntKind.u8.wrap n=((iA n).toNat:Int):=by
 have h1:IntKind.u8.wrap n=n % 256:=by
  simp[IntKind.wrap,IntKind.bits,IntKind.signed]
 rw[h1];have h2:0≤n % 256:=QA _ (by decide);have h3:n % 256<256:=G5 _ (by decide);simp only[iA,mZ];omega
theorem Rt:Ti prog 5 1 1:=kY (by kernel_rfl)
theorem OQ{σ:ah}{K:Exit→St→Prop}(n:Int):∀ (m:Nat) (out:List UInt8) (g:Nat),m≤8→out.length+m≤8 →
  (∀ g,(∀ j0 j1 j2 j3 j4 j6 j7 j8 j9 cC cH cG cF cB cE cD cI cQ db de dh,K (.exit 0) ⟨[j0,j1,j2,j3,j4,.own σ.length g,j6,j7,j8,j9,cC,cH,cG,cF,cB,cE,cD,cI,cQ,db,de,dh],σ++[.row 5 1 1 g false (aQ (out++vQ n m))]⟩)) →
  fp σ.length prog BD K (m+1) ⟨[.i .i64 n,u,u,u,u,.own σ.length g,.i .i64 ((m:Int) - 1),u,u,u,u,u,u,u,u,u,u,u,u,u,u,u],σ++[.row 5 1 1 g false (aQ out)]⟩:=by
 intro m
 induction m with
 | zero =>
  intro out g hm ho h1;simp only[vQ,bt]at h1;refine ay fun R hR=>?_;have e1:decide ((0:Int)≤((0:Nat):Int) - 1)=false:=rfl;simp only[BD,e1,VV,Int.reduceBEq,Int.reduceBNe,Nat.reduceAdd,Nat.reduceSub,Nat.reduceLeDiff,Nat.reduceEqDiff,Int.reduceToNat,reduceIte,reduceCtorEq];exact h1 g ..
 | succ m ih =>
  intro out g hm ho h1;have e0:((m+1:Nat):Int) - 1=(m:Int):=by omega
  have hw:IntKind.i64.wrap ((m:Int) - 1)=(m:Int) - 1:=IntWalk.i64_in _ (by omega);have h8:IntKind.i64.wrap (8*(m:Int))=((8*m:Nat):Int):=by rw[IntWalk.i64_in _ (by omega)];omega
  rw[e0];refine ay fun R hR=>?_;have Mu:min (8*m) IntKind.i64.bits=8*m:=gG (show 8*m≤64 by omega);have hf:n.fdiv (2^(8*m))=n / 2^(8*m):=lq _ (Int.pow_nonneg (by decide));simp only[BD,hw,h8,Mu,hf,sX,aH,VV,seval];have cm:aQ out++[[V.i .u8 ((iA (n / 2^(8*m))).toNat:Int)]]=aQ (out++[iA (n / 2^(8*m))]):=by simp[aQ]
  have hl:(aQ out).length=out.length:=by simp[aQ]
  rw[cm,hl];refine⟨fun _=>⟨by omega,by simp only[maxLen];omega,?_⟩,fun h=>by simp at h<;>omega⟩;refine hR _ (bb ?_ (ih (out++[iA (n / 2^(8*m))]) (g+1) (by omega) (by simp;omega) ?_))
  ·repeat' constructor
  ·simpa only[vQ,List.append_assoc,aJ,aG]using h1
theorem rD(n:Int)(m:Nat)(hm:m≤8)(σ:ah):PC prog 204 [.i .i64 n,.i .i64 m] σ (fun r σ'=>r=.own σ.length 0∧σ'=σ++[.row 5 1 1 0 false (aQ (vQ n m))]):=by
 refine PC.intro func204 ZV fun aU da=>al ?_;have hw:IntKind.i64.wrap ((m:Int) - 1)=(m:Int) - 1:=IntWalk.i64_in _ (by omega);simp only[U5,SS,seval];simp only[hw,VV,seval];refine bX.wk ((Wk.iZ (k:=5) Rt rfl).trans (Wk.ic ?_)) (bX.ml (m+1) (OQ n m [] 0 hm (by simpa using hm) ?_))
 ·simp only[VV,seval]
  repeat' constructor
 ·intro g;intros;simp only[aG,VV,seval];exact Bi 0 aU (.inr rfl) rfl rfl rfl (by simp[Ec,Ob.gen]) (by simp[Pm.one,RN,Ob.fresh])
theorem lY(n:Int)(m:Nat)(hm:m≤8)(σ:ah):PC prog 204 [.i .i64 n,.i .i64 m] σ (fun r σ'=>r=.sl 1 (aQ (vQ n m))∧σ'=σ) :=
 PC.closed fun aU=>PC.fz aU (rD n m hm σ)
theorem mC(s:List UInt8)(hs:s.length<2^40)(σ:ah):PC prog 206 [.s s] σ (fun r σ'=>r=.sl 1 (aQ (cY s))∧σ'=σ):=by
 refine PC.intro func206 ZT fun aU da=>al ?_;simp only[U3,SS,seval];simp only[VV,seval];refine an (rD (s.length:Int) 4 (by decide) _) rfl ?_;simp only[VV,seval];have e:aQ (vQ (s.length:Int) 4)++aQ s=aQ (cY s):=by rw[B8];simp[aQ,cY]
 have l4:(aQ (vQ (s.length:Int) 4)).length=4:=by rw[B8];simp[aQ,dA]
 have ls:(aQ s).length=s.length:=by simp[aQ]
 rw[e,l4,ls];refine⟨⟨by omega,by simp only[maxLen];omega⟩,?_⟩;refine iy 0 aU (.inr rfl) (by simp only[RS,seval];rfl) rfl ?_ ⟨?_,rfl⟩
 ·simp[fz,kF,gh,qc]
 ·simp[fz,kF,Pm.one]
theorem OK{n:Nat}{σ:ah}{K:Exit→St→Prop}(s:List UInt8)(hlen:s.length<2^63):∀ (rest pre:List UInt8),s=pre++rest →
  (rest.all (fun b=>!fy b)=true→(∀ j1 j2 j3 j4 j5 j6 j7 j8 j9 cC cH cG cF cB cE cD cI cQ db de dh dm dv du dt dN dR dU dX ej eD eL eQ eP fb fi fh fg fw fG fF fK fW gj gi gB gA gz gy gx gY gW gU iq iD iN iM iL iK jf jD jP kt kr kq k8,K (.exit 0) ⟨[.s s,j1,j2,j3,j4,j5,j6,j7,j8,j9,cC,cH,cG,cF,cB,cE,cD,cI,cQ,db,de,dh,dm,dv,du,dt,dN,dR,dU,dX,ej,eD,eL,eQ,eP,fb,fi,fh,fg,fw,fG,fF,fK,fW,gj,gi,gB,gA,gz,gy,gx,gY,gW,gU,iq,iD,iN,iM,iL,iK,jf,jD,jP,kt,kr,kq,k8],σ⟩))→(rest.all (fun b=>!fy b)=false→(∀ j0 j1 j3 j4 j5 j6 j7 j8 j9 cC cH cG cF cB cE cD cI cQ db de dh dm dv du dt dN dR dU dX ej eD eL eQ eP fb fi fh fg fw fG fF fK fW gj gi gB gA gz gy gx gY gW gU iq iD iN iM iL iK jf jD jP kt kr kq k8,K .ret ⟨[j0,j1,.b false,j3,j4,j5,j6,j7,j8,j9,cC,cH,cG,cF,cB,cE,cD,cI,cQ,db,de,dh,dm,dv,du,dt,dN,dR,dU,dX,ej,eD,eL,eQ,eP,fb,fi,fh,fg,fw,fG,fF,fK,fW,gj,gi,gB,gA,gz,gy,gx,gY,gW,gU,iq,iD,iN,iM,iL,iK,jf,jD,jP,kt,kr,kq,k8],σ⟩)) →
  fp n prog Bx K (rest.length+1) ⟨[.s s,u,u,.i .i64 pre.length,u,u,u,u,u,u,u,u,u,u,u,u,u,u,u,u,u,u,u,u,u,u,u,u,u,u,u,u,u,u,u,u,u,u,u,u,u,u,u,u,u,u,u,u,u,u,u,u,u,u,u,u,u,u,u,u,u,u,u,u,u,u,u],σ⟩:=by
 intro rest
 induction rest with
 | nil =>
  intro pre he h1 h2;have he:s=pre:=by simpa using he
  subst he;refine ay fun R hR=>?_;simp only[Bx,VV,seval];exact⟨fun h=>by simp at h,fun _=>h1 rfl ..⟩
 | cons c rest ih =>
  intro pre he h1 h2;subst he
  have hb:fy c=(((((decide ((c.toNat:Int)<32)||decide (126<(c.toNat:Int)))||((c.toNat:Int)==60))||((c.toNat:Int)==62))||((c.toNat:Int)==123))||((c.toNat:Int)==125)):=by
   clear h1 h2 ih hlen;revert c;exact fO (by decide +kernel)
  refine ay fun R hR=>?_;simp only[Bx,VV,seval];rw[← hb];refine⟨fun _=>⟨by simp;omega,fun h=>?_,fun h=>?_⟩,fun h=>by simp at h<;>omega⟩
  ·exact h2 (by simp[h]) ..
  ·have e:(c::rest).all (fun b=>!fy b)=rest.all (fun b=>!fy b):=by simp[h]
   rw[e]at h1 h2;refine hR _ (bb ?_ (ih (pre++[c]) (by simp) h1 h2));rw[aX (by simp at hlen;omega)];simp only[List.length_append,ag,ai]
   repeat' constructor
theorem M7(s:List UInt8):iX s=(isName (dz s)&&(decide ((dz s).length=s.length)||decide ((dz s).length+1<s.length))):=by
 have hb:=jF s 32
 by_cases h:0≤Lib.indexByte s 32
 ·have e0:cutAt s 32=(s.take (Lib.indexByte s 32).toNat,s.drop ((Lib.indexByte s 32).toNat+1),true):=by simp only[cutAt,if_pos h]
  have e3:dz s=s.take (Lib.indexByte s 32).toNat:=by simp only[dz,e0]
  simp only[iX,e0,e3];have e1:(s.take (Lib.indexByte s 32).toNat).length=(Lib.indexByte s 32).toNat:=by rw[ba];omega
  have e2:(s.drop ((Lib.indexByte s 32).toNat+1)).length=s.length - ((Lib.indexByte s 32).toNat+1):=by simp
  simp only[e1,e2,fH,jA];congr 1;rw[cP];simp;omega
 ·have e0:cutAt s 32=(s,[],false):=by simp only[cutAt,if_neg h]
  have e3:dz s=s:=by simp only[dz,e0]
  simp only[iX,e0,e3];simp
theorem mB(s:List UInt8)(σ:ah):PC prog 241 [.s s] σ (fun r σ'=>r=.b (cA s)∧σ'=σ):=by
 refine PC.intro func241 ZF fun aU da=>al ?_;have hlen:=yP (da 0 _ rfl).1;simp only[UO,SS,seval];simp only[VV,seval];refine⟨fun h=>?_,fun h=>?_⟩
 ·refine aP (.inr rfl) rfl ⟨?_,rfl⟩;have h:¬ s.length≤64:=by simp at h;omega
  simp[Pm.one,cA,gO,h]
 have h64:s.length≤64:=by simp at h;omega
 refine bX.bb ?_ (s.length+1) (OK s hlen s [] rfl (fun ha=>?_) (fun ha=>?_))
 ·repeat' constructor
 ·intros;simp only[VV,seval];refine an (Ae s _) rfl ?_;simp only[VV,seval];refine an (ki (dz s) _) rfl ?_;simp only[VV,seval];have hle:(dz s).length≤s.length:=(uQ s 32).1;have hw:IntKind.i64.wrap (((dz s).length:Int)+1)=((dz s).length:Int)+1:=IntWalk.i64_in _ (by omega);have hc:(((dz s).length:Int)==(s.length:Int))=decide ((dz s).length=s.length):=by rw[cP];simp;omega
  have hd:decide (((dz s).length:Int)+1<(s.length:Int))=decide ((dz s).length+1<s.length):=by rw[cP];simp;omega
  rw[hw,hc,hd,← M7]
  have js:iX s=true→0<s.length:=fun h=>by
   cases s with
   | nil=>revert h;decide
   | cons c s=>simp
  refine⟨fun h=>?_,?_⟩
  ·have h:iX s=true:=by simpa using h
   have:=js h;rw[IntWalk.i64_in _ (by omega)];omega
  ·refine aP (.inr rfl) rfl ⟨?_,rfl⟩;cases hn:iX s with
   | false=>simp[Pm.one,cA,hn]
   | true =>
    have h0:=js hn;have e1:(IntKind.i64.wrap ((s.length:Int) - 1)).toNat=s.length - 1:=by rw[IntWalk.i64_in _ (by omega)];omega
    simp only[Pm.one,ar,aC,e1,cA,gO,hn,ha,bu,bI,h64,decide_true];have h3:s.length≠0:=by omega
    simp only[h3,ne_eq,not_false_eq_true,decide_true,bu,V.b.injEq];rw[cP];simp;omega
 ·intros;exact aP (.inr rfl) rfl ⟨by simp[Pm.one,cA,ha],rfl⟩
theorem Ad(b:Bool)(n:Int):(b&&decide (1≤n)&&decide (n≤999))=!(!b||decide (n<1)||decide (999<n)):=by
 rw[cP];simp[G4]
theorem OO{σ:ah}{K:Exit→St→Prop}(its:List It)(x:It)(aU:bG σ)(hlen:its.length<2^63):∀ (rest pre:List It),its=pre++rest →
  ((rest.all fun y=>!ek x y)=true→(∀ j0 j1 j2 j3 j4 j5 j6 j7 j8 j9 cC cH cG cF cB cE cD cI cQ db de dh dm dv du dt dN dR dU dX ej eD eL eQ eP fb fi fh fg fw fG fF fK fW gj gi gB gA gz gy gx gY gW gU iq iD iN iM iL iK jf jD jP kt kr kq k8 mP mO mN mM mL mK nL qf rj ri rh rf re q9 q8 q7 qZ qY rT uq uo um uk uj ui uh Ep Eo Em El Ek Ej Gm uG uF uE uD uC uB uA uz uy ux uw uv uu ur,K (.exit 1) ⟨[j0,j1,j2,j3,j4,j5,j6,j7,j8,j9,cC,cH,cG,cF,cB,cE,cD,cI,cQ,db,de,dh,dm,dv,du,dt,dN,dR,dU,dX,ej,eD,eL,eQ,eP,fb,fi,fh,fg,fw,fG,fF,fK,fW,gj,gi,gB,gA,gz,gy,gx,gY,gW,gU,iq,iD,iN,iM,iL,iK,jf,jD,jP,kt,kr,kq,k8,mP,mO,mN,mM,mL,mK,nL,qf,rj,ri,rh,rf,re,q9,q8,q7,qZ,qY,rT,uq,uo,um,uk,uj,ui,uh,Ep,Eo,Em,El,Ek,Ej,Gm,uG,uF,uE,uD,uC,uB,uA,uz,uy,ux,uw,uv,uu,ur],σ++[.box 31 x.cells]⟩))→((rest.all fun y=>!ek x y)=false→∀ loc,(∀ j0 j1 j2 j3 j5 j6 j7 j8 j9 cC cH cG cF cB cE cD cI cQ db de dh dm dv du dt dN dR dU dX ej eD eL eQ eP fb fi fh fg fw fG fF fK fW gj gi gB gA gz gy gx gY gW gU iq iD iN iM iL iK jf jD jP kt kr kq k8 mP mO mN mM mL mK nL qf rj ri rh rf re q9 q8 q7 qZ qY rT uq uo um uk uj ui uh Ep Eo Em El Ek Ej Gm uG uF uE uD uC uB uA uz uy ux uw uv uu ur,K .ret ⟨[j0,j1,j2,j3,.i .i64 7,j5,j6,j7,j8,j9,cC,cH,cG,cF,cB,cE,cD,cI,cQ,db,de,dh,dm,dv,du,dt,dN,dR,dU,dX,ej,eD,eL,eQ,eP,fb,fi,fh,fg,fw,fG,fF,fK,fW,gj,gi,gB,gA,gz,gy,gx,gY,gW,gU,iq,iD,iN,iM,iL,iK,jf,jD,jP,kt,kr,kq,k8,mP,mO,mN,mM,mL,mK,nL,qf,rj,ri,rh,rf,re,q9,q8,q7,qZ,qY,rT,uq,uo,um,uk,uj,ui,uh,Ep,Eo,Em,El,Ek,Ej,Gm,uG,uF,uE,uD,uC,uB,uA,uz,uy,ux,uw,uv,uu,ur],σ++(.box 31 x.cells::loc)⟩)) →
  fp σ.length prog tX K (rest.length+1) ⟨[.sl 3 (its.map It.cells),u,u,.ptr σ.length 0,u,u,u,u,u,u,u,u,u,u,u,u,u,u,u,u,u,u,u,u,u,u,u,u,u,u,u,u,u,u,u,u,u,u,u,u,u,u,u,u,u,u,u,u,u,u,u,u,u,u,u,u,u,u,u,u,u,u,u,u,u,u,u,u,u,u,u,u,u,u,u,u,u,u,u,.i .i64 its.length,.i .i64 pre.length,u,u,u,u,u,u,u,u,u,u,u,u,u,u,u,u,u,u,u,u,u,u,u,u,u,u,u,u,u,u,u,u,u],σ++[.box 31 x.cells]⟩:=by
 intro rest
 induction rest with
 | nil =>
  intro pre he h1 h2;have he:its=pre:=by simpa using he
  subst he;refine ay fun R hR=>?_;simp only[tX,VV,seval];exact⟨fun h=>by simp at h,fun _=>h1 rfl ..⟩
 | cons y rest ih =>
  intro pre he h1 h2;subst he
  have hw:IntKind.i64.wrap ((pre.length:Int)+1)=(((pre++[y]).length:Nat):Int):=by
   rw[aX (by simp at hlen;omega)];simp
  have next:ek x y=false→∀ {loc:ah} {R:St→Prop} {fr:List V},(∀ st',fp σ.length prog tX K (rest.length+1) st'→R st') →
    nP fr [.sl 3 ((pre++y::rest).map It.cells),u,u,.ptr σ.length 0,u,u,u,u,u,u,u,u,u,u,u,u,u,u,u,u,u,u,u,u,u,u,u,u,u,u,u,u,u,u,u,u,u,u,u,u,u,u,u,u,u,u,u,u,u,u,u,u,u,u,u,u,u,u,u,u,u,u,u,u,u,u,u,u,u,u,u,u,u,u,u,u,u,u,u,.i .i64 (pre++y::rest).length,.i .i64 (IntKind.i64.wrap ((pre.length:Int)+1)),u,u,u,u,u,u,u,u,u,u,u,u,u,u,u,u,u,u,u,u,u,u,u,u,u,u,u,u,u,u,u,u,u]→R ⟨fr,σ++(.box 31 x.cells::loc)⟩:=by
   intro hf loc R fr hR hc;rw[hw]at hc;have e:((y::rest).all fun y=>!ek x y)=rest.all fun y=>!ek x y:=by simp[hf]
   rw[e]at h1 h2;refine hR _ (cy [_] loc (b9 aU (by simp only[ct,It.cells,LW];simp)) hc ?_ (ih (pre++[y]) (by simp) h1 h2));simp only[LW,ag,ai,aI];omega
  refine ay fun R hR=>?_;simp only[tX,It.cells,VV,seval];refine⟨fun _=>⟨by simp;omega,?_⟩,fun h=>by simp at h<;>omega⟩;refine an (rQ y _) rfl ?_;simp only[VV,seval];have e1:ek x y=(!(!cX y||y.id != x.id)&&(x.kind != 3||y.kind != 2||!(dz y.text==x.text))):=rfl;refine⟨fun h=>?_,fun h=>?_⟩
  ·refine next (by rw[e1,h];rfl) hR ?_
   simp only[It.cells]
   repeat' constructor
  ·refine br (by simp only[VV,seval]<;>rfl) (fun _=>Ae y.text _) rfl ?_;simp only[VV,seval];refine⟨fun h3=>?_,fun h3=>?_⟩
   ·have hb:ek x y=true:=by rw[e1,h];simpa[bne]using h3
    exact h2 (by simp[hb]) _ ..
   ·have hb:ek x y=false:=by rw[e1,h];simpa[bne]using h3
    refine next hb hR ?_
    simp only[It.cells]
    repeat' constructor
theorem w7(before:List It)(x:It)(σ:ah):PC prog 223 [.sl 3 (before.map It.cells),.agg x.cells] σ (fun r σ'=>r=.i .i64 (eF before x)∧σ'=σ):=by
 refine PC.intro func223 ZO fun aU da=>al ?_;have hlen:=kS (da 0 _ rfl).1;rw[ae]at hlen;simp only[UY,SS,seval]
 have loop:∀ {fr:List V},bh before.getLast? x=true→cX x=true→nP fr [.sl 3 (before.map It.cells),u,u,.ptr σ.length 0,u,u,u,u,u,u,u,u,u,u,u,u,u,u,u,u,u,u,u,u,u,u,u,u,u,u,u,u,u,u,u,u,u,u,u,u,u,u,u,u,u,u,u,u,u,u,u,u,u,u,u,u,u,u,u,u,u,u,u,u,u,u,u,u,u,u,u,u,u,u,u,u,u,u,u,.i .i64 before.length,.i .i64 ((0:Nat):Int),u,u,u,u,u,u,u,u,u,u,u,u,u,u,u,u,u,u,u,u,u,u,u,u,u,u,u,u,u,u,u,u,u] →
   bX σ.length prog (.loop tX) (zJ 1 (KY (vI σ.length prog (.seq (.aj [] [⟨some 4,[],.aK (.c (.i .i64 0))⟩]) .ret) (wW prog σ.length [.t 4] fun r σ'=>r=.i .i64 (eF before x)∧σ'=σ)) (wW prog σ.length [.t 4] fun r σ'=>r=.i .i64 (eF before x)∧σ'=σ)))
    ⟨fr,σ++[.box 31 x.cells]⟩:=by
  intro fr hf ht hc;refine bX.bb hc (before.length+1) (OO before x aU hlen before [] rfl (fun ha=>?_) (fun ha=>?_))
  ·intros;simp only[VV,seval];refine aD aU (.inr rfl) (by simp only[RS,seval];rfl) (by simp only[LW]) ⟨?_,rfl⟩;have NP:fits before x=true:=ha;simp[Pm.one,eF,hf,ht,NP]
  ·intros;simp only[VV,seval];refine aD aU (.inr rfl) (by simp only[RS,seval];rfl) (by simp only[LW]) ⟨?_,rfl⟩;have NP:fits before x=false:=ha;simp[Pm.one,eF,hf,ht,NP]
 have early:cX x=false→eF before x=if bh before.getLast? x=false then 1 else 0:=by
  intro h;simp[eF,h]
 by_cases k1:x.kind=1
 ·have YZ:cX x=false:=by simp[cX,k1]
  rw[early YZ];rcases kO before with hb | ⟨b',y,hb⟩
  ·subst hb;have e0:decide ((0:Int)<(([]:List V).length:Int))=false:=rfl;simp only[It.cells,k1,aZ,e0,VV,seval];refine⟨fun h=>by simp at h,.i .i64 0,fun h=>by simp at h,?_⟩;simp only[VV,seval];refine⟨fun h=>?_,fun h=>?_⟩ <;>
   ·refine aD aU (.inr rfl) (by simp only[RS,seval];rfl) (by simp only[LW]) ⟨?_,rfl⟩;have e2:bh ([]:List It).getLast? x=!(x.text==[]||x.id != 0):=by simp[bh,k1,bne]
    rw[e2,h];rfl
  ·rw[kP]at hb;subst hb
   have hp:IntKind.i64.wrap (((b'++[y]).length:Int) - 1)=b'.length:=by
    have:(b'++[y]).length<2^63:=hlen;rw[IntWalk.i64_in _ (by simp at this ⊢;omega)];simp
   have er:ft (List.map It.cells (b'++[y])) b'.length 0=some (.i .i64 y.kind):=by
    rw[o6];rfl
   have e0:decide ((0:Int)<((List.map It.cells (b'++[y])).length:Int))=true:=by simp
   have e2:bh (b'++[y]).getLast? x=!((x.text==[]||x.id != 0)||y.kind==1):=by simp[bh,k1,bne]
   rw[e2];simp only[It.cells,k1,VV,seval];simp only[e0,ae,hp,aH,er,VV,seval];refine⟨fun _=>by simp;omega,.i .i64 y.kind,fun _=>?_,?_⟩
   ·rfl
   have e3:decide ((0:Int)<((b'++[y]).length:Int))=true:=by simp
   simp only[e3,VV,seval];refine⟨fun h=>?_,fun h=>?_⟩ <;>
   ·refine aD aU (.inr rfl) (by simp only[RS,seval];rfl) (by simp only[LW]) ⟨?_,rfl⟩;rw[h];rfl
 by_cases k5:x.kind=5
 ·have YZ:cX x=false:=by simp[cX,k5]
  rw[early YZ];have e2:bh before.getLast? x=!(!isName x.text||x.id != 0):=by simp[bh,k5,bne]
  rw[e2];simp only[It.cells,k5,VV,seval];refine an (ki _ _) rfl ?_;simp only[VV,seval];refine⟨fun h=>?_,fun h=>?_⟩ <;>
  ·refine aD aU (.inr rfl) (by simp only[RS,seval];rfl) (by simp only[LW]) ⟨?_,rfl⟩;rw[h];rfl
 have bad:bh before.getLast? x=false→eF before x=1:=fun h=>by simp[eF,h]
 have skip:bh before.getLast? x=true→cX x=false→eF before x=0:=fun h h2=>by simp[eF,h,h2]
 by_cases k24:x.kind=2∨x.kind=4
 ·have ht:cX x=true:=by simp[cX];rcases k24 with h | h<;>simp[h]
  have e2:bh before.getLast? x=!(!cA x.text||decide (x.id<1)||decide (999<x.id)):=by
   rw[← Ad];simp[bh,k24,k1,k5]
  rcases k24 with k | k
  ·rw[It.cells,k]at loop;simp only[It.cells,k,VV,seval];refine an (mB _ _) rfl ?_;simp only[VV,seval];refine⟨fun h=>?_,fun h=>loop (by rw[e2,h];rfl) ht (by simp only[ae,fZ];repeat' constructor)⟩;refine aD aU (.inr rfl) (by simp only[RS,seval];rfl) (by simp only[LW]) ⟨?_,rfl⟩;rw[bad (by rw[e2,h];rfl)];rfl
  ·rw[It.cells,k]at loop;simp only[It.cells,k,VV,seval];refine an (mB _ _) rfl ?_;simp only[VV,seval];refine⟨fun h=>?_,fun h=>loop (by rw[e2,h];rfl) ht (by simp only[ae,fZ];repeat' constructor)⟩;refine aD aU (.inr rfl) (by simp only[RS,seval];rfl) (by simp only[LW]) ⟨?_,rfl⟩;rw[bad (by rw[e2,h];rfl)];rfl
 by_cases k3:x.kind=3
 ·have ht:cX x=true:=by simp[cX,k3]
  have e2:bh before.getLast? x=!(!isName x.text||decide (x.id<1)||decide (999<x.id)):=by
   rw[← Ad];simp[bh,k3]
  rw[It.cells,k3]at loop;simp only[It.cells,k3,VV,seval];refine an (ki _ _) rfl ?_;simp only[VV,seval];refine⟨fun h=>?_,fun h=>loop (by rw[e2,h];rfl) ht (by simp only[ae,fZ];repeat' constructor)⟩;refine aD aU (.inr rfl) (by simp only[RS,seval];rfl) (by simp only[LW]) ⟨?_,rfl⟩;rw[bad (by rw[e2,h];rfl)];rfl
 ·have n1:(x.kind==1)=false:=by simpa using k1
  have n2:(x.kind==2)=false:=by simp;omega
  have n3:(x.kind==3)=false:=by simpa using k3
  have n4:(x.kind==4)=false:=by simp;omega
  have n5:(x.kind==5)=false:=by simpa using k5
  have e2:bh before.getLast? x=false:=by simp[bh,k1,k24,k3,k5]
  rw[bad e2];simp only[It.cells,n1,n2,n3,n4,n5,VV,seval];exact aD aU (.inr rfl) (by simp only[RS,seval];rfl) (by simp only[LW]) ⟨rfl,rfl⟩
theorem OT{σ:ah}{K:Exit→St→Prop}(its:List It)(aU:bG σ)(hlen:its.length<2^63):∀ (rest pre:List It),its=pre++rest →
  (bD pre rest=0→(∀ j0 j1 j2 j3 j4 j5 j6 j7 j8 j9 cC cH cG cF cB cE cD cI cQ db de dh dm dv du dt dN dR dU dX,K (.exit 0) ⟨[j0,j1,j2,j3,j4,j5,j6,j7,j8,j9,cC,cH,cG,cF,cB,cE,cD,cI,cQ,db,de,dh,dm,dv,du,dt,dN,dR,dU,dX],σ⟩))→(bD pre rest≠0→(∀ j0 j1 j3 j4 j5 j6 j7 j8 j9 cC cH cG cF cB cE cD cI cQ db de dh dm dv du dt dN dR dU dX,K .ret ⟨[j0,j1,.i .i64 (bD pre rest),j3,j4,j5,j6,j7,j8,j9,cC,cH,cG,cF,cB,cE,cD,cI,cQ,db,de,dh,dm,dv,du,dt,dN,dR,dU,dX],σ⟩)) →
  fp σ.length prog BG K (rest.length+1) ⟨[.sl 3 (its.map It.cells),u,u,u,u,u,u,u,u,u,u,u,u,u,.i .i64 its.length,.i .i64 pre.length,u,u,u,u,u,u,u,u,u,u,u,u,u,u],σ⟩:=by
 intro rest
 induction rest with
 | nil =>
  intro pre he h1 h2;have he:its=pre:=by simpa using he
  subst he;refine ay fun R hR=>?_;simp only[BG,VV,seval];exact⟨fun h=>by simp at h,fun _=>h1 rfl ..⟩
 | cons y rest ih =>
  intro pre he h1 h2;subst he;refine ay fun R hR=>?_;have ht:List.take pre.length (List.map It.cells (pre++y::rest))=pre.map It.cells:=by simp
  simp only[BG,It.cells,VV,seval];refine⟨fun _=>?_,fun h=>by simp at h;omega⟩;refine⟨by simp;omega,by simp;omega,?_⟩;rw[ht];refine an (w7 pre y _) rfl ?_;simp only[VV,seval];refine⟨fun h=>?_,fun h=>?_⟩
  ·have h':eF pre y≠0:=by simpa using h
   have e:bD pre (y::rest)=eF pre y:=by rw[qh,if_pos h']
   rw[e]at h2;exact h2 h' ..
  ·have h':eF pre y=0:=by simpa using h
   have e:bD pre (y::rest)=bD (pre++[y]) rest:=by rw[qh,h'];simp
   rw[e]at h1 h2;refine hR _ (bb ?_ (ih (pre++[y]) (by simp) h1 h2));rw[aX (by simp at hlen;omega)];simp only[List.length_append,ag,ai]
   repeat' constructor
theorem nK(its:List It)(σ:ah):PC prog 199 [.sl 3 (its.map It.cells)] σ (fun r σ'=>r=.i .i64 (bC its)∧σ'=σ):=by
 refine PC.intro func199 Z0 fun aU da=>al ?_;have hlen:=kS (da 0 _ rfl).1;rw[ae]at hlen;simp only[Va,SS,seval];simp only[ae,VV,seval];refine br (by simp only[VV,seval]<;>rfl) (fun _=>DP its _) rfl ?_;simp only[ae,VV,seval];refine⟨fun h=>?_,fun h=>?_⟩
 ·refine aP (.inr rfl) (by simp only[RS,seval];rfl) ⟨?_,rfl⟩;simp at h;have:512<its.length∨1024<dS 0 its:=by omega
  simp only[Pm.one,bC,this,if_true,ar,aC]
 ·simp at h;have hn:¬ (512<its.length∨1024<dS 0 its):=by omega
  refine bX.bb ?_ (its.length+1) (OT its aU hlen its [] rfl (fun h1=>?_) (fun h1=>?_))
  ·simp only[VV,seval]
   repeat' constructor
  ·intros;simp only[VV,seval];exact aP (.inr rfl) (by simp only[RS,seval];rfl) ⟨by simp only[Pm.one,bC,hn,h1,if_false,ar,aC],rfl⟩
  ·intros;simp only[VV,seval];exact aP (.inr rfl) (by simp only[RS,seval];rfl) ⟨by simp only[Pm.one,bC,hn,if_false,ar,aC],rfl⟩
theorem OR{σ:ah}{K:Exit→St→Prop}(k d:Int)(s:List UInt8)(hlen:s.length<2^40):∀ (rest pre t:List UInt8),s=pre++rest→t.length≤4*pre.length →
  ((∀ j0 j1 j2 j4 j5 j6 j7 j8 j9 cC cH cG cF cB cE cD cI cQ db de dh dm dv du dt dN dR dU dX ej eD eL eQ eP fb fi fh fg fw fG fF fK fW gj gi gB gA gz gy gx gY gW gU iq iD iN iM iL iK jf,K (.exit 1) ⟨[j0,j1,j2,.s (t++rest.flatMap dC),j4,j5,j6,j7,j8,j9,cC,cH,cG,cF,cB,cE,cD,cI,cQ,db,de,dh,dm,dv,du,dt,dN,dR,dU,dX,ej,eD,eL,eQ,eP,fb,fi,fh,fg,fw,fG,fF,fK,fW,gj,gi,gB,gA,gz,gy,gx,gY,gW,gU,iq,iD,iN,iM,iL,iK,jf],σ++[.box 31 [.i .i64 k,.s s,.i .i64 d]]⟩)) →
  fp σ.length prog BE K (rest.length+1) ⟨[u,.ptr σ.length 0,u,.s t,.i .i64 pre.length,u,u,u,u,u,u,u,u,u,u,u,u,u,u,u,u,u,u,u,u,u,u,u,u,u,u,u,u,u,u,u,u,u,u,u,u,u,u,u,u,u,u,u,u,u,u,u,u,u,u,u,u,u,u,u,u],σ++[.box 31 [.i .i64 k,.s s,.i .i64 d]]⟩:=by
 intro rest
 induction rest with
 | nil =>
  intro pre t he ht h1;have he:s=pre:=by simpa using he
  subst he;rw[iU,bt]at h1;refine ay fun R hR=>?_;simp only[BE,VV,seval];exact⟨fun h=>by simp at h,fun _=>h1 ..⟩
 | cons c rest ih =>
  intro pre t he ht h1;subst he;rw[eV,← List.append_assoc]at h1;have hl:pre.length+rest.length+1<2^40:=by simp at hlen;omega
  have hw:=zQ c;refine ay fun R hR=>?_;simp only[BE,VV,seval];refine⟨fun _=>⟨by simp;omega,?_⟩,fun h=>by simp at h<;>omega⟩;refine an (sK c _) rfl ?_;simp only[VV,seval];refine⟨by simp only[maxLen];omega,?_⟩;refine hR _ (bb ?_ (ih (pre++[c]) (t++dC c) (by simp) (by simp;omega) h1));rw[aX (by omega)];simp only[List.length_append,ag,ai]
  repeat' constructor
theorem Bm(x:It)(hk:1≤x.kind∧x.kind≤5)(hid:0≤x.id∧x.id<2^62)(hlen:x.text.length<2^40)(σ:ah):PC prog 203 [.agg x.cells] σ (fun r σ'=>r=.s (bT x)∧σ'=σ):=by
 refine PC.intro func203 ZW fun aU da=>al ?_;obtain⟨k,t,d⟩:=x;simp only at hk hid hlen;obtain⟨n,rfl⟩:∃ n:Nat,d=n:=⟨d.toNat,by omega⟩;have hi:=Lib.itoa_length_le (n:Int) (by omega) (by omega);have S5:=Bp n (by omega) (σ++[.box 31 [.i .i64 k,.s t,.i .i64 n]]);simp only[U6,SS,seval]
 by_cases k1:k=1
 ·subst k1;simp only[It.cells,VV,seval];refine bX.bb ?_ (t.length+1) (OR 1 n t hlen t [] [] rfl (aw _) ?_)
  ·simp only[ai,fZ]
   repeat' constructor
  ·intros;simp only[aG,VV,seval];exact aD aU (.inr rfl) (by simp only[RS,seval];rfl) (by simp only[LW]) ⟨by simp[Pm.one,bT],rfl⟩
 by_cases k2:k=2
 ·subst k2;simp only[It.cells,VV,seval];refine an S5 rfl ?_;simp only[VV,seval];refine⟨by simp only[maxLen];omega,by simp only[maxLen];omega,by simp only[maxLen,List.length_append,ag,ai];omega,by simp only[maxLen,List.length_append,ag,ai];omega,?_⟩;exact aD aU (.inr rfl) (by simp only[RS,seval];rfl) (by simp only[LW]) ⟨by simp[Pm.one,bT],rfl⟩
 by_cases k3:k=3
 ·subst k3;simp only[It.cells,VV,seval];refine an S5 rfl ?_;simp only[VV,seval];refine⟨by simp only[maxLen];omega,by simp only[maxLen];omega,by simp only[maxLen,List.length_append,ag,ai];omega,by simp only[maxLen,List.length_append,ag,ai];omega,?_⟩;exact aD aU (.inr rfl) (by simp only[RS,seval];rfl) (by simp only[LW]) ⟨by simp[Pm.one,bT],rfl⟩
 by_cases k4:k=4
 ·subst k4;simp only[It.cells,VV,seval];refine an S5 rfl ?_;simp only[VV,seval];refine⟨by simp only[maxLen];omega,by simp only[maxLen];omega,by simp only[maxLen,List.length_append,ag,ai];omega,by simp only[maxLen,List.length_append,ag,ai];omega,?_⟩;exact aD aU (.inr rfl) (by simp only[RS,seval];rfl) (by simp only[LW]) ⟨by simp[Pm.one,bT],rfl⟩
 have k5:k=5:=by omega
 subst k5;simp only[It.cells,VV,seval];refine⟨by simp only[maxLen];omega,by simp only[maxLen];omega,?_⟩;exact aD aU (.inr rfl) (by simp only[RS,seval];rfl) (by simp only[LW]) ⟨by simp[Pm.one,bT],rfl⟩
theorem OW{σ:ah}{K:Exit→St→Prop}(f:List It)(hf:f.length≤512)(hx:∀ x∈f,(1≤x.kind∧x.kind≤5)∧(0≤x.id∧x.id<2^62)∧x.text.length≤2^30∧(bT x).length<2^33):∀ (rest pre:List It) (s:List UInt8),f=pre++rest→s.length≤2^33*pre.length →
  ((∀ j0 j1 j2 j3 j4 j6 j7 j8 j9 cC cH cG cF cB cE cD cI cQ db de dh dm dv du dt,K (.exit 0) ⟨[j0,j1,j2,j3,j4,.s (s++rest.flatMap bT),j6,j7,j8,j9,cC,cH,cG,cF,cB,cE,cD,cI,cQ,db,de,dh,dm,dv,du,dt],σ⟩)) →
  fp σ.length prog BJ K (rest.length+1) ⟨[.sl 3 (f.map It.cells),u,u,u,u,.s s,u,u,u,u,u,u,u,.i .i64 f.length,.i .i64 pre.length,u,u,u,u,u,u,u,u,u,u,u],σ⟩:=by
 intro rest
 induction rest with
 | nil =>
  intro pre s he hs h1;have he:f=pre:=by simpa using he
  subst he;rw[iU,bt]at h1;refine ay fun R hR=>?_;simp only[BJ,VV,seval];exact⟨fun h=>by simp at h,fun _=>h1 ..⟩
 | cons x rest ih =>
  intro pre s he hs h1;subst he;rw[eV,← List.append_assoc]at h1;obtain⟨hk,hid,ht,hi⟩:=hx x (by simp);have hl:pre.length+rest.length+1≤512:=by simp at hf;omega
  refine ay fun R hR=>?_;simp only[BJ,It.cells,VV,seval];refine⟨fun _=>⟨by simp;omega,?_⟩,fun h=>by simp at h<;>omega⟩;refine an (Bm x hk hid (by omega) _) rfl ?_;simp only[VV,seval];refine⟨by simp only[maxLen];omega,?_⟩;refine hR _ (bb ?_ (ih (pre++[x]) (s++bT x) (by simp) (by simp;omega) h1));rw[aX (by omega)];simp only[List.length_append,ag,ai]
  repeat' constructor
theorem Dr{f:List It}(ht:bp f<2^30)(h:bC f=0):f.length≤512∧∀ x∈f,(1≤x.kind∧x.kind≤5)∧(0≤x.id∧x.id<2^62)∧x.text.length≤2^30∧(bT x).length<2^33:=by
 have hk:=pg h;simp only[bC]at h;split at h
 ·simp at h
 ·rename_i h1;refine⟨by omega,fun x hx=>?_⟩;have nA:=lz f [] h x hx
  have htx:∀ f:List It,x∈f→x.text.length≤bp f:=by
   intro f
   induction f with
   | nil=>simp
   | cons y f ih =>
    intro hm;simp only[bp];rcases aY.1 hm with rfl | hm
    ·omega
    ·have:=ih hm;omega
  have hl:=htx f hx
  have hid:0≤x.id∧x.id<2^62:=by
   simp only[bh]at nA;split at nA
   ·simp at nA;omega
   ·split at nA
    ·simp at nA;omega
    ·split at nA
     ·simp at nA;omega
     ·split at nA
      ·simp at nA;omega
      ·simp at nA
  have hi:=l8 x (by omega);exact⟨hk x hx,hid,by omega,by omega⟩
theorem vf(f:List It)(ht:bp f<2^30)(σ:ah):PC prog 182 [.sl 3 (f.map It.cells)] σ (fun r σ'=>r=.gZ [.s (format f).1,.i .i64 (format f).2]∧σ'=σ):=by
 refine PC.intro func182 aaa fun aU da=>al ?_;simp only[Vk,SS,seval];simp only[VV,seval];refine an (nK f _) rfl ?_;simp only[ae,VV,seval];refine⟨fun h=>?_,fun h=>?_⟩
 ·have h:bC f≠0:=by simpa using h
  refine aP (.inr rfl) (by simp only[RS,seval];rfl) ⟨?_,rfl⟩;simp only[format,if_pos h];rfl
 ·have h:bC f=0:=by simpa using h
  obtain⟨v1,v2⟩:=Dr ht h;refine bX.bb ?_ (f.length+1) (OW f v1 v2 f [] [] rfl (gF _) ?_)
  ·simp only[ai,fZ]
   repeat' constructor
  ·intros;simp only[aG,VV,seval];refine aP (.inr rfl) (by simp only[RS,seval];rfl) ⟨?_,rfl⟩;simp[format,h,Pm.one]
theorem pS(f:List It)(hf:f.length<2^30)(ht:bp f<2^30)(hid:∀ x∈f,-9223372036854775808≤x.id∧x.id≤9223372036854775807)(σ:ah):PC prog 205 [.sl 3 (f.map It.cells)] σ (fun r σ'=>r=.sl 1 (aQ (cY (format f).1))∧σ'=σ):=by
 refine PC.intro func205 ZU fun aU da=>al ?_;have hl:=kf f hf ht hid;simp only[U4,SS,seval];simp only[VV,seval];refine an (vf f ht _) rfl ?_;simp only[VV,seval];refine an (mC (format f).1 (by omega) _) rfl ?_;simp only[VV,seval];exact aP (.inr rfl) (by simp only[RS,seval];rfl) ⟨rfl,rfl⟩
theorem ON{σ:ah}{K:Exit→St→Prop}(its:List It)(aU:bG σ)(hlen:its.length<2^40):∀ (rest pre:List It) (acc:List Int) (g:Nat),its=pre++rest→acc.length≤pre.length →
  (∀ g,(∀ j0 j1 j2 j4 j5 j6 j7 j8 j9 cC cH cG cF cB cE cD cI cQ db de dh dm dv du dt dN dR dU dX ej eD eL eQ eP,K (.exit 0) ⟨[j0,j1,j2,.own σ.length g,j4,j5,j6,j7,j8,j9,cC,cH,cG,cF,cB,cE,cD,cI,cQ,db,de,dh,dm,dv,du,dt,dN,dR,dU,dX,ej,eD,eL,eQ,eP],σ++[.row 3 1 8 g true ((ca acc rest).map bW)]⟩)) →
  fp σ.length prog BB K (rest.length+1) ⟨[.sl 3 (its.map It.cells),u,u,.own σ.length g,u,u,.i .i64 its.length,.i .i64 pre.length,u,u,u,u,u,u,u,u,u,u,u,u,u,u,u,u,u,u,u,u,u,u,u,u,u,u,u],σ++[.row 3 1 8 g true (acc.map bW)]⟩:=by
 intro rest
 induction rest with
 | nil =>
  intro pre acc g he ha h1;have he:its=pre:=by simpa using he
  subst he;refine ay fun R hR=>?_;simp only[BB,VV,seval];exact⟨fun h=>by simp at h,fun _=>h1 g ..⟩
 | cons y rest ih =>
  intro pre acc g he ha h1;subst he
  have hw:IntKind.i64.wrap ((pre.length:Int)+1)=(((pre++[y]).length:Nat):Int):=by
   rw[aX (by simp at hlen;omega)];simp
  refine ay fun R hR=>?_;simp only[BB,It.cells,VV,seval];refine⟨fun _=>⟨by simp;omega,?_⟩,fun h=>by simp at h<;>omega⟩;refine an (rQ y _) rfl ?_;have bnd:(0:Int)≤pre.length∧(pre.length:Int)<(List.map It.cells (pre++y::rest)).length:=by simp;omega
  cases ht:cX y with
  | false =>
   have e:ca acc (y::rest)=ca acc rest:=by simp[ca,ht]
   rw[e]at h1;simp only[It.cells,VV,seval];refine⟨fun h=>by simp at h,.i .i64 0,fun h=>by simp at h,?_⟩;refine br (c:=false) (v:=.b false) (by rfl) (fun h=>by simp at h) rfl ?_;simp only[VV,seval];refine hR _ (bb ?_ (ih (pre++[y]) acc g (by simp) (by simp;omega) h1));rw[hw];repeat' constructor
  | true =>
   simp only[It.cells,VV,seval];refine⟨bnd,.i .i64 y.id,rfl,?_⟩;refine br (c:=true) (by rfl) (fun _=>PC.fzs σ.length (by simp only[fQ];rfl) (Lg acc y.id _) (by simp only[aW,aZ,ev,aC,ar,fz,kF,and_self,if_true])) rfl ?_;simp only[It.cells,VV,seval];refine⟨fun h=>?_,fun h=>?_⟩
   ·have h:acc.contains y.id=false:=by rw[bU]at h;exact h
    have e:ca acc (y::rest)=ca (acc++[y.id]) rest:=by simp only[ca,ht,h,jd,Bool.and_self,if_true]
    rw[e]at h1;have hr:acc.map bW++[[V.i .i64 y.id]]=(acc++[y.id]).map bW:=by simp[bW]
    rw[hr];refine⟨bnd,⟨by simp at hlen ⊢;omega,by simp at hlen ⊢;simp only[maxLen];omega⟩,?_⟩;refine hR _ (bb ?_ (ih (pre++[y]) (acc++[y.id]) (g+1) (by simp) (by simp;omega) h1));rw[hw];repeat' constructor
   ·have h:acc.contains y.id=true:=by rw[cL]at h;exact h
    have e:ca acc (y::rest)=ca acc rest:=by simp only[ca,ht,h,fH,bZ];rfl
    rw[e]at h1;refine hR _ (bb ?_ (ih (pre++[y]) acc g (by simp) (by simp;omega) h1));rw[hw];repeat' constructor
theorem Bn(its:List It)(hlen:its.length<2^40)(σ:ah):PC prog 224 [.sl 3 (its.map It.cells)] σ (fun r σ'=>r=.sl 1 ((numbers its).map bW)∧σ'=σ):=by
 refine PC.intro func224 ZN fun aU da=>al ?_;simp only[UX,SS,seval];simp only[ae,VV,seval];refine bX.wk ((Wk.iZ (k:=3) tI rfl).trans (Wk.Rw.trans (Wk.ic ?_))) (bX.ml (its.length+1) (ON its aU hlen its [] [] 0 rfl (aw _) ?_))
 ·simp only[VV,seval]
  repeat' constructor
 ·intro g;intros;simp only[VV,seval];refine iy 0 aU (.inr rfl) rfl rfl ?_ ?_
  ·simp[fz,kF,gh,qc]
  ·simp[fz,kF,Pm.one,numbers]
theorem QD:Ti prog 31 3 32:=kY (by kernel_rfl)
theorem OH{σ:ah}{K:Exit→St→Prop}(its:List It)(aU:bG σ)(hlen:its.length<2^40)(WB:bp its<2^40):∀ (rest pre out:List It) (g:Nat),its=pre++rest→out.length≤pre.length→bp out≤bp pre →
  (∀ g,(∀ j0 j1 j2 j4 j5 j6 j7 j8 j9 cC cH cG cF cB cE cD cI cQ db de dh dm dv du dt dN dR dU dX ej eD eL eQ eP fb fi fh fg fw fG fF fK fW gj gi gB gA gz gy gx gY gW gU iq iD iN iM iL iK jf,K (.exit 0) ⟨[j0,j1,j2,.own σ.length g,j4,j5,j6,j7,j8,j9,cC,cH,cG,cF,cB,cE,cD,cI,cQ,db,de,dh,dm,dv,du,dt,dN,dR,dU,dX,ej,eD,eL,eQ,eP,fb,fi,fh,fg,fw,fG,fF,fK,fW,gj,gi,gB,gA,gz,gy,gx,gY,gW,gU,iq,iD,iN,iM,iL,iK,jf],σ++[.row 31 3 32 g false ((rest.foldl ck out).map It.cells)]⟩)) →
  fp σ.length prog xe K (rest.length+1) ⟨[.sl 3 (its.map It.cells),u,u,.own σ.length g,u,u,u,u,.i .i64 its.length,.i .i64 pre.length,u,u,u,u,u,u,u,u,u,u,u,u,u,u,u,u,u,u,u,u,u,u,u,u,u,u,u,u,u,u,u,u,u,u,u,u,u,u,u,u,u,u,u,u,u,u,u,u,u,u,u],σ++[.row 31 3 32 g false (out.map It.cells)]⟩:=by
 intro rest
 induction rest with
 | nil =>
  intro pre out g he ho ht h1;have he:its=pre:=by simpa using he
  subst he;refine ay fun R hR=>?_;simp only[xe,VV,seval];exact⟨fun h=>by simp at h,fun _=>h1 g ..⟩
 | cons x rest ih =>
  intro pre out g he ho ht h1;subst he
  have next:∀ (out':List It) (g':Nat) {loc:ah},ck out x=out'→∀ {R:St→Prop} {fr:List V},(∀ st',fp σ.length prog xe K (rest.length+1) st'→R st') →
    nP fr [.sl 3 ((pre++x::rest).map It.cells),u,u,.own σ.length g',u,u,u,u,.i .i64 (pre++x::rest).length,.i .i64 (IntKind.i64.wrap ((pre.length:Int)+1)),u,u,u,u,u,u,u,u,u,u,u,u,u,u,u,u,u,u,u,u,u,u,u,u,u,u,u,u,u,u,u,u,u,u,u,u,u,u,u,u,u,u,u,u,u,u,u,u,u,u,u]→R ⟨fr,σ++(.row 31 3 32 g' false (out'.map It.cells)::loc)⟩:=by
   intro out' g' loc hw R fr hR hc
   have e1:IntKind.i64.wrap ((pre.length:Int)+1)=(((pre++[x]).length:Nat):Int):=by
    rw[aX (by simp at hlen;omega)];simp
   rw[e1]at hc;have hb:=pX out x;rw[hw]at hb;have e2:(x::rest).foldl ck out=rest.foldl ck out':=by rw[cj,hw]
   rw[e2]at h1;refine hR _ (cy [_] loc (b9 aU (by simp)) hc ?_ (ih (pre++[x]) out' g' (by simp) (by simp;omega) (by simp only[fu,bp];omega) h1));simp only[LW,ag,ai,aI];omega
  have okA:(out.length+1)*32≤2^47∧out.length+1≤maxLen:=by simp at hlen;simp[maxLen];omega
  refine ay fun R hR=>?_;simp only[xe,It.cells,VV,seval];refine⟨fun _=>⟨by simp;omega,fun hk=>?_,fun hk=>⟨fun Pt=>?_,fun Pt=>?_⟩⟩,fun h=>by simp at h<;>omega⟩
  ·have hk:x.kind≠1:=by simpa using hk
   have cm:out.map It.cells++[[.i .i64 x.kind,.s x.text,.i .i64 x.id]]=(out++[x]).map It.cells:=by simp[It.cells]
   refine⟨by rw[ae];exact okA,?_⟩;rw[cm];refine next (out++[x]) (g+1) (by simp[ck,hk]) hR ?_
   simp only[It.cells]
   repeat' constructor
  ·have hk:x.kind=1:=by simpa using hk
   have Pt:x.text=[]:=by simpa using Pt
   refine next out g (by simp[ck,hk,Pt]) hR ?_
   simp only[It.cells]
   repeat' constructor
  have hk:x.kind=1:=by simpa using hk
  have Pt:x.text≠[]:=by simpa using Pt
  rcases kO out with Gt | ⟨out',y,WS⟩
  ·subst Gt;have e0:decide ((0:Int)<(([]:List (List V)).length:Int))=false:=rfl;simp only[aZ,e0];refine⟨fun h=>by simp at h,.i .i64 0,fun h=>by simp at h,?_⟩;simp only[VV,seval];refine⟨by decide,next [⟨1,x.text,0⟩] (g+1) (by simp[ck,hk,Pt]) hR ?_⟩;simp only[It.cells]
   repeat' constructor
  ·rw[kP]at WS;subst WS
   have hp:IntKind.i64.wrap (((out'++[y]).length:Int) - 1)=out'.length:=by
    have:(out'++[y]).length<2^63:=by simp at ho hlen ⊢;omega
    rw[IntWalk.i64_in _ (by simp at this ⊢;omega)];simp
   have er:ft (List.map It.cells (out'++[y])) out'.length 0=some (.i .i64 y.kind):=by
    rw[o6];rfl
   have e0:decide ((0:Int)<((List.map It.cells (out'++[y])).length:Int))=true:=by simp
   simp only[e0,ae,hp,aH,er];refine⟨fun _=>by simp;omega,.i .i64 y.kind,fun _=>⟨True,rfl,trivial⟩,?_⟩;have e3:decide ((0:Int)<((out'++[y]).length:Int))=true:=by simp
   have v7:ft (List.map It.cells (out'++[y])) out'.length 1=some (.s y.text):=by
    rw[o6];rfl
   simp only[e3,hp,aH,v7,ae,VV,seval];have hb:(0:Int)≤(out'.length:Int)∧(out'.length:Int)<((out'++[y]).length:Int):=⟨by omega,by rw[List.length_append,List.length_singleton];omega⟩;refine⟨fun hy=>⟨hb,?_,hb,by omega,?_⟩,fun hy=>⟨okA,?_⟩⟩
   ·simp only[fu,bp]at ht WB;simp only[maxLen];omega
   ·have hy:y.kind=1:=by simpa using hy
    have cm:(List.map It.cells (out'++[y])).set out'.length (.i .i64 1::.s (y.text++x.text)::.i .i64 0::List.drop 3 y.cells)=(out'++[(⟨1,y.text++x.text,0⟩:It)]).map It.cells:=by
     simp[List.set_append,It.cells]
    rw[cm];refine next (out'++[⟨1,y.text++x.text,0⟩]) g (by simp[ck,hk,Pt,hy]) hR ?_
    simp only[It.cells]
    repeat' constructor
   ·have hy:¬ y.kind=1:=by simpa using hy
    have cm:List.map It.cells (out'++[y])++[[.i .i64 1,.s x.text,.i .i64 0]]=(out'++[y]++[(⟨1,x.text,0⟩:It)]).map It.cells:=by simp[It.cells]
    rw[cm];refine next (out'++[y]++[⟨1,x.text,0⟩]) (g+1) (by simp[ck,hk,Pt,hy]) hR ?_
    simp only[It.cells]
    repeat' constructor
theorem pR(its:List It)(hlen:its.length<2^40)(ht:bp its<2^40)(σ:ah):PC prog 245 [.sl 3 (its.map It.cells)] σ (fun r σ'=>r=.sl 3 ((normalize its).map It.cells)∧σ'=σ):=by
 refine PC.intro func245 ZB fun aU da=>al ?_;simp only[UK,SS,seval];simp only[ae,VV,seval];refine bX.wk ((Wk.iZ (k:=3) QD rfl).trans (Wk.ic ?_)) (bX.ml (its.length+1) (OH its aU hlen ht its [] [] 0 rfl (aw _) (aw _) ?_))
 ·simp only[VV,seval]
  repeat' constructor
 ·intro g;intros;simp only[VV,seval];refine iy 0 aU (.inr rfl) rfl rfl ?_ ?_
  ·simp[fz,kF,gh,qc]
  ·have e:its.foldl ck []=normalize its:=nq its;simp[fz,kF,Pm.one,e]
theorem vg(a b:List It)(ha:a.length<2^39)(hb:b.length<2^39)(er:bp a<2^39)(hbt:bp b<2^39)(σ:ah):PC prog 228 [.sl 3 (a.map It.cells),.sl 3 (b.map It.cells)] σ (fun r σ'=>r=.sl 3 ((normalize (a++b)).map It.cells)∧σ'=σ):=by
 refine PC.intro func228 ZJ fun aU da=>al ?_;simp only[US,SS,seval];simp only[ae,VV,seval];refine⟨by simp[maxLen];omega,by simp[maxLen];omega,?_⟩;refine o0 σ.length (by simp only[fQ];rfl) (pR (a++b) (by simp;omega) (by rw[fu];omega) _) (by simp[fz,kF,ev]) ?_;simp only[VV,seval];exact aD aU (.inr rfl) (by simp only[RS,seval];rfl) (by simp only[LW]) ⟨rfl,rfl⟩
def Lh(out:List It)(x:It)(o:Option Int):List It:=match o with
 | some b=>out++[⟨x.kind,x.text,b⟩]
 | none=>out
theorem Jt{σ:ah}{K:Exit→St→Prop}(F L I:V)(fr to:List Int)(out:List It)(x:It)(g:Nat)(PA:fr.length<2^62)(okA:(out.length+1)*32≤2^47∧out.length+1≤maxLen):
  ∀ (m k:Nat),k+m=min fr.length to.length →
  (∀ g,(∀ j3 j4 j5 j6 j8 j9 cC cH cB cE cD cI cQ db de dh dm dv du dt dN dR dU dX ej eD eL eQ eP fb fi fh fg fw fG fF fK fW gj gi gB gA gz gy gx gY gW gU iq iD iN iM iL iK jf,K (.exit 2) ⟨[F,.sl 1 (fr.map bW),.sl 1 (to.map bW),j3,j4,j5,j6,.own σ.length g,j8,j9,cC,cH,L,I,cB,cE,cD,cI,cQ,db,de,dh,dm,dv,du,dt,dN,dR,dU,dX,ej,eD,eL,eQ,eP,fb,fi,fh,fg,fw,fG,fF,fK,fW,gj,gi,gB,gA,gz,gy,gx,gY,gW,gU,iq,iD,iN,iM,iL,iK,jf],σ++[.row 31 3 32 g false ((Lh out x (DA (fr.drop k) (to.drop k) x.id)).map It.cells),.box 31 x.cells]⟩)) →
  fp σ.length prog Bz K (m+1) ⟨[F,.sl 1 (fr.map bW),.sl 1 (to.map bW),u,u,u,u,.own σ.length g,u,.ptr (σ.length+1) 0,.i .i64 k,u,L,I,u,u,u,u,u,u,u,u,u,u,u,u,u,u,u,u,u,u,u,u,u,u,u,u,u,u,u,u,u,u,u,u,u,u,u,u,u,u,u,u,u,u,u,u,u,u,u],σ++[.row 31 3 32 g false (out.map It.cells),.box 31 x.cells]⟩:=by
 intro m
 induction m with
 | zero =>
  intro k hk h1;rw[G9 (by omega)]at h1
  have eC:((decide ((k:Int)<(fr.length:Int)))&&decide ((k:Int)<(to.length:Int)))=false:=by
   rw[Bool.and_eq_false_iff];simp;omega
  refine ay fun R hR=>?_;simp only[Bz,ae,eC,VV,seval];exact h1 g ..
 | succ m ih =>
  intro k hk h1;have k1:k<fr.length:=by omega
  have k2:k<to.length:=by omega
  rw[Dz k1 k2]at h1;have e1:decide ((k:Int)<(fr.length:Int))=true:=by simp;omega
  have e2:decide ((k:Int)<(to.length:Int))=true:=by simp;omega
  have hw:IntKind.i64.wrap ((k:Int)+1)=((k+1:Nat):Int):=by rw[IntWalk.i64_in _ (by omega)];omega
  refine ay fun R hR=>?_;simp only[Bz,It.cells,ae,e1,e2,hw,aH,oD k1,oD k2,VV,seval];have Xi:(0:Int)≤(k:Int)∧(k:Int)<(fr.length:Int):=by omega
  have oE:(0:Int)≤(k:Int)∧(k:Int)<(to.length:Int):=by omega
  refine⟨Xi,fun h=>⟨oE,okA,?_⟩,fun h=>?_⟩
  ·have h:x.id=fr.getD k 0:=by rw[beq_iff_eq]at h;exact h.symm
   rw[if_pos h]at h1;have cm:out.map It.cells++[[.i .i64 x.kind,.s x.text,.i .i64 (to.getD k 0)]]=(Lh out x (some (to.getD k 0))).map It.cells:=by simp[Lh,It.cells]
   rw[cm];exact h1 (g+1) ..
  ·have h:¬ x.id=fr.getD k 0:=by rw[beq_eq_false_iff_ne]at h;exact fun e=>h e.symm
   rw[if_neg h]at h1;refine hR _ (bb ?_ (ih (k+1) (by omega) h1))
   repeat' constructor
theorem Js{σ:ah}{K:Exit→St→Prop}(its:List It)(fr to:List Int)(aU:bG σ)(hlen:its.length<2^40)(PA:fr.length<2^62):∀ (rest pre out:List It) (g:Nat),its=pre++rest→out.length≤pre.length →
  (∀ g,(∀ j0 j1 j2 j3 j4 j5 j6 j8 j9 cC cH cG cF cB cE cD cI cQ db de dh dm dv du dt dN dR dU dX ej eD eL eQ eP fb fi fh fg fw fG fF fK fW gj gi gB gA gz gy gx gY gW gU iq iD iN iM iL iK jf,K (.exit 0) ⟨[j0,j1,j2,j3,j4,j5,j6,.own σ.length g,j8,j9,cC,cH,cG,cF,cB,cE,cD,cI,cQ,db,de,dh,dm,dv,du,dt,dN,dR,dU,dX,ej,eD,eL,eQ,eP,fb,fi,fh,fg,fw,fG,fF,fK,fW,gj,gi,gB,gA,gz,gy,gx,gY,gW,gU,iq,iD,iN,iM,iL,iK,jf],σ++[.row 31 3 32 g false ((out++renamed rest fr to).map It.cells)]⟩)) →
  fp σ.length prog xh K (rest.length+1) ⟨[.sl 3 (its.map It.cells),.sl 1 (fr.map bW),.sl 1 (to.map bW),u,u,u,u,.own σ.length g,u,u,u,u,.i .i64 its.length,.i .i64 pre.length,u,u,u,u,u,u,u,u,u,u,u,u,u,u,u,u,u,u,u,u,u,u,u,u,u,u,u,u,u,u,u,u,u,u,u,u,u,u,u,u,u,u,u,u,u,u,u],σ++[.row 31 3 32 g false (out.map It.cells)]⟩:=by
 intro rest
 induction rest with
 | nil =>
  intro pre out g he ho h1;have he:its=pre:=by simpa using he
  subst he;have e:out++renamed [] fr to=out:=by simp[renamed]
  rw[e]at h1;refine ay fun R hR=>?_;simp only[xh,VV,seval];exact⟨fun h=>by simp at h,fun _=>h1 g ..⟩
 | cons x rest ih =>
  intro pre out g he ho h1;subst he
  have next:∀ (out':List It) (g':Nat) {loc:ah},out++renamed (x::rest) fr to=out'++renamed rest fr to→out'.length≤out.length+1→∀ {R:St→Prop} {f0:List V},(∀ st',fp σ.length prog xh K (rest.length+1) st'→R st') →
    nP f0 [.sl 3 ((pre++x::rest).map It.cells),.sl 1 (fr.map bW),.sl 1 (to.map bW),u,u,u,u,.own σ.length g',u,u,u,u,.i .i64 (pre++x::rest).length,.i .i64 (IntKind.i64.wrap ((pre.length:Int)+1)),u,u,u,u,u,u,u,u,u,u,u,u,u,u,u,u,u,u,u,u,u,u,u,u,u,u,u,u,u,u,u,u,u,u,u,u,u,u,u,u,u,u,u,u,u,u,u]→R ⟨f0,σ++(.row 31 3 32 g' false (out'.map It.cells)::loc)⟩:=by
   intro out' g' loc hw hl R f0 hR hc
   have e1:IntKind.i64.wrap ((pre.length:Int)+1)=(((pre++[x]).length:Nat):Int):=by
    rw[aX (by simp at hlen;omega)];simp
   rw[e1]at hc;rw[hw]at h1;refine hR _ (cy [_] loc (b9 aU (by simp)) hc ?_ (ih (pre++[x]) out' g' (by simp) (by simp;omega) h1));simp only[LW,ag,ai,aI];omega
  have okA:(out.length+1)*32≤2^47∧out.length+1≤maxLen:=by simp at hlen;simp[maxLen];omega
  refine ay fun R hR=>?_;simp only[xh,It.cells,VV,seval];refine⟨fun _=>⟨by simp;omega,?_⟩,fun h=>by simp at h<;>omega⟩;refine an (rQ x _) rfl ?_;simp only[VV,seval];refine⟨fun ht=>?_,fun ht=>?_⟩
  ·have ht:cX x=false:=by rw[bU]at ht;exact ht
   have cm:out.map It.cells++[[.i .i64 x.kind,.s x.text,.i .i64 x.id]]=(out++[x]).map It.cells:=by simp[It.cells]
   refine⟨by rw[ae];exact okA,?_⟩;rw[cm];refine next (out++[x]) (g+1) (by simp[renamed,Kl,ht]) (by simp) hR ?_
   simp only[It.cells]
   repeat' constructor
  ·have ht:cX x=true:=by rw[cL]at ht;exact ht
   refine bX.bb ?_ (min fr.length to.length+1) (Jt (.sl 3 ((pre++x::rest).map It.cells)) (.i .i64 (pre++x::rest).length) (.i .i64 pre.length) fr to out x g PA okA (min fr.length to.length) 0 (by omega) ?_)
   ·simp only[It.cells,fZ]
    repeat' constructor
   intro g';intros;simp only[VV,seval];refine next _ g' ?_ ?_ hR ?_
   ·simp only[C7,renamed,jH,Kl,ht,if_true,Lh];cases DA fr to x.id<;>simp
   ·simp only[Lh];split<;>simp
   ·repeat' constructor
theorem vd(its:List It)(fr to:List Int)(hlen:its.length<2^40)(ht:bp its<2^40)(PA:fr.length<2^62)(σ:ah):PC prog 226 [.sl 3 (its.map It.cells),.sl 1 (fr.map bW),.sl 1 (to.map bW)] σ (fun r σ'=>r=.sl 3 ((rename its fr to).map It.cells)∧σ'=σ):=by
 refine PC.intro func226 ZL fun aU da=>al ?_;simp only[UU,SS,seval];simp only[ae,VV,seval];refine bX.wk ((Wk.iZ (k:=7) QD rfl).trans (Wk.ic ?_)) (bX.ml (its.length+1) (Js its fr to aU hlen PA its [] [] 0 rfl (aw _) ?_))
 ·simp only[VV,seval]
  repeat' constructor
 ·intro g;intros;simp only[aG,VV,seval];refine o0 σ.length (by simp only[fQ];rfl) (pR (renamed its fr to) (na (u7 _ _ _) hlen) (na (sF _ _ _) ht) _) (by simp[fz,kF,ev]) ?_;simp only[VV,seval];exact aD aU (.inr rfl) (by simp only[RS,seval];rfl) (by simp only[LW]) ⟨rfl,rfl⟩
theorem w8(s t:List It)(hs:s.length<2^38)(ht:t.length<2^38)(py:bp s<2^38)(htt:bp t<2^38)(σ:ah):PC prog 200 [.sl 3 (s.map It.cells),.sl 3 (t.map It.cells)] σ (fun r σ'=>r=.gZ [.sl 3 ((lj s t).map It.cells),.sl 3 ((nO s t).map It.cells)]∧σ'=σ):=by
 refine PC.intro func200 ZZ fun aU da=>al ?_;simp only[U9,SS,seval];simp only[ae,VV,seval];refine⟨by simp[maxLen];omega,by simp[maxLen];omega,?_⟩;refine o0 σ.length (by simp only[fQ];rfl) (Bn (s++t) (by simp;omega) _) (by simp[fz,kF,ev]) ?_;have hc:=pV (s++t);rw[pW,List.length_append]at hc;rw[pW];simp only[ae,VV,seval];refine an (I2 (cN s t).length (by omega) _) rfl ?_;simp only[VV,seval];refine an (vd s (cN s t) (dH (cN s t).length) (by omega) (by omega) (by omega) _) rfl ?_;simp only[VV,seval];refine an (vd t (cN s t) (dH (cN s t).length) (by omega) (by omega) (by omega) _) rfl ?_;simp only[VV,seval];exact aD aU (.inr rfl) (by simp only[RS,seval];rfl) (by simp only[LW]) ⟨rfl,rfl⟩
end Go.Proofs.Tryz

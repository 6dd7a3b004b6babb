/- A part of the proof that for every input the law NetworkLimits returns true and leaves its argument as it was. -/
import Derived.Test.YtgihcpilgfbggaaGreatDoorL9
set_option linter.all false

namespace Go.Pm
open Go Go.RowKit
theorem Eu{P:Program}{T:TypeId}{t:TypeInfo}{q:Bool}(h:gK P T=some q):(((if q then some t.size else none):Option Nat)=none∧gK P T=some false)∨(((if q then some t.size else none):Option Nat)=some t.size∧gK P T=some true):=by
 cases q
 ·exact .inl ⟨rfl,h⟩
 ·exact .inr ⟨rfl,h⟩
section
variable {P:Program} {o:Oper} {i:I} {a:Act} {B:Nat} {w0 w:World} {σ:ah} {μ:Mem} {fr:List V}
theorem CZ{w:World}{σ:ah}{μ:Mem}{fr:List V}{a:Act}(h:FR w σ μ fr a):∀ (xs:List Operand) (ys:List O),Q8 xs=some ys→ys.length=xs.length∧∀ (i:Nat) (y:V),(ys.map (ev fr))[i]?=some y→VR w σ μ y ((xs.map a.eval).getD i undef)
 | [],ys,hc=>by simp only[Q8,aa]at hc;subst hc;simp
 | x::xs,ys,hc=>by
  simp only[Q8]at hc;split at hc<;>simp only[aa,reduceCtorEq]at hc;rename_i y zs hy lK;subst hc;obtain⟨h1,h2⟩:=CZ h xs zs lK;refine⟨by simp[h1],fun i z hz=>?_⟩;cases i with
  | zero =>
   simp only[aW,ax,aa]at hz;subst hz;simpa using dK h hy
  | succ i=>simpa using h2 i z (by simpa using hz)
theorem Ul{f:Nat}{first caps:Array Operand}{ys:List O}(hF:FR w σ μ fr a)(ho:o.op=.makeFunc (.func f) first caps)(h0:first.size=0)(hy:Q8 caps.toList=some ys):Yields P o a w σ μ (.fn f (ys.map (ev fr))):=by
 obtain⟨h1,h2⟩:=CZ hF _ _ hy;have hf:first=#[]:=NK h0
 subst hf;refine .pure (v:=.func (.func f) #[] (caps.map a.eval)) ?_ (.fn f _ _ (by simp[h1]) fun i x hx=>?_)
 ·simp[execOp,ho,Instr.makeFunc]
 ·have:=h2 i x hx;simpa[List.getD_eq_getElem?_getD]using this
theorem DV(hc:compile P o=some i)(hF:FR w σ μ fr a)(hS:gM P B w0 w σ μ){ob:Prop}{y:V}(h:aS fr σ i=some (ob,y))(dO:ob):Yields P o a w σ μ y:=by
 cases fC:o.op with
 | move x =>
  simp only[compile,fC,ak]at hc;obtain⟨x',hx,rfl⟩:=hc;simp only[aS,aa,aA]at h;obtain⟨_,rfl⟩:=h;exact QB hF (.inl fC) hx
 | assign x =>
  simp only[compile,fC,ak]at hc;obtain⟨x',hx,rfl⟩:=hc;simp only[aS,aa,aA]at h;obtain⟨_,rfl⟩:=h;exact QB hF (.inr fC) hx
 | pick c x z =>
  simp only[compile,fC]at hc;split at hc<;>simp only[aa,reduceCtorEq]at hc;rename_i c' x' z' hc' hx hz;subst hc;simp only[aS]at h;split at h<;>simp only[aa,aA,reduceCtorEq]at h;rename_i p hp;obtain⟨_,rfl⟩:=h;exact Rh hF fC hc' hx hz hp
 | box T x =>
  simp only[compile,fC,ak]at hc;obtain⟨x',hx,rfl⟩:=hc;simp[aS]at h
 | alloc T =>
  simp only[compile,fC]at hc;split at hc<;>(try simp only[reduceCtorEq]at hc);split at hc<;>(try simp only[reduceCtorEq]at hc);simp only[ak]at hc;obtain⟨zs,_,rfl⟩:=hc;simp[aS]at h
 | build T parts =>
  simp only[compile,fC]at hc;split at hc<;>(try simp only[reduceCtorEq]at hc)
  ·rename_i t fs ht hu;split at hc<;>(try simp only[reduceCtorEq]at hc);rename_i z hz;split at hc<;>(try simp only[reduceCtorEq]at hc);rename_i zs places lK Fq;simp only[ak]at hc;obtain⟨ps,vx,rfl⟩:=hc;exact NV hF hS fC ht hu hz lK Fq vx h dO
  ·rename_i t n E ht hu;split at hc<;>(try simp only[reduceCtorEq]at hc);rename_i z te hz YL;split at hc<;>(try simp only[reduceCtorEq]at hc);rename_i zs lK;simp only[ak]at hc;obtain⟨ps,vx,rfl⟩:=hc;exact Ky hF hS fC ht hu hz YL lK vx h dO
 | buildSlice T len parts =>
  simp only[compile,fC]at hc;split at hc<;>(try simp only[reduceCtorEq]at hc);rename_i E hT;split at hc<;>(try simp only[reduceCtorEq]at hc);rename_i t ht;split at hc<;>(try simp only[reduceCtorEq]at hc);rename_i z hz;split at hc<;>(try simp only[reduceCtorEq]at hc);rename_i iP;simp only[ak]at hc;obtain⟨xs,vx,rfl⟩:=hc;split at h
  ·simp[aS]at h
  ·exact Kz hF hS fC hT ht hz iP.1 iP.2.1 iP.2.2.1 iP.2.2.2 vx h dO
 | load T x =>
  simp only[compile,fC]at hc;split at hc<;>simp only[aa,reduceCtorEq]at hc
  ·rename_i x' t hx hA ht;subst hc;exact Kx hF hS fC hx ht (.inr ⟨rfl,hA⟩) h dO
  ·rename_i x' t hx hA ht;subst hc;exact Kx hF hS fC hx ht (.inl ⟨rfl,hA⟩) h dO
 | store T x z =>
  simp only[compile,fC]at hc;split at hc<;>simp only[aa,reduceCtorEq]at hc;subst hc;simp[aS]at h
 | nilCheck x =>
  simp only[compile,fC,ak]at hc;obtain⟨x',hx,rfl⟩:=hc;exact NU hF hS fC hx h
 | binOp op T x z yT =>
  simp only[compile,fC]at hc;split at hc<;>(try simp only[reduceCtorEq]at hc);rename_i x' z' hx hz;split at hc
  ·rename_i hq;split at hc
   ·simp only[aa]at hc;subst hc;exact QC hF fC hx hz h dO
   ·split at hc
    ·rename_i hb;simp only[aa]at hc;subst hc
     have hT:P.underlying T=some .bool:=by
      unfold No at hb;split at hb
      ·assumption
      ·simp at hb
     exact Un hF fC hq hT hx hz h
    ·simp only[ak]at hc;obtain⟨ks,hk,rfl⟩:=hc;exact Um hF fC hq hk hx hz h
  ·simp only[aa]at hc;subst hc;exact QC hF fC hx hz h dO
 | unOp op T x =>
  simp only[compile,fC,ak]at hc;obtain⟨x',hx,rfl⟩:=hc;exact Yj hF fC hx h
 | convert s d x =>
  simp only[compile,fC]at hc;split at hc<;>(try simp only[reduceCtorEq,aa]at hc)
  ·rename_i k0 k x' hs hd hx;subst hc;simp only[aS]at h;split at h<;>simp only[aa,aA,reduceCtorEq]at h;rename_i k1 n hp;obtain⟨_,rfl⟩:=h;exact Uk hF fC hs hd hx hp
  ·rename_i e x' hs hd hx;split at hc<;>simp only[reduceCtorEq,aa]at hc;rename_i he;subst hc;exact Uo hF hS fC hs he hd hx h
 | slice T x lo hi mx =>
  cases mx with
  | some m=>simp[compile,fC]at hc
  | none =>
   simp only[compile,fC]at hc;split at hc<;>(try simp only[reduceCtorEq,aa]at hc)
   ·rename_i x' lo' hi' hT hx hl hh;subst hc;exact Kw hF hS fC hT hx hl hh h dO
   ·rename_i E x' lo' hi' hT hx hl hh;split at hc<;>simp only[reduceCtorEq,aa]at hc;rename_i t ht;subst hc;exact NT hF hS fC hT ht hx hl hh h dO
   ·rename_i n E x' hT hx hl hh;split at hc<;>(try simp only[reduceCtorEq]at hc);rename_i t ht;split at hc<;>simp only[reduceCtorEq,aa]at hc;rename_i iP;subst hc;have e1:lo=none:=by cases lo<;>simp[rq]at hl ⊢
    have e2:hi=none:=by cases hi<;>simp[rq]at hh ⊢
    subst e1;subst e2;exact Up hF hS fC hT ht iP.1 hx h dO
 | fieldAddr T x f =>
  simp only[compile,fC]at hc;split at hc<;>(try simp only[reduceCtorEq]at hc);rename_i fs x' hT hx;split at hc<;>(try simp only[reduceCtorEq]at hc);rename_i fd hf;split at hc<;>(try simp only[reduceCtorEq]at hc);rename_i t ht;split at hc<;>simp only[reduceCtorEq,aa]at hc;rename_i fq;subst hc;exact Ui hF (fun id o ho=>⟨B,hS.obj id o ho⟩) fC hx hT hf ht fq h
 | indexAddr T x k =>
  simp only[compile,fC]at hc;split at hc<;>(try simp only[reduceCtorEq]at hc)
  ·rename_i E x' k' hT hx hk;split at hc<;>simp only[reduceCtorEq,aa]at hc;rename_i t ht;subst hc;exact Uh hF hS fC hT ht hx hk h dO
  ·rename_i n E x' k' hT hx hk;split at hc<;>simp only[reduceCtorEq,aa]at hc;rename_i t ht;subst hc;exact Rm hF hS fC hT ht hx hk h dO
 | index T x k =>
  simp only[compile,fC]at hc;split at hc<;>simp only[reduceCtorEq,aa]at hc;rename_i x' k' hT hx hk;subst hc;exact Rg hF hS fC hT hx hk h dO
 | extract x k =>
  simp only[compile,fC,ak]at hc;obtain⟨x',hx,rfl⟩:=hc;simp only[aS]at h;split at h<;>(try simp only[reduceCtorEq]at h);rename_i xs hp;split at h<;>simp only[aa,aA,reduceCtorEq]at h;rename_i z hz;obtain⟨_,rfl⟩:=h;exact Uj hF fC hx hp hz
 | makeSlice T l c =>
  simp only[compile,fC]at hc;split at hc<;>(try simp only[reduceCtorEq]at hc);split at hc<;>(try simp only[reduceCtorEq]at hc);split at hc<;>(try simp only[reduceCtorEq]at hc);split at hc<;>(try simp only[reduceCtorEq]at hc);simp only[ak]at hc;obtain⟨zs,_,rfl⟩:=hc;simp[aS]at h
 | lookup T m k ok =>
  simp only[compile,fC]at hc;split at hc<;>(try simp only[reduceCtorEq]at hc);rename_i K E m' k' hT hm hk;split at hc<;>simp only[reduceCtorEq,aa]at hc;rename_i kd z uJ hz;subst hc;exact Rl hF hS fC hT hm hk uJ hz h dO
 | mapUpdate T m k x =>
  simp only[compile,fC]at hc;split at hc<;>(try simp only[reduceCtorEq]at hc);simp only[ak]at hc;obtain⟨kd,_,rfl⟩:=hc;simp[aS]at h
 | makeMap T r =>
  cases r with
  | some r=>simp[compile,fC]at hc
  | none =>
   simp only[compile,fC]at hc;split at hc<;>simp only[reduceCtorEq,aa]at hc;subst hc;simp[aS]at h
 | call c =>
  simp only[compile,fC]at hc;obtain⟨callee,args,argTypes⟩:=c;unfold km at hc;dsimp only at hc;split at hc
  ·rename_i x T e1 e2;have ea:args=#[x]:=by cases args;simp_all
   have et:argTypes=#[T]:=by cases argTypes;simp_all
   subst ea;subst et;split at hc<;>simp only[reduceCtorEq,aa]at hc
   ·rename_i x' hT hx;subst hc;exact Rf hF hS fC hT hx h
   ·rename_i E x' hT hx;subst hc;exact o9 hF hS fC hT hx h
   ·rename_i K E x' hT hx;subst hc;exact Ri hF hS fC hT hx h
  ·rename_i x z e1;have ea:args=#[x,z]:=by cases args;simp_all
   subst ea;split at hc<;>simp only[reduceCtorEq,aa]at hc;rename_i x' z' hx hz;subst hc;exact Rk hF hS fC hx hz h rfl
  ·rename_i x z e1;have ea:args=#[x,z]:=by cases args;simp_all
   subst ea;split at hc<;>simp only[reduceCtorEq,aa]at hc;rename_i x' z' hx hz;subst hc;exact Rj hF hS fC hx hz h
  ·split at hc<;>(try simp only[reduceCtorEq]at hc);split at hc<;>(try simp only[reduceCtorEq]at hc);split at hc<;>(try simp only[reduceCtorEq]at hc);split at hc
   ·split at hc<;>simp only[reduceCtorEq,aa]at hc;subst hc;simp[aS]at h
   ·split at hc<;>(try simp only[reduceCtorEq]at hc);split at hc<;>simp only[reduceCtorEq,aa]at hc;subst hc;simp[aS]at h
  ·split at hc<;>(try simp only[reduceCtorEq]at hc);split at hc<;>(try simp only[reduceCtorEq]at hc);split at hc<;>(try simp only[reduceCtorEq]at hc);split at hc<;>(try simp only[reduceCtorEq]at hc);simp only[ak]at hc;obtain⟨zs,_,rfl⟩:=hc;simp[aS]at h
  ·split at hc<;>(try simp only[reduceCtorEq]at hc);split at hc<;>(try simp only[reduceCtorEq]at hc);simp only[ak]at hc;obtain⟨zs,_,rfl⟩:=hc;simp[aS]at h
  ·simp only[ak]at hc;obtain⟨zs,_,rfl⟩:=hc;simp[aS]at h
  ·simp at hc
 | makeFunc fn first caps =>
  cases fn with
  | func f =>
   simp only[compile,fC]at hc;split at hc<;>simp only[ak,reduceCtorEq]at hc;rename_i h0;obtain⟨ys,wo,rfl⟩:=hc;simp only[aS,aa,aA]at h;obtain⟨_,rfl⟩:=h;exact Ul hF fC h0 wo
  | _=>simp[compile,fC]at hc
 | _=>simp[compile,fC]at hc
theorem Dg(hc:compile P o=some i)(hF:FR w σ μ fr a)(hS:gM P B w0 w σ μ){ob:Prop}{y:V}{σ':ah}(h:cd fr σ i=some (ob,y,σ'))(dO:ob):tz P o a B w0 w σ μ y σ':=by
 cases fC:o.op with
 | move x =>
  simp only[compile,fC,ak]at hc;obtain⟨x',hx,rfl⟩:=hc;simp[cd]at h
 | assign x =>
  simp only[compile,fC,ak]at hc;obtain⟨x',hx,rfl⟩:=hc;simp[cd]at h
 | pick c x z =>
  simp only[compile,fC]at hc;split at hc<;>simp only[aa,reduceCtorEq]at hc;subst hc;simp[cd]at h
 | box T x =>
  simp only[compile,fC,ak]at hc;obtain⟨x',hx,rfl⟩:=hc;exact Xy hF hS fC hx h dO
 | alloc T =>
  simp only[compile,fC]at hc;split at hc<;>(try simp only[reduceCtorEq]at hc);rename_i t ht;split at hc<;>(try simp only[reduceCtorEq]at hc);rename_i z hz;simp only[ak]at hc;obtain⟨zs,lK,rfl⟩:=hc;exact Ql hF hS fC ht hz lK h
 | build T parts =>
  simp only[compile,fC]at hc;split at hc<;>(try simp only[reduceCtorEq]at hc)
  all_goals
   split at hc<;>(try simp only[reduceCtorEq]at hc);split at hc<;>(try simp only[reduceCtorEq]at hc);simp only[ak]at hc;obtain⟨ps,vx,rfl⟩:=hc;simp[cd]at h
 | buildSlice T len parts =>
  simp only[compile,fC]at hc;split at hc<;>(try simp only[reduceCtorEq]at hc);rename_i E hT;split at hc<;>(try simp only[reduceCtorEq]at hc);rename_i t ht;split at hc<;>(try simp only[reduceCtorEq]at hc);rename_i z hz;split at hc<;>(try simp only[reduceCtorEq]at hc);rename_i iP;simp only[ak]at hc;obtain⟨xs,vx,rfl⟩:=hc;split at h
  ·exact TJ hF hS fC hT ht hz iP.1 iP.2.1 iP.2.2.1 iP.2.2.2 vx h dO
  ·simp[cd]at h
 | load T x =>
  simp only[compile,fC]at hc;split at hc<;>simp only[aa,reduceCtorEq]at hc<;>(subst hc;simp[cd]at h)
 | store T x z =>
  simp only[compile,fC]at hc;split at hc<;>simp only[aa,reduceCtorEq]at hc;rename_i x' z' t hx hz ht;subst hc;exact Qj hF hS fC ht hx hz h dO
 | nilCheck x =>
  simp only[compile,fC,ak]at hc;obtain⟨x',hx,rfl⟩:=hc;simp[cd]at h
 | binOp op T x z yT =>
  simp only[compile,fC]at hc;split at hc<;>(try simp only[reduceCtorEq]at hc);split at hc
  ·split at hc
   ·simp only[aa]at hc;subst hc;simp[cd]at h
   ·split at hc
    ·simp only[aa]at hc;subst hc;simp[cd]at h
    ·simp only[ak]at hc;obtain⟨ks,hk,rfl⟩:=hc;simp[cd]at h
  ·simp only[aa]at hc;subst hc;simp[cd]at h
 | unOp op T x =>
  simp only[compile,fC,ak]at hc;obtain⟨x',hx,rfl⟩:=hc;simp[cd]at h
 | convert s d x =>
  simp only[compile,fC]at hc;split at hc<;>(try simp only[reduceCtorEq,aa]at hc)
  ·subst hc;simp[cd]at h
  ·split at hc<;>simp only[reduceCtorEq,aa]at hc;subst hc;simp[cd]at h
 | slice T x lo hi mx =>
  cases mx with
  | some m=>simp[compile,fC]at hc
  | none =>
   simp only[compile,fC]at hc;split at hc<;>(try simp only[reduceCtorEq,aa]at hc)
   ·subst hc;simp[cd]at h
   ·split at hc<;>simp only[reduceCtorEq,aa]at hc;subst hc;simp[cd]at h
   ·split at hc<;>(try simp only[reduceCtorEq]at hc);split at hc<;>simp only[reduceCtorEq,aa]at hc;subst hc;simp[cd]at h
 | fieldAddr T x f =>
  simp only[compile,fC]at hc;split at hc<;>(try simp only[reduceCtorEq]at hc);split at hc<;>(try simp only[reduceCtorEq]at hc);split at hc<;>(try simp only[reduceCtorEq]at hc);split at hc<;>simp only[reduceCtorEq,aa]at hc;subst hc;simp[cd]at h
 | indexAddr T x k =>
  simp only[compile,fC]at hc;split at hc<;>(try simp only[reduceCtorEq]at hc)
  all_goals
   split at hc<;>simp only[reduceCtorEq,aa]at hc;subst hc;simp[cd]at h
 | index T x k =>
  simp only[compile,fC]at hc;split at hc<;>simp only[reduceCtorEq,aa]at hc;subst hc;simp[cd]at h
 | extract x k =>
  simp only[compile,fC,ak]at hc;obtain⟨x',hx,rfl⟩:=hc;simp[cd]at h
 | makeSlice T l c =>
  simp only[compile,fC]at hc;split at hc<;>(try simp only[reduceCtorEq]at hc);rename_i E hT;split at hc<;>(try simp only[reduceCtorEq]at hc);rename_i t ht;split at hc<;>(try simp only[reduceCtorEq]at hc);rename_i z l' c' hz hl zt;split at hc<;>(try simp only[reduceCtorEq]at hc);rename_i iP;simp only[ak]at hc;obtain⟨zs,lK,rfl⟩:=hc;exact Zx hF hS fC hT ht hz iP.1 iP.2 lK hl zt h dO
 | lookup T m k ok =>
  simp only[compile,fC]at hc;split at hc<;>(try simp only[reduceCtorEq]at hc);split at hc<;>simp only[reduceCtorEq,aa]at hc;subst hc;simp[cd]at h
 | mapUpdate T m k x =>
  simp only[compile,fC]at hc;split at hc<;>(try simp only[reduceCtorEq]at hc);rename_i K E m' k' x' hT hm hk hx;simp only[ak]at hc;obtain⟨kd,uJ,rfl⟩:=hc;exact TI hF hS fC hT hm hk hx uJ h dO
 | makeMap T r =>
  cases r with
  | some r=>simp[compile,fC]at hc
  | none =>
   simp only[compile,fC]at hc;split at hc<;>simp only[reduceCtorEq,aa]at hc;subst hc;exact Qk hS hF fC h
 | call c =>
  simp only[compile,fC]at hc;obtain⟨callee,args,argTypes⟩:=c;unfold km at hc;dsimp only at hc;split at hc
  ·split at hc<;>simp only[reduceCtorEq,aa]at hc<;>(subst hc;simp[cd]at h)
  ·split at hc<;>simp only[reduceCtorEq,aa]at hc;subst hc;simp[cd]at h
  ·split at hc<;>simp only[reduceCtorEq,aa]at hc;subst hc;simp[cd]at h
  ·rename_i x z T U e1 e2;have ea:args=#[x,z]:=by cases args;simp_all
   have et:argTypes=#[T,U]:=by cases argTypes;simp_all
   subst ea;subst et;split at hc<;>(try simp only[reduceCtorEq]at hc);rename_i E x' z' hT hx hz;split at hc<;>(try simp only[reduceCtorEq]at hc);rename_i t ht;split at hc<;>(try simp only[reduceCtorEq]at hc);rename_i zv XS;split at hc
   ·rename_i hTU;subst hTU;split at hc<;>simp only[reduceCtorEq,aa]at hc;rename_i iP;subst hc;exact Xz hS hF fC hT ht XS iP.1 iP.2 hx hz h dO
   ·split at hc<;>(try simp only[reduceCtorEq]at hc);rename_i hU;split at hc<;>simp only[reduceCtorEq,aa]at hc;rename_i iP;subst hc
    have lK:zv.cells.size=t.size:=by
     obtain⟨h1,_,h2⟩:=iP;rw[h1];cases zv<;>first | rfl | simp[Es]at h2
    exact TK hS hF fC hT hU ht XS iP.1 iP.2.1 lK hx hz h dO
  ·rename_i x T e1 e2;have ea:args=#[x]:=by cases args;simp_all
   have et:argTypes=#[T]:=by cases argTypes;simp_all
   subst ea;subst et;split at hc<;>(try simp only[reduceCtorEq]at hc);rename_i E x' hT hx;split at hc<;>(try simp only[reduceCtorEq]at hc);rename_i t ht;split at hc<;>(try simp only[reduceCtorEq]at hc);rename_i z hz;split at hc<;>(try simp only[reduceCtorEq]at hc);rename_i iP;simp only[ak]at hc;obtain⟨zs,lK,rfl⟩:=hc;exact Xx hF hS fC hT ht hz iP.1 iP.2 lK hx h dO
  ·split at hc<;>(try simp only[reduceCtorEq]at hc);split at hc<;>(try simp only[reduceCtorEq]at hc);simp only[ak]at hc;obtain⟨zs,_,rfl⟩:=hc;simp[cd]at h
  ·simp only[ak]at hc;obtain⟨zs,_,rfl⟩:=hc;simp[cd]at h
  ·simp at hc
 | makeFunc fn first caps =>
  cases fn with
  | func f =>
   simp only[compile,fC]at hc;split at hc<;>simp only[ak,reduceCtorEq]at hc;obtain⟨ys,_,rfl⟩:=hc;simp[cd]at h
  | _=>simp[compile,fC]at hc
 | _=>simp[compile,fC]at hc
end
end Go.Pm

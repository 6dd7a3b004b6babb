/- A part of a proof; the claim's last text says of what. -/
import Derived.Laws.Externs
import Derived.Test.YtlakkaamfadipaaGreatDoorS10
set_option linter.all false

namespace Go.Pm
open Go Go.RowKit
theorem Fg{P:Program}{T:TypeId}{t:TypeInfo}{q:Bool}(h:er P T=some q):(((if q then some t.size else none):Option Nat)=none∧er P T=some false)∨(((if q then some t.size else none):Option Nat)=some t.size∧er P T=some true):=by
 cases q
 ·exact .inl ⟨rfl,h⟩
 ·exact .inr ⟨rfl,h⟩
section
variable {P:Program} {o:Oper} {i:I} {a:Act} {B:Nat} {w0 w:World} {J:ae} {μ:Mem} {fr:List V}
theorem zM{w:World}{J:ae}{μ:Mem}{fr:List V}{a:Act}(h:FR w J μ fr a):∀ (xs:List Operand) (ys:List O),PR xs=some ys→ys.length=xs.length∧∀ (i:Nat) (y:V),(ys.map (ev fr))[i]?=some y→VR w J μ y ((xs.map a.eval).getD i undef)
 | [],ys,hc=>by simp only[PR,aa]at hc;subst hc;simp
 | x::xs,ys,hc=>by
  simp only[PR]at hc;split at hc<;>simp only[aa,reduceCtorEq]at hc;rename_i y zs hy lU;subst hc;obtain⟨h1,h2⟩:=zM h xs zs lU;refine⟨by simp[h1],fun i z hz=>?_⟩;cases i with
  | zero =>
   simp only[ay,aw,aa]at hz;subst hz;simpa using cP h hy
  | succ i=>simpa using h2 i z (by simpa using hz)
theorem Wm{f:Nat}{first caps:Array Operand}{ys:List O}(hF:FR w J μ fr a)(ho:o.op=.makeFunc (.func f) first caps)(h0:first.size=0)(hy:PR caps.toList=some ys):Yields P o a w J μ (.fn f (ys.map (ev fr))):=by
 obtain⟨h1,h2⟩:=zM hF _ _ hy;have hf:first=#[]:=pw h0
 subst hf;refine .pure (v:=.func (.func f) #[] (caps.map a.eval)) ?_ (.fn f _ _ (by simp[h1]) fun i x hx=>?_)
 ·simp[execOp,ho,Instr.makeFunc]
 ·have:=h2 i x hx;simpa[an]using this
def MP:Array Value→Sem Value:=(Extern.MathBitsCarry.rows.getD 1 ("",fun _=>pure undef)).2
theorem GG(P:Program)(x y:Nat)(w:World):(MP #[.int .u64 x,.int .u64 y,.int .u64 ((0:Nat):Int)]).run P w =
  .ok (.tuple #[.int .u64 (((x+18446744073709551616 - y - 0) % 18446744073709551616:Nat):Int),.int .u64 ((if x<y+0 then 1 else 0:Nat):Int)]) w:=rfl
theorem HN{fn:Func}(hn:fn.name = "math/bits.Sub64"):Extern.find fn=some MP:=by
 unfold Extern.find;rw[hn];kernel_rfl
theorem zu{fn:Func}(hn:fn.name = "math/bits.Sub64") (hr:fn.origin = ""):Extern.findNext fn=none:=by
 unfold Extern.findNext;rw[hn,hr];kernel_rfl
theorem PU(hF:FR w J μ fr a){f:Nat}{fn:Func}{args:Array Operand}{ts:Array TypeId}{x y:O}(ho:o.op=.call { callee:=.value (.func f),args,argTypes:=ts })(hf:P.funcs[f]?=some fn)
  (hb:fn.body.isNone=true) (hn:fn.name = "math/bits.Sub64") (hr:fn.origin = "") (hx:PR args.toList=some [x,y,.c (.i .u64 0)]) {p q:Int} (hp:ev fr x=.i .u64 p) (hq:ev fr y=.i .u64 q) (h0:0≤p) (h1:0≤q∧q<2^64) :
  Yields P o a w J μ (.fi [.i .u64 ((p+18446744073709551616 - q) % 18446744073709551616),.i .u64 (if p<q then 1 else 0)]):=by
 obtain⟨hl,hv⟩:=zM hF _ _ hx;have e0:=hv 0 _ rfl;have e1:=hv 1 _ rfl;have e2:=hv 2 _ rfl;obtain⟨l⟩:=args
 match l,hl with
 | [X,Y,Z],_ =>
  rw[hp]at e0;rw[hq]at e1;have e2:VR w J μ (.i .u64 0) (a.eval Z):=e2;simp only[ay,bo,aV,aW]at e0 e1;generalize hX:a.eval X=vx at e0;generalize hY:a.eval Y=vy at e1;generalize hZ:a.eval Z=vz at e2;cases e0;cases e1;cases e2;obtain⟨p,rfl⟩:=xq h0;obtain⟨q,rfl⟩:=xq h1.1;have YP:(fn.name == "runtime.NumGoroutine")=false:=by rw[hn];decide
  have cT:=run_callFunc_extern (P:=P) hf YP hb (zu hn hr) (HN hn) #[.int .u64 p,.int .u64 q,.int .u64 ((0:Nat):Int)] w;rw[GG P p q w]at cT;have ep:(((p+18446744073709551616 - q - 0) % 18446744073709551616:Nat):Int)=((p:Int)+18446744073709551616 - q) % 18446744073709551616:=by omega
  have eb:(((if p<q+0 then 1 else 0:Nat)):Int)=if(p:Int)<q then 1 else 0:=by split<;>split<;>omega
  rw[ep,eb]at cT;refine .pure (v:=.tuple #[.int .u64 (((p:Int)+18446744073709551616 - q) % 18446744073709551616),.int .u64 (if(p:Int)<q then 1 else 0)]) ?_ (.fi _ _ rfl fun i y hy=>?_)
  ·simp only[execOp,ho,resolve,Act.eval,Deferred.ofValue,invoke,Sem.run_bind,Sem.run_pure,Result.andThen_ok,Ic,Ie,List.map_toArray,ay,bo];simp only[Act.eval]at hX hY hZ;rw[hX,hY,hZ];exact cT
  ·match i,hy with
   | 0,hy=>cases fX hy;exact .i _ _
   | 1,hy=>cases fX hy;exact .i _ _
theorem EF(hc:compile P o=some i)(hF:FR w J μ fr a)(hS:fx P B w0 w J μ){ob:Prop}{y:V}(h:aM fr J i=some (ob,y))(cY:ob):Yields P o a w J μ y:=by
 cases dG:o.op with
 | move x =>
  simp only[compile,dG,aj]at hc;obtain⟨x',hx,rfl⟩:=hc;simp only[aM,aa,ao]at h;obtain⟨_,rfl⟩:=h;exact SA hF (.inl dG) hx
 | assign x =>
  simp only[compile,dG,aj]at hc;obtain⟨x',hx,rfl⟩:=hc;simp only[aM,aa,ao]at h;obtain⟨_,rfl⟩:=h;exact SA hF (.inr dG) hx
 | pick c x z =>
  simp only[compile,dG]at hc;split at hc<;>simp only[aa,reduceCtorEq]at hc;rename_i c' x' z' hc' hx hz;subst hc;simp only[aM]at h;split at h<;>simp only[aa,ao,reduceCtorEq]at h;rename_i p hp;obtain⟨_,rfl⟩:=h;exact Tw hF dG hc' hx hz hp
 | box T x =>
  simp only[compile,dG,aj]at hc;obtain⟨x',hx,rfl⟩:=hc;simp[aM]at h
 | alloc T =>
  simp only[compile,dG]at hc;split at hc<;>(try simp only[reduceCtorEq]at hc);split at hc<;>(try simp only[reduceCtorEq]at hc);simp only[aj]at hc;obtain⟨zs,_,rfl⟩:=hc;simp[aM]at h
 | build T parts =>
  simp only[compile,dG]at hc;split at hc<;>(try simp only[reduceCtorEq]at hc)
  ·rename_i t fs ht hu;split at hc<;>(try simp only[reduceCtorEq]at hc);rename_i z hz;split at hc<;>(try simp only[reduceCtorEq]at hc);rename_i zs places lU Fo;simp only[aj]at hc;obtain⟨ps,lq,rfl⟩:=hc;exact PY hF hS dG ht hu hz lU Fo lq h cY
  ·rename_i t n E ht hu;split at hc<;>(try simp only[reduceCtorEq]at hc);rename_i z te hz hte;split at hc<;>(try simp only[reduceCtorEq]at hc);rename_i zs lU;simp only[aj]at hc;obtain⟨ps,lq,rfl⟩:=hc;exact Mu hF hS dG ht hu hz hte lU lq h cY
 | buildSlice T len parts =>
  simp only[compile,dG]at hc;split at hc<;>(try simp only[reduceCtorEq]at hc);rename_i E hT;split at hc<;>(try simp only[reduceCtorEq]at hc);rename_i t ht;split at hc<;>(try simp only[reduceCtorEq]at hc);rename_i z hz;split at hc<;>(try simp only[reduceCtorEq]at hc);rename_i fC;simp only[aj]at hc;obtain⟨xs,lq,rfl⟩:=hc;split at h
  ·simp[aM]at h
  ·exact Mw hF hS dG hT ht hz fC.1 fC.2.1 fC.2.2.1 fC.2.2.2 lq h cY
 | load T x =>
  simp only[compile,dG]at hc;split at hc<;>simp only[aa,reduceCtorEq]at hc
  ·rename_i x' t hx hA ht;subst hc;exact Ms hF hS dG hx ht (.inr ⟨rfl,hA⟩) h cY
  ·rename_i x' t hx hA ht;subst hc;exact Ms hF hS dG hx ht (.inl ⟨rfl,hA⟩) h cY
 | store T x z =>
  simp only[compile,dG]at hc;split at hc<;>simp only[aa,reduceCtorEq]at hc;subst hc;simp[aM]at h
 | nilCheck x =>
  simp only[compile,dG,aj]at hc;obtain⟨x',hx,rfl⟩:=hc;exact PX hF hS dG hx h
 | binOp op T x z yT =>
  simp only[compile,dG]at hc;split at hc<;>(try simp only[reduceCtorEq]at hc);rename_i x' z' hx hz;split at hc
  ·rename_i hq;split at hc
   ·simp only[aa]at hc;subst hc;exact SB hF dG hx hz h cY
   ·split at hc
    ·rename_i hb;simp only[aa]at hc;subst hc
     have hT:P.underlying T=some .bool:=by
      unfold Pk at hb;split at hb
      ·assumption
      ·simp at hb
     exact Wo hF dG hq hT hx hz h
    ·simp only[aj]at hc;obtain⟨ks,hk,rfl⟩:=hc;exact Wn hF dG hq hk hx hz h
  ·simp only[aa]at hc;subst hc;exact SB hF dG hx hz h cY
 | unOp op T x =>
  simp only[compile,dG,aj]at hc;obtain⟨x',hx,rfl⟩:=hc;exact aau hF dG hx h
 | convert s d x =>
  simp only[compile,dG]at hc;split at hc<;>(try simp only[reduceCtorEq,aa]at hc)
  ·rename_i k0 k x' hs hd hx;subst hc;simp only[aM]at h;split at h<;>simp only[aa,ao,reduceCtorEq]at h;rename_i k1 n hp;obtain⟨_,rfl⟩:=h;exact Wl hF dG hs hd hx hp
  ·rename_i e x' hs hd hx;split at hc<;>simp only[reduceCtorEq,aa]at hc;rename_i he;subst hc;exact Wp hF hS dG hs he hd hx h
 | slice T x lo hi mx =>
  cases mx with
  | some m =>
   cases lo with
   | some lo=>simp[compile,dG]at hc
   | none =>
    cases hi with
    | none=>simp[compile,dG]at hc
    | some hi =>
     simp only[compile,dG]at hc;split at hc<;>(try simp only[reduceCtorEq]at hc);rename_i E x' h' m' hT hx hh hm;split at hc<;>simp only[reduceCtorEq,aa]at hc;rename_i t ht;subst hc;exact TB hF hS dG hT ht hx hh hm h cY
  | none =>
   simp only[compile,dG]at hc;split at hc<;>(try simp only[reduceCtorEq,aa]at hc)
   ·rename_i x' lo' hi' hT hx hl hh;subst hc;exact Mr hF hS dG hT hx hl hh h cY
   ·rename_i E x' lo' hi' hT hx hl hh;split at hc<;>simp only[reduceCtorEq,aa]at hc;rename_i t ht;subst hc;exact PV hF hS dG hT ht hx hl hh h cY
   ·rename_i n E x' hT hx hl hh;split at hc<;>(try simp only[reduceCtorEq]at hc);rename_i t ht;split at hc<;>simp only[reduceCtorEq,aa]at hc;rename_i fC;subst hc;have e1:lo=none:=by cases lo<;>simp[rK]at hl ⊢
    have e2:hi=none:=by cases hi<;>simp[rK]at hh ⊢
    subst e1;subst e2;exact Wq hF hS dG hT ht fC.1 hx h cY
 | fieldAddr T x f =>
  simp only[compile,dG]at hc;split at hc<;>(try simp only[reduceCtorEq]at hc);rename_i fs x' hT hx;split at hc<;>(try simp only[reduceCtorEq]at hc);rename_i fd hf;split at hc<;>(try simp only[reduceCtorEq]at hc);rename_i t ht;split at hc<;>simp only[reduceCtorEq,aa]at hc;rename_i fw;subst hc;exact Wh hF (fun id o ho=>⟨B,hS.obj id o ho⟩) dG hx hT hf ht fw h
 | indexAddr T x k =>
  simp only[compile,dG]at hc;split at hc<;>(try simp only[reduceCtorEq]at hc)
  ·rename_i E x' k' hT hx hk;split at hc<;>simp only[reduceCtorEq,aa]at hc;rename_i t ht;subst hc;exact Wg hF hS dG hT ht hx hk h cY
  ·rename_i n E x' k' hT hx hk;split at hc<;>simp only[reduceCtorEq,aa]at hc;rename_i t ht;subst hc;exact TC hF hS dG hT ht hx hk h cY
 | index T x k =>
  simp only[compile,dG]at hc;split at hc<;>(try simp only[reduceCtorEq,aa]at hc)
  ·rename_i x' k' hT hx hk;subst hc;exact Tv hF hS dG hT hx hk h cY
  ·rename_i n E x' k' hT hx hk;split at hc<;>simp only[reduceCtorEq,aa]at hc;rename_i fC;subst hc;exact Ts hF hS dG hT fC.1 fC.2 hx hk h cY
 | field T x f =>
  simp only[compile,dG]at hc;split at hc<;>(try simp only[reduceCtorEq]at hc);rename_i fs x' hT hx;split at hc<;>(try simp only[reduceCtorEq]at hc);rename_i fd hf;split at hc<;>simp only[reduceCtorEq,aa]at hc;rename_i hA;subst hc;exact Tt hF hS dG hT hf hA hx h
 | extract x k =>
  simp only[compile,dG,aj]at hc;obtain⟨x',hx,rfl⟩:=hc;simp only[aM]at h;split at h<;>(try simp only[reduceCtorEq]at h);rename_i xs hp;split at h<;>simp only[aa,ao,reduceCtorEq]at h;rename_i z hz;obtain⟨_,rfl⟩:=h;exact Wi hF dG hx hp hz
 | makeSlice T l c =>
  simp only[compile,dG]at hc;split at hc<;>(try simp only[reduceCtorEq]at hc);split at hc<;>(try simp only[reduceCtorEq]at hc);split at hc<;>(try simp only[reduceCtorEq]at hc)
  ·split at hc<;>simp only[reduceCtorEq,aa]at hc;subst hc;simp[aM]at h
  ·split at hc<;>(try simp only[reduceCtorEq]at hc);simp only[aj]at hc;obtain⟨zs,_,rfl⟩:=hc;simp[aM]at h
 | lookup T m k ok =>
  simp only[compile,dG]at hc;split at hc<;>(try simp only[reduceCtorEq]at hc);rename_i K E m' k' hT hm hk;split at hc<;>simp only[reduceCtorEq,aa]at hc;rename_i kd z pe hz;subst hc;exact TA hF hS dG hT hm hk pe hz h cY
 | mapUpdate T m k x =>
  simp only[compile,dG]at hc;split at hc<;>(try simp only[reduceCtorEq]at hc);simp only[aj]at hc;obtain⟨kd,_,rfl⟩:=hc;simp[aM]at h
 | mapEntry T m k =>
  simp only[compile,dG]at hc;split at hc<;>(try simp only[reduceCtorEq]at hc);split at hc<;>simp only[reduceCtorEq,aa]at hc;subst hc;simp[aM]at h
 | entryStore T m q x =>
  simp only[compile,dG]at hc;split at hc<;>simp only[reduceCtorEq,aa]at hc;subst hc;simp[aM]at h
 | range T x =>
  simp only[compile,dG]at hc;split at hc<;>simp only[reduceCtorEq,aa]at hc;subst hc;simp[aM]at h
 | next x q =>
  cases q with
  | true=>simp[compile,dG]at hc
  | false =>
   simp only[compile,dG,aj]at hc;obtain⟨x',_,rfl⟩:=hc;simp[aM]at h
 | entry x =>
  simp only[compile,dG,aj]at hc;obtain⟨x',hx,rfl⟩:=hc;exact Wj hF hS dG hx h
 | makeMap T r =>
  cases r with
  | some r=>simp[compile,dG]at hc
  | none =>
   simp only[compile,dG]at hc;split at hc<;>simp only[reduceCtorEq,aa]at hc;subst hc;simp[aM]at h
 | call c =>
  simp only[compile,dG]at hc;obtain⟨callee,args,argTypes⟩:=c;unfold jg at hc;dsimp only at hc;split at hc
  ·rename_i x T e1 e2;have ea:args=#[x]:=by cases args;simp_all
   have et:argTypes=#[T]:=by cases argTypes;simp_all
   subst ea;subst et;split at hc<;>simp only[reduceCtorEq,aa]at hc
   ·rename_i x' hT hx;subst hc;exact Tu hF hS dG hT hx h
   ·rename_i E x' hT hx;subst hc;exact We hF hS dG hT hx h
   ·rename_i K E x' hT hx;subst hc;exact Tx hF hS dG hT hx h
  ·rename_i x z e1;have ea:args=#[x,z]:=by cases args;simp_all
   subst ea;split at hc<;>simp only[reduceCtorEq,aa]at hc;rename_i x' z' hx hz;subst hc;exact Tz hF hS dG hx hz h rfl
  ·rename_i x z e1;have ea:args=#[x,z]:=by cases args;simp_all
   subst ea;split at hc<;>simp only[reduceCtorEq,aa]at hc;rename_i x' z' hx hz;subst hc;exact Ty hF hS dG hx hz h
  ·split at hc<;>(try simp only[reduceCtorEq]at hc);split at hc<;>(try simp only[reduceCtorEq]at hc);split at hc<;>(try simp only[reduceCtorEq]at hc);split at hc
   ·split at hc<;>simp only[reduceCtorEq,aa]at hc;subst hc;simp[aM]at h
   ·split at hc<;>(try simp only[reduceCtorEq]at hc);split at hc<;>simp only[reduceCtorEq,aa]at hc;subst hc;simp[aM]at h
  ·split at hc<;>(try simp only[reduceCtorEq]at hc);split at hc<;>(try simp only[reduceCtorEq]at hc);simp only[aj]at hc;obtain⟨kd,_,rfl⟩:=hc;simp[aM]at h
  ·split at hc<;>(try simp only[reduceCtorEq]at hc);split at hc<;>(try simp only[reduceCtorEq]at hc);split at hc<;>(try simp only[reduceCtorEq]at hc);split at hc<;>(try simp only[reduceCtorEq]at hc);simp only[aj]at hc;obtain⟨zs,_,rfl⟩:=hc;simp[aM]at h
  ·rename_i f e1;split at hc<;>(try simp only[reduceCtorEq]at hc);rename_i fn yZ;split at hc
   ·simp only[aj]at hc;obtain⟨zs,_,rfl⟩:=hc;simp[aM]at h
   ·split at hc<;>(try simp only[reduceCtorEq]at hc);rename_i fC;split at hc<;>simp only[reduceCtorEq,aa]at hc;rename_i x y hx;subst hc;simp only[aM]at h;split at h<;>simp only[reduceCtorEq,aa,ao]at h;rename_i p q hp hq;obtain⟨rfl,rfl⟩:=h;exact PU hF dG yZ fC.1 fC.2.1 fC.2.2 hx hp hq cY.1 ⟨cY.2.1,by omega⟩
  ·simp only[aj]at hc;obtain⟨zs,_,rfl⟩:=hc;simp[aM]at h
  ·simp at hc
 | makeFunc fn first caps =>
  cases fn with
  | func f =>
   simp only[compile,dG]at hc;split at hc<;>simp only[aj,reduceCtorEq]at hc;rename_i h0;obtain⟨ys,xF,rfl⟩:=hc;simp only[aM,aa,ao]at h;obtain⟨_,rfl⟩:=h;exact Wm hF dG h0 xF
  | _=>simp[compile,dG]at hc
 | _=>simp[compile,dG]at hc
theorem DO(hc:compile P o=some i)(hF:FR w J μ fr a)(hS:fx P B w0 w J μ){ob:Prop}{y:V}{J':ae}(h:bO fr J i=some (ob,y,J'))(cY:ob):pr P o a B w0 w J μ y J':=by
 cases dG:o.op with
 | move x =>
  simp only[compile,dG,aj]at hc;obtain⟨x',hx,rfl⟩:=hc;simp[bO]at h
 | assign x =>
  simp only[compile,dG,aj]at hc;obtain⟨x',hx,rfl⟩:=hc;simp[bO]at h
 | pick c x z =>
  simp only[compile,dG]at hc;split at hc<;>simp only[aa,reduceCtorEq]at hc;subst hc;simp[bO]at h
 | box T x =>
  simp only[compile,dG,aj]at hc;obtain⟨x',hx,rfl⟩:=hc;exact Zx hF hS dG hx h cY
 | alloc T =>
  simp only[compile,dG]at hc;split at hc<;>(try simp only[reduceCtorEq]at hc);rename_i t ht;split at hc<;>(try simp only[reduceCtorEq]at hc);rename_i z hz;simp only[aj]at hc;obtain⟨zs,lU,rfl⟩:=hc;exact Sf hF hS dG ht hz lU h
 | build T parts =>
  simp only[compile,dG]at hc;split at hc<;>(try simp only[reduceCtorEq]at hc)
  all_goals
   split at hc<;>(try simp only[reduceCtorEq]at hc);split at hc<;>(try simp only[reduceCtorEq]at hc);simp only[aj]at hc;obtain⟨ps,lq,rfl⟩:=hc;simp[bO]at h
 | buildSlice T len parts =>
  simp only[compile,dG]at hc;split at hc<;>(try simp only[reduceCtorEq]at hc);rename_i E hT;split at hc<;>(try simp only[reduceCtorEq]at hc);rename_i t ht;split at hc<;>(try simp only[reduceCtorEq]at hc);rename_i z hz;split at hc<;>(try simp only[reduceCtorEq]at hc);rename_i fC;simp only[aj]at hc;obtain⟨xs,lq,rfl⟩:=hc;split at h
  ·exact VC hF hS dG hT ht hz fC.1 fC.2.1 fC.2.2.1 fC.2.2.2 lq h cY
  ·simp[bO]at h
 | load T x =>
  simp only[compile,dG]at hc;split at hc<;>simp only[aa,reduceCtorEq]at hc<;>(subst hc;simp[bO]at h)
 | store T x z =>
  simp only[compile,dG]at hc;split at hc<;>simp only[aa,reduceCtorEq]at hc;rename_i x' z' t hx hz ht;subst hc;exact Sc hF hS dG ht hx hz h cY
 | nilCheck x =>
  simp only[compile,dG,aj]at hc;obtain⟨x',hx,rfl⟩:=hc;simp[bO]at h
 | binOp op T x z yT =>
  simp only[compile,dG]at hc;split at hc<;>(try simp only[reduceCtorEq]at hc);split at hc
  ·split at hc
   ·simp only[aa]at hc;subst hc;simp[bO]at h
   ·split at hc
    ·simp only[aa]at hc;subst hc;simp[bO]at h
    ·simp only[aj]at hc;obtain⟨ks,hk,rfl⟩:=hc;simp[bO]at h
  ·simp only[aa]at hc;subst hc;simp[bO]at h
 | unOp op T x =>
  simp only[compile,dG,aj]at hc;obtain⟨x',hx,rfl⟩:=hc;simp[bO]at h
 | convert s d x =>
  simp only[compile,dG]at hc;split at hc<;>(try simp only[reduceCtorEq,aa]at hc)
  ·subst hc;simp[bO]at h
  ·split at hc<;>simp only[reduceCtorEq,aa]at hc;subst hc;simp[bO]at h
 | slice T x lo hi mx =>
  cases mx with
  | some m =>
   cases lo with
   | some lo=>simp[compile,dG]at hc
   | none =>
    cases hi with
    | none=>simp[compile,dG]at hc
    | some hi =>
     simp only[compile,dG]at hc;split at hc<;>(try simp only[reduceCtorEq]at hc);split at hc<;>simp only[reduceCtorEq,aa]at hc;subst hc;simp[bO]at h
  | none =>
   simp only[compile,dG]at hc;split at hc<;>(try simp only[reduceCtorEq,aa]at hc)
   ·subst hc;simp[bO]at h
   ·split at hc<;>simp only[reduceCtorEq,aa]at hc;subst hc;simp[bO]at h
   ·split at hc<;>(try simp only[reduceCtorEq]at hc);split at hc<;>simp only[reduceCtorEq,aa]at hc;subst hc;simp[bO]at h
 | fieldAddr T x f =>
  simp only[compile,dG]at hc;split at hc<;>(try simp only[reduceCtorEq]at hc);split at hc<;>(try simp only[reduceCtorEq]at hc);split at hc<;>(try simp only[reduceCtorEq]at hc);split at hc<;>simp only[reduceCtorEq,aa]at hc;subst hc;simp[bO]at h
 | indexAddr T x k =>
  simp only[compile,dG]at hc;split at hc<;>(try simp only[reduceCtorEq]at hc)
  all_goals
   split at hc<;>simp only[reduceCtorEq,aa]at hc;subst hc;simp[bO]at h
 | index T x k =>
  simp only[compile,dG]at hc;split at hc<;>(try simp only[reduceCtorEq,aa]at hc)
  ·subst hc;simp[bO]at h
  ·split at hc<;>simp only[reduceCtorEq,aa]at hc;subst hc;simp[bO]at h
 | field T x f =>
  simp only[compile,dG]at hc;split at hc<;>(try simp only[reduceCtorEq]at hc);split at hc<;>(try simp only[reduceCtorEq]at hc);split at hc<;>simp only[reduceCtorEq,aa]at hc;subst hc;simp[bO]at h
 | extract x k =>
  simp only[compile,dG,aj]at hc;obtain⟨x',hx,rfl⟩:=hc;simp[bO]at h
 | makeSlice T l c =>
  simp only[compile,dG]at hc;split at hc<;>(try simp only[reduceCtorEq]at hc);rename_i E hT;split at hc<;>(try simp only[reduceCtorEq]at hc);rename_i t ht;split at hc<;>(try simp only[reduceCtorEq]at hc)
  ·rename_i l' c' hz hl y9;split at hc<;>simp only[reduceCtorEq,aa]at hc;rename_i Fl;subst hc;exact Zv hF hS dG hT ht hz Fl hl y9 h cY
  ·rename_i z l' c' BG hz hl y9;split at hc<;>(try simp only[reduceCtorEq]at hc);rename_i fC;simp only[aj]at hc;obtain⟨zs,lU,rfl⟩:=hc;exact acp hF hS dG hT ht hz fC.1 fC.2 lU hl y9 h cY
 | lookup T m k ok =>
  simp only[compile,dG]at hc;split at hc<;>(try simp only[reduceCtorEq]at hc);split at hc<;>simp only[reduceCtorEq,aa]at hc;subst hc;simp[bO]at h
 | mapUpdate T m k x =>
  simp only[compile,dG]at hc;split at hc<;>(try simp only[reduceCtorEq]at hc);rename_i K E m' k' x' hT hm hk hx;simp only[aj]at hc;obtain⟨kd,pe,rfl⟩:=hc;exact Vy hF hS dG hT hm hk hx pe h cY
 | mapEntry T m k =>
  simp only[compile,dG]at hc;split at hc<;>(try simp only[reduceCtorEq]at hc);rename_i K E m' k' hT hm hk;split at hc<;>simp only[reduceCtorEq,aa]at hc;rename_i kd z pe hz;subst hc;exact VA hF hS dG hT hm hk pe hz h cY
 | entryStore T m q x =>
  simp only[compile,dG]at hc;split at hc<;>simp only[reduceCtorEq,aa]at hc;rename_i K E m' q' x' hT hm hq hx;subst hc;exact Vz (T:=T) (K:=K) (E:=E) hF hS dG hm hq hx h cY
 | range T x =>
  simp only[compile,dG]at hc;split at hc<;>simp only[reduceCtorEq,aa]at hc;rename_i K E x' hT hx;subst hc;exact Sd hF hS dG hT hx h
 | next x q =>
  cases q with
  | true=>simp[compile,dG]at hc
  | false =>
   simp only[compile,dG,aj]at hc;obtain⟨x',_,rfl⟩:=hc;simp[bO]at h
 | entry x =>
  simp only[compile,dG,aj]at hc;obtain⟨x',hx,rfl⟩:=hc;simp[bO]at h
 | makeMap T r =>
  cases r with
  | some r=>simp[compile,dG]at hc
  | none =>
   simp only[compile,dG]at hc;split at hc<;>simp only[reduceCtorEq,aa]at hc;subst hc;exact Se hS hF dG h
 | call c =>
  simp only[compile,dG]at hc;obtain⟨callee,args,argTypes⟩:=c;unfold jg at hc;dsimp only at hc;split at hc
  ·split at hc<;>simp only[reduceCtorEq,aa]at hc<;>(subst hc;simp[bO]at h)
  ·split at hc<;>simp only[reduceCtorEq,aa]at hc;subst hc;simp[bO]at h
  ·split at hc<;>simp only[reduceCtorEq,aa]at hc;subst hc;simp[bO]at h
  ·rename_i x z T U e1 e2;have ea:args=#[x,z]:=by cases args;simp_all
   have et:argTypes=#[T,U]:=by cases argTypes;simp_all
   subst ea;subst et;split at hc<;>(try simp only[reduceCtorEq]at hc);rename_i E x' z' hT hx hz;split at hc<;>(try simp only[reduceCtorEq]at hc);rename_i t ht;split at hc<;>(try simp only[reduceCtorEq]at hc);rename_i zv Ux;split at hc
   ·rename_i hTU;subst hTU;split at hc<;>simp only[reduceCtorEq,aa]at hc;rename_i fC;subst hc;exact Zy hS hF dG hT ht Ux fC.1 fC.2 hx hz h cY
   ·split at hc<;>(try simp only[reduceCtorEq]at hc);rename_i hU;split at hc<;>simp only[reduceCtorEq,aa]at hc;rename_i fC;subst hc
    have lU:zv.cells.size=t.size:=by
     obtain⟨h1,_,h2⟩:=fC;rw[h1];cases zv<;>first | rfl | simp[Ff]at h2
    exact VD hS hF dG hT hU ht Ux fC.1 fC.2.1 lU hx hz h cY
  ·rename_i m k T K2 e1 e2;have ea:args=#[m,k]:=by cases args;simp_all
   have et:argTypes=#[T,K2]:=by cases argTypes;simp_all
   subst ea;subst et;split at hc<;>(try simp only[reduceCtorEq]at hc);rename_i K E m' k' hT hm hk;split at hc<;>(try simp only[reduceCtorEq]at hc);simp only[aj]at hc;obtain⟨kd,pe,rfl⟩:=hc;exact VB hF hS dG hT hm hk pe h cY
  ·rename_i x T e1 e2;have ea:args=#[x]:=by cases args;simp_all
   have et:argTypes=#[T]:=by cases argTypes;simp_all
   subst ea;subst et;split at hc<;>(try simp only[reduceCtorEq]at hc);rename_i E x' hT hx;split at hc<;>(try simp only[reduceCtorEq]at hc);rename_i t ht;split at hc<;>(try simp only[reduceCtorEq]at hc);rename_i z hz;split at hc<;>(try simp only[reduceCtorEq]at hc);rename_i fC;simp only[aj]at hc;obtain⟨zs,lU,rfl⟩:=hc;exact Zw hF hS dG hT ht hz fC.1 fC.2 lU hx h cY
  ·split at hc<;>(try simp only[reduceCtorEq]at hc);split at hc
   ·simp only[aj]at hc;obtain⟨zs,_,rfl⟩:=hc;simp[bO]at h
   ·split at hc<;>(try simp only[reduceCtorEq]at hc);split at hc<;>simp only[reduceCtorEq,aa]at hc;subst hc;simp[bO]at h
  ·simp only[aj]at hc;obtain⟨zs,_,rfl⟩:=hc;simp[bO]at h
  ·simp at hc
 | makeFunc fn first caps =>
  cases fn with
  | func f =>
   simp only[compile,dG]at hc;split at hc<;>simp only[aj,reduceCtorEq]at hc;obtain⟨ys,_,rfl⟩:=hc;simp[bO]at h
  | _=>simp[compile,dG]at hc
 | _=>simp[compile,dG]at hc
end
end Go.Pm

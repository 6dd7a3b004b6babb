/- A part of a proof; the claim's last text says of what. -/
import Derived.Laws.Externs
import Derived.Test.YtlakkaamfadipaaGreatDoorL11
set_option linter.all false

namespace Go.Pm
open Go Go.RowKit
theorem CD{P:Program}{T:TypeId}{t:TypeInfo}{q:Bool}(h:dO P T=some q):(((if q then some t.size else none):Option Nat)=none∧dO P T=some false)∨(((if q then some t.size else none):Option Nat)=some t.size∧dO P T=some true):=by
 cases q
 ·exact .inl ⟨rfl,h⟩
 ·exact .inr ⟨rfl,h⟩
section
variable {P:Program} {o:Oper} {i:I} {a:Act} {B:Nat} {w0 w:World} {J:ae} {μ:Mem} {fr:List V}
theorem xp{w:World}{J:ae}{μ:Mem}{fr:List V}{a:Act}(h:FR w J μ fr a):∀ (xs:List Operand) (ys:List O),Mn xs=some ys→ys.length=xs.length∧∀ (i:Nat) (y:V),(ys.map (ev fr))[i]?=some y→VR w J μ y ((xs.map a.eval).getD i undef)
 | [],ys,hc=>by simp only[Mn,aa]at hc;subst hc;simp
 | x::xs,ys,hc=>by
  simp only[Mn]at hc;split at hc<;>simp only[aa,reduceCtorEq]at hc;rename_i y zs hy lh;subst hc;obtain⟨h1,h2⟩:=xp h xs zs lh;refine⟨by simp[h1],fun i z hz=>?_⟩;cases i with
  | zero =>
   simp only[az,au,aa]at hz;subst hz;simpa using cn h hy
  | succ i=>simpa using h2 i z (by simpa using hz)
theorem SI{f:Nat}{first caps:Array Operand}{ys:List O}(hF:FR w J μ fr a)(ho:o.op=.makeFunc (.func f) first caps)(h0:first.size=0)(hy:Mn caps.toList=some ys):Yields P o a w J μ (.fn f (ys.map (ev fr))):=by
 obtain⟨h1,h2⟩:=xp hF _ _ hy;have hf:first=#[]:=od h0
 subst hf;refine .pure (v:=.func (.func f) #[] (caps.map a.eval)) ?_ (.fn f _ _ (by simp[h1]) fun i x hx=>?_)
 ·simp[execOp,ho,Instr.makeFunc]
 ·have:=h2 i x hx;simpa[ar]using this
def Jt:Array Value→Sem Value:=(Extern.MathBitsCarry.rows.getD 1 ("",fun _=>pure undef)).2
theorem D1(P:Program)(x y:Nat)(w:World):(Jt #[.int .u64 x,.int .u64 y,.int .u64 ((0:Nat):Int)]).run P w =
  .ok (.tuple #[.int .u64 (((x+18446744073709551616 - y - 0) % 18446744073709551616:Nat):Int),.int .u64 ((if x<y+0 then 1 else 0:Nat):Int)]) w:=rfl
theorem EW{fn:Func}(hn:fn.name = "math/bits.Sub64"):Extern.find fn=some Jt:=by
 unfold Extern.find;rw[hn];kernel_rfl
theorem wX{fn:Func}(hn:fn.name = "math/bits.Sub64") (hr:fn.origin = ""):Extern.findNext fn=none:=by
 unfold Extern.findNext;rw[hn,hr];kernel_rfl
theorem Ms(hF:FR w J μ fr a){f:Nat}{fn:Func}{args:Array Operand}{ts:Array TypeId}{x y:O}(ho:o.op=.call { callee:=.value (.func f),args,argTypes:=ts })(hf:P.funcs[f]?=some fn)
  (hb:fn.body.isNone=true) (hn:fn.name = "math/bits.Sub64") (hr:fn.origin = "") (hx:Mn args.toList=some [x,y,.c (.i .u64 0)]) {p q:Int} (hp:ev fr x=.i .u64 p) (hq:ev fr y=.i .u64 q) (h0:0≤p) (h1:0≤q∧q<2^64) :
  Yields P o a w J μ (.fa [.i .u64 ((p+18446744073709551616 - q) % 18446744073709551616),.i .u64 (if p<q then 1 else 0)]):=by
 obtain⟨hl,hv⟩:=xp hF _ _ hx;have e0:=hv 0 _ rfl;have e1:=hv 1 _ rfl;have e2:=hv 2 _ rfl;obtain⟨l⟩:=args
 match l,hl with
 | [X,Y,Z],_ =>
  rw[hp]at e0;rw[hq]at e1;have e2:VR w J μ (.i .u64 0) (a.eval Z):=e2;simp only[az,dj,bd,bf]at e0 e1;generalize hX:a.eval X=vx at e0;generalize hY:a.eval Y=vy at e1;generalize hZ:a.eval Z=vz at e2;cases e0;cases e1;cases e2;obtain⟨p,rfl⟩:=uT h0;obtain⟨q,rfl⟩:=uT h1.1;have U6:(fn.name == "runtime.NumGoroutine")=false:=by rw[hn];decide
  have cx:=run_callFunc_extern (P:=P) hf U6 hb (wX hn hr) (EW hn) #[.int .u64 p,.int .u64 q,.int .u64 ((0:Nat):Int)] w;rw[D1 P p q w]at cx;have ep:(((p+18446744073709551616 - q - 0) % 18446744073709551616:Nat):Int)=((p:Int)+18446744073709551616 - q) % 18446744073709551616:=by omega
  have eb:(((if p<q+0 then 1 else 0:Nat)):Int)=if(p:Int)<q then 1 else 0:=by split<;>split<;>omega
  rw[ep,eb]at cx;refine .pure (v:=.tuple #[.int .u64 (((p:Int)+18446744073709551616 - q) % 18446744073709551616),.int .u64 (if(p:Int)<q then 1 else 0)]) ?_ (.fa _ _ rfl fun i y hy=>?_)
  ·simp only[execOp,ho,resolve,Act.eval,Deferred.ofValue,invoke,Sem.run_bind,Sem.run_pure,Result.andThen_ok,Fo,Fp,List.map_toArray,az,dj];simp only[Act.eval]at hX hY hZ;rw[hX,hY,hZ];exact cx
  ·match i,hy with
   | 0,hy=>cases gm hy;exact .i _ _
   | 1,hy=>cases gm hy;exact .i _ _
theorem Ca(hc:compile P o=some i)(hF:FR w J μ fr a)(hS:fe P B w0 w J μ){ob:Prop}{y:V}(h:aJ fr J i=some (ob,y))(cK:ob):Yields P o a w J μ y:=by
 cases du:o.op with
 | move x =>
  simp only[compile,du,ah]at hc;obtain⟨x',hx,rfl⟩:=hc;simp only[aJ,aa,ao]at h;obtain⟨_,rfl⟩:=h;exact O8 hF (.inl du) hx
 | assign x =>
  simp only[compile,du,ah]at hc;obtain⟨x',hx,rfl⟩:=hc;simp only[aJ,aa,ao]at h;obtain⟨_,rfl⟩:=h;exact O8 hF (.inr du) hx
 | pick c x z =>
  simp only[compile,du]at hc;split at hc<;>simp only[aa,reduceCtorEq]at hc;rename_i c' x' z' hc' hx hz;subst hc;simp only[aJ]at h;split at h<;>simp only[aa,ao,reduceCtorEq]at h;rename_i p hp;obtain⟨_,rfl⟩:=h;exact PY hF du hc' hx hz hp
 | box T x =>
  simp only[compile,du,ah]at hc;obtain⟨x',hx,rfl⟩:=hc;simp[aJ]at h
 | alloc T =>
  simp only[compile,du]at hc;split at hc<;>(try simp only[reduceCtorEq]at hc);split at hc<;>(try simp only[reduceCtorEq]at hc);simp only[ah]at hc;obtain⟨zs,_,rfl⟩:=hc;simp[aJ]at h
 | build T parts =>
  simp only[compile,du]at hc;split at hc<;>(try simp only[reduceCtorEq]at hc)
  ·rename_i t fs ht hu;split at hc<;>(try simp only[reduceCtorEq]at hc);rename_i z hz;split at hc<;>(try simp only[reduceCtorEq]at hc);rename_i zs places lh EB;simp only[ah]at hc;obtain⟨ps,jV,rfl⟩:=hc;exact Mx hF hS du ht hu hz lh EB jV h cK
  ·rename_i t n E ht hu;split at hc<;>(try simp only[reduceCtorEq]at hc);rename_i z te hz XV;split at hc<;>(try simp only[reduceCtorEq]at hc);rename_i zs lh;simp only[ah]at hc;obtain⟨ps,jV,rfl⟩:=hc;exact Jb hF hS du ht hu hz XV lh jV h cK
 | buildSlice T len parts =>
  simp only[compile,du]at hc;split at hc<;>(try simp only[reduceCtorEq]at hc);rename_i E hT;split at hc<;>(try simp only[reduceCtorEq]at hc);rename_i t ht;split at hc<;>(try simp only[reduceCtorEq]at hc);rename_i z hz;split at hc<;>(try simp only[reduceCtorEq]at hc);rename_i fi;simp only[ah]at hc;obtain⟨xs,jV,rfl⟩:=hc;split at h
  ·simp[aJ]at h
  ·exact Jc hF hS du hT ht hz fi.1 fi.2.1 fi.2.2.1 fi.2.2.2 jV h cK
 | load T x =>
  simp only[compile,du]at hc;split at hc<;>simp only[aa,reduceCtorEq]at hc
  ·rename_i x' t hx hA ht;subst hc;exact Ja hF hS du hx ht (.inr ⟨rfl,hA⟩) h cK
  ·rename_i x' t hx hA ht;subst hc;exact Ja hF hS du hx ht (.inl ⟨rfl,hA⟩) h cK
 | store T x z =>
  simp only[compile,du]at hc;split at hc<;>simp only[aa,reduceCtorEq]at hc;subst hc;simp[aJ]at h
 | nilCheck x =>
  simp only[compile,du,ah]at hc;obtain⟨x',hx,rfl⟩:=hc;exact Mw hF hS du hx h
 | binOp op T x z yT =>
  simp only[compile,du]at hc;split at hc<;>(try simp only[reduceCtorEq]at hc);rename_i x' z' hx hz;split at hc
  ·rename_i hq;split at hc
   ·simp only[aa]at hc;subst hc;exact O9 hF du hx hz h cK
   ·split at hc
    ·rename_i hb;simp only[aa]at hc;subst hc
     have hT:P.underlying T=some .bool:=by
      unfold LV at hb;split at hb
      ·assumption
      ·simp at hb
     exact SK hF du hq hT hx hz h
    ·simp only[ah]at hc;obtain⟨ks,hk,rfl⟩:=hc;exact SJ hF du hq hk hx hz h
  ·simp only[aa]at hc;subst hc;exact O9 hF du hx hz h cK
 | unOp op T x =>
  simp only[compile,du,ah]at hc;obtain⟨x',hx,rfl⟩:=hc;exact WS hF du hx h
 | convert s d x =>
  simp only[compile,du]at hc;split at hc<;>(try simp only[reduceCtorEq,aa]at hc)
  ·rename_i k0 k x' hs hd hx;subst hc;simp only[aJ]at h;split at h<;>simp only[aa,ao,reduceCtorEq]at h;rename_i k1 n hp;obtain⟨_,rfl⟩:=h;exact SH hF du hs hd hx hp
  ·rename_i e x' hs hd hx;split at hc<;>simp only[reduceCtorEq,aa]at hc;rename_i he;subst hc;exact SL hF hS du hs he hd hx h
 | slice T x lo hi mx =>
  cases mx with
  | some m =>
   cases lo with
   | some lo=>simp[compile,du]at hc
   | none =>
    cases hi with
    | none=>simp[compile,du]at hc
    | some hi =>
     simp only[compile,du]at hc;split at hc<;>(try simp only[reduceCtorEq]at hc);rename_i E x' h' m' hT hx hh hm;split at hc<;>simp only[reduceCtorEq,aa]at hc;rename_i t ht;subst hc;exact P3 hF hS du hT ht hx hh hm h cK
  | none =>
   simp only[compile,du]at hc;split at hc<;>(try simp only[reduceCtorEq,aa]at hc)
   ·rename_i x' lo' hi' hT hx hl hh;subst hc;exact I9 hF hS du hT hx hl hh h cK
   ·rename_i E x' lo' hi' hT hx hl hh;split at hc<;>simp only[reduceCtorEq,aa]at hc;rename_i t ht;subst hc;exact Mu hF hS du hT ht hx hl hh h cK
   ·rename_i n E x' hT hx hl hh;split at hc<;>(try simp only[reduceCtorEq]at hc);rename_i t ht;split at hc<;>simp only[reduceCtorEq,aa]at hc;rename_i fi;subst hc;have e1:lo=none:=by cases lo<;>simp[pS]at hl ⊢
    have e2:hi=none:=by cases hi<;>simp[pS]at hh ⊢
    subst e1;subst e2;exact SM hF hS du hT ht fi.1 hx h cK
 | fieldAddr T x f =>
  simp only[compile,du]at hc;split at hc<;>(try simp only[reduceCtorEq]at hc);rename_i fs x' hT hx;split at hc<;>(try simp only[reduceCtorEq]at hc);rename_i fd hf;split at hc<;>(try simp only[reduceCtorEq]at hc);rename_i t ht;split at hc<;>simp only[reduceCtorEq,aa]at hc;rename_i eI;subst hc;exact SE hF (fun id o ho=>⟨B,hS.obj id o ho⟩) du hx hT hf ht eI h
 | indexAddr T x k =>
  simp only[compile,du]at hc;split at hc<;>(try simp only[reduceCtorEq]at hc)
  ·rename_i E x' k' hT hx hk;split at hc<;>simp only[reduceCtorEq,aa]at hc;rename_i t ht;subst hc;exact SC hF hS du hT ht hx hk h cK
  ·rename_i n E x' k' hT hx hk;split at hc<;>simp only[reduceCtorEq,aa]at hc;rename_i t ht;subst hc;exact P4 hF hS du hT ht hx hk h cK
 | index T x k =>
  simp only[compile,du]at hc;split at hc<;>(try simp only[reduceCtorEq,aa]at hc)
  ·rename_i x' k' hT hx hk;subst hc;exact PX hF hS du hT hx hk h cK
  ·rename_i n E x' k' hT hx hk;split at hc<;>simp only[reduceCtorEq,aa]at hc;rename_i fi;subst hc;exact PT hF hS du hT fi.1 fi.2 hx hk h cK
 | field T x f =>
  simp only[compile,du]at hc;split at hc<;>(try simp only[reduceCtorEq]at hc);rename_i fs x' hT hx;split at hc<;>(try simp only[reduceCtorEq]at hc);rename_i fd hf;split at hc<;>simp only[reduceCtorEq,aa]at hc;rename_i hA;subst hc;exact PU hF hS du hT hf hA hx h
 | extract x k =>
  simp only[compile,du,ah]at hc;obtain⟨x',hx,rfl⟩:=hc;simp only[aJ]at h;split at h<;>(try simp only[reduceCtorEq]at h);rename_i xs hp;split at h<;>simp only[aa,ao,reduceCtorEq]at h;rename_i z hz;obtain⟨_,rfl⟩:=h;exact SF hF du hx hp hz
 | makeSlice T l c =>
  simp only[compile,du]at hc;split at hc<;>(try simp only[reduceCtorEq]at hc);split at hc<;>(try simp only[reduceCtorEq]at hc);split at hc<;>(try simp only[reduceCtorEq]at hc)
  ·split at hc<;>simp only[reduceCtorEq,aa]at hc;subst hc;simp[aJ]at h
  ·split at hc<;>(try simp only[reduceCtorEq]at hc);simp only[ah]at hc;obtain⟨zs,_,rfl⟩:=hc;simp[aJ]at h
 | lookup T m k ok =>
  simp only[compile,du]at hc;split at hc<;>(try simp only[reduceCtorEq]at hc);rename_i K E m' k' hT hm hk;split at hc<;>simp only[reduceCtorEq,aa]at hc;rename_i kd z nP hz;subst hc;exact P2 hF hS du hT hm hk nP hz h cK
 | mapUpdate T m k x =>
  simp only[compile,du]at hc;split at hc<;>(try simp only[reduceCtorEq]at hc);simp only[ah]at hc;obtain⟨kd,_,rfl⟩:=hc;simp[aJ]at h
 | mapEntry T m k =>
  simp only[compile,du]at hc;split at hc<;>(try simp only[reduceCtorEq]at hc);split at hc<;>simp only[reduceCtorEq,aa]at hc;subst hc;simp[aJ]at h
 | entryStore T m q x =>
  simp only[compile,du]at hc;split at hc<;>simp only[reduceCtorEq,aa]at hc;subst hc;simp[aJ]at h
 | range T x =>
  simp only[compile,du]at hc;split at hc<;>simp only[reduceCtorEq,aa]at hc;subst hc;simp[aJ]at h
 | next x q =>
  cases q with
  | true=>simp[compile,du]at hc
  | false =>
   simp only[compile,du,ah]at hc;obtain⟨x',_,rfl⟩:=hc;simp[aJ]at h
 | entry x =>
  simp only[compile,du,ah]at hc;obtain⟨x',hx,rfl⟩:=hc;exact SG hF hS du hx h
 | makeMap T r =>
  cases r with
  | some r=>simp[compile,du]at hc
  | none =>
   simp only[compile,du]at hc;split at hc<;>simp only[reduceCtorEq,aa]at hc;subst hc;simp[aJ]at h
 | call c =>
  simp only[compile,du]at hc;obtain⟨callee,args,argTypes⟩:=c;unfold iB at hc;dsimp only at hc;split at hc
  ·rename_i x T e1 e2;have ea:args=#[x]:=by cases args;simp_all
   have et:argTypes=#[T]:=by cases argTypes;simp_all
   subst ea;subst et;split at hc<;>simp only[reduceCtorEq,aa]at hc
   ·rename_i x' hT hx;subst hc;exact PV hF hS du hT hx h
   ·rename_i E x' hT hx;subst hc;exact SB hF hS du hT hx h
   ·rename_i K E x' hT hx;subst hc;exact PZ hF hS du hT hx h
  ·rename_i x z e1;have ea:args=#[x,z]:=by cases args;simp_all
   subst ea;split at hc<;>simp only[reduceCtorEq,aa]at hc;rename_i x' z' hx hz;subst hc;exact P1 hF hS du hx hz h rfl
  ·rename_i x z e1;have ea:args=#[x,z]:=by cases args;simp_all
   subst ea;split at hc<;>simp only[reduceCtorEq,aa]at hc;rename_i x' z' hx hz;subst hc;exact P0 hF hS du hx hz h
  ·split at hc<;>(try simp only[reduceCtorEq]at hc);split at hc<;>(try simp only[reduceCtorEq]at hc);split at hc<;>(try simp only[reduceCtorEq]at hc);split at hc
   ·split at hc<;>simp only[reduceCtorEq,aa]at hc;subst hc;simp[aJ]at h
   ·split at hc<;>(try simp only[reduceCtorEq]at hc);split at hc<;>simp only[reduceCtorEq,aa]at hc;subst hc;simp[aJ]at h
  ·split at hc<;>(try simp only[reduceCtorEq]at hc);split at hc<;>(try simp only[reduceCtorEq]at hc);simp only[ah]at hc;obtain⟨kd,_,rfl⟩:=hc;simp[aJ]at h
  ·split at hc<;>(try simp only[reduceCtorEq]at hc);split at hc<;>(try simp only[reduceCtorEq]at hc);split at hc<;>(try simp only[reduceCtorEq]at hc);split at hc<;>(try simp only[reduceCtorEq]at hc);simp only[ah]at hc;obtain⟨zs,_,rfl⟩:=hc;simp[aJ]at h
  ·rename_i f e1;split at hc<;>(try simp only[reduceCtorEq]at hc);rename_i fn wH;split at hc
   ·simp only[ah]at hc;obtain⟨zs,_,rfl⟩:=hc;simp[aJ]at h
   ·split at hc<;>(try simp only[reduceCtorEq]at hc);rename_i fi;split at hc<;>simp only[reduceCtorEq,aa]at hc;rename_i x y hx;subst hc;simp only[aJ]at h;split at h<;>simp only[reduceCtorEq,aa,ao]at h;rename_i p q hp hq;obtain⟨rfl,rfl⟩:=h;exact Ms hF du wH fi.1 fi.2.1 fi.2.2 hx hp hq cK.1 ⟨cK.2.1,by omega⟩
  ·simp only[ah]at hc;obtain⟨zs,_,rfl⟩:=hc;simp[aJ]at h
  ·simp at hc
 | makeFunc fn first caps =>
  cases fn with
  | func f =>
   simp only[compile,du]at hc;split at hc<;>simp only[ah,reduceCtorEq]at hc;rename_i h0;obtain⟨ys,u3,rfl⟩:=hc;simp only[aJ,aa,ao]at h;obtain⟨_,rfl⟩:=h;exact SI hF du h0 u3
  | _=>simp[compile,du]at hc
 | _=>simp[compile,du]at hc
theorem Bx(hc:compile P o=some i)(hF:FR w J μ fr a)(hS:fe P B w0 w J μ){ob:Prop}{y:V}{J':ae}(h:bC fr J i=some (ob,y,J'))(cK:ob):nZ P o a B w0 w J μ y J':=by
 cases du:o.op with
 | move x =>
  simp only[compile,du,ah]at hc;obtain⟨x',hx,rfl⟩:=hc;simp[bC]at h
 | assign x =>
  simp only[compile,du,ah]at hc;obtain⟨x',hx,rfl⟩:=hc;simp[bC]at h
 | pick c x z =>
  simp only[compile,du]at hc;split at hc<;>simp only[aa,reduceCtorEq]at hc;subst hc;simp[bC]at h
 | box T x =>
  simp only[compile,du,ah]at hc;obtain⟨x',hx,rfl⟩:=hc;exact VS hF hS du hx h cK
 | alloc T =>
  simp only[compile,du]at hc;split at hc<;>(try simp only[reduceCtorEq]at hc);rename_i t ht;split at hc<;>(try simp only[reduceCtorEq]at hc);rename_i z hz;simp only[ah]at hc;obtain⟨zs,lh,rfl⟩:=hc;exact OP hF hS du ht hz lh h
 | build T parts =>
  simp only[compile,du]at hc;split at hc<;>(try simp only[reduceCtorEq]at hc)
  all_goals
   split at hc<;>(try simp only[reduceCtorEq]at hc);split at hc<;>(try simp only[reduceCtorEq]at hc);simp only[ah]at hc;obtain⟨ps,jV,rfl⟩:=hc;simp[bC]at h
 | buildSlice T len parts =>
  simp only[compile,du]at hc;split at hc<;>(try simp only[reduceCtorEq]at hc);rename_i E hT;split at hc<;>(try simp only[reduceCtorEq]at hc);rename_i t ht;split at hc<;>(try simp only[reduceCtorEq]at hc);rename_i z hz;split at hc<;>(try simp only[reduceCtorEq]at hc);rename_i fi;simp only[ah]at hc;obtain⟨xs,jV,rfl⟩:=hc;split at h
  ·exact RY hF hS du hT ht hz fi.1 fi.2.1 fi.2.2.1 fi.2.2.2 jV h cK
  ·simp[bC]at h
 | load T x =>
  simp only[compile,du]at hc;split at hc<;>simp only[aa,reduceCtorEq]at hc<;>(subst hc;simp[bC]at h)
 | store T x z =>
  simp only[compile,du]at hc;split at hc<;>simp only[aa,reduceCtorEq]at hc;rename_i x' z' t hx hz ht;subst hc;exact OM hF hS du ht hx hz h cK
 | nilCheck x =>
  simp only[compile,du,ah]at hc;obtain⟨x',hx,rfl⟩:=hc;simp[bC]at h
 | binOp op T x z yT =>
  simp only[compile,du]at hc;split at hc<;>(try simp only[reduceCtorEq]at hc);split at hc
  ·split at hc
   ·simp only[aa]at hc;subst hc;simp[bC]at h
   ·split at hc
    ·simp only[aa]at hc;subst hc;simp[bC]at h
    ·simp only[ah]at hc;obtain⟨ks,hk,rfl⟩:=hc;simp[bC]at h
  ·simp only[aa]at hc;subst hc;simp[bC]at h
 | unOp op T x =>
  simp only[compile,du,ah]at hc;obtain⟨x',hx,rfl⟩:=hc;simp[bC]at h
 | convert s d x =>
  simp only[compile,du]at hc;split at hc<;>(try simp only[reduceCtorEq,aa]at hc)
  ·subst hc;simp[bC]at h
  ·split at hc<;>simp only[reduceCtorEq,aa]at hc;subst hc;simp[bC]at h
 | slice T x lo hi mx =>
  cases mx with
  | some m =>
   cases lo with
   | some lo=>simp[compile,du]at hc
   | none =>
    cases hi with
    | none=>simp[compile,du]at hc
    | some hi =>
     simp only[compile,du]at hc;split at hc<;>(try simp only[reduceCtorEq]at hc);split at hc<;>simp only[reduceCtorEq,aa]at hc;subst hc;simp[bC]at h
  | none =>
   simp only[compile,du]at hc;split at hc<;>(try simp only[reduceCtorEq,aa]at hc)
   ·subst hc;simp[bC]at h
   ·split at hc<;>simp only[reduceCtorEq,aa]at hc;subst hc;simp[bC]at h
   ·split at hc<;>(try simp only[reduceCtorEq]at hc);split at hc<;>simp only[reduceCtorEq,aa]at hc;subst hc;simp[bC]at h
 | fieldAddr T x f =>
  simp only[compile,du]at hc;split at hc<;>(try simp only[reduceCtorEq]at hc);split at hc<;>(try simp only[reduceCtorEq]at hc);split at hc<;>(try simp only[reduceCtorEq]at hc);split at hc<;>simp only[reduceCtorEq,aa]at hc;subst hc;simp[bC]at h
 | indexAddr T x k =>
  simp only[compile,du]at hc;split at hc<;>(try simp only[reduceCtorEq]at hc)
  all_goals
   split at hc<;>simp only[reduceCtorEq,aa]at hc;subst hc;simp[bC]at h
 | index T x k =>
  simp only[compile,du]at hc;split at hc<;>(try simp only[reduceCtorEq,aa]at hc)
  ·subst hc;simp[bC]at h
  ·split at hc<;>simp only[reduceCtorEq,aa]at hc;subst hc;simp[bC]at h
 | field T x f =>
  simp only[compile,du]at hc;split at hc<;>(try simp only[reduceCtorEq]at hc);split at hc<;>(try simp only[reduceCtorEq]at hc);split at hc<;>simp only[reduceCtorEq,aa]at hc;subst hc;simp[bC]at h
 | extract x k =>
  simp only[compile,du,ah]at hc;obtain⟨x',hx,rfl⟩:=hc;simp[bC]at h
 | makeSlice T l c =>
  simp only[compile,du]at hc;split at hc<;>(try simp only[reduceCtorEq]at hc);rename_i E hT;split at hc<;>(try simp only[reduceCtorEq]at hc);rename_i t ht;split at hc<;>(try simp only[reduceCtorEq]at hc)
  ·rename_i l' c' hz hl wL;split at hc<;>simp only[reduceCtorEq,aa]at hc;rename_i yf;subst hc;exact VP hF hS du hT ht hz yf hl wL h cK
  ·rename_i z l' c' zh hz hl wL;split at hc<;>(try simp only[reduceCtorEq]at hc);rename_i fi;simp only[ah]at hc;obtain⟨zs,lh,rfl⟩:=hc;exact Y5 hF hS du hT ht hz fi.1 fi.2 lh hl wL h cK
 | lookup T m k ok =>
  simp only[compile,du]at hc;split at hc<;>(try simp only[reduceCtorEq]at hc);split at hc<;>simp only[reduceCtorEq,aa]at hc;subst hc;simp[bC]at h
 | mapUpdate T m k x =>
  simp only[compile,du]at hc;split at hc<;>(try simp only[reduceCtorEq]at hc);rename_i K E m' k' x' hT hm hk hx;simp only[ah]at hc;obtain⟨kd,nP,rfl⟩:=hc;exact RU hF hS du hT hm hk hx nP h cK
 | mapEntry T m k =>
  simp only[compile,du]at hc;split at hc<;>(try simp only[reduceCtorEq]at hc);rename_i K E m' k' hT hm hk;split at hc<;>simp only[reduceCtorEq,aa]at hc;rename_i kd z nP hz;subst hc;exact RW hF hS du hT hm hk nP hz h cK
 | entryStore T m q x =>
  simp only[compile,du]at hc;split at hc<;>simp only[reduceCtorEq,aa]at hc;rename_i K E m' q' x' hT hm hq hx;subst hc;exact RV (T:=T) (K:=K) (E:=E) hF hS du hm hq hx h cK
 | range T x =>
  simp only[compile,du]at hc;split at hc<;>simp only[reduceCtorEq,aa]at hc;rename_i K E x' hT hx;subst hc;exact ON hF hS du hT hx h
 | next x q =>
  cases q with
  | true=>simp[compile,du]at hc
  | false =>
   simp only[compile,du,ah]at hc;obtain⟨x',_,rfl⟩:=hc;simp[bC]at h
 | entry x =>
  simp only[compile,du,ah]at hc;obtain⟨x',hx,rfl⟩:=hc;simp[bC]at h
 | makeMap T r =>
  cases r with
  | some r=>simp[compile,du]at hc
  | none =>
   simp only[compile,du]at hc;split at hc<;>simp only[reduceCtorEq,aa]at hc;subst hc;exact OO hS hF du h
 | call c =>
  simp only[compile,du]at hc;obtain⟨callee,args,argTypes⟩:=c;unfold iB at hc;dsimp only at hc;split at hc
  ·split at hc<;>simp only[reduceCtorEq,aa]at hc<;>(subst hc;simp[bC]at h)
  ·split at hc<;>simp only[reduceCtorEq,aa]at hc;subst hc;simp[bC]at h
  ·split at hc<;>simp only[reduceCtorEq,aa]at hc;subst hc;simp[bC]at h
  ·rename_i x z T U e1 e2;have ea:args=#[x,z]:=by cases args;simp_all
   have et:argTypes=#[T,U]:=by cases argTypes;simp_all
   subst ea;subst et;split at hc<;>(try simp only[reduceCtorEq]at hc);rename_i E x' z' hT hx hz;split at hc<;>(try simp only[reduceCtorEq]at hc);rename_i t ht;split at hc<;>(try simp only[reduceCtorEq]at hc);rename_i zv QK;split at hc
   ·rename_i hTU;subst hTU;split at hc<;>simp only[reduceCtorEq,aa]at hc;rename_i fi;subst hc;exact VT hS hF du hT ht QK fi.1 fi.2 hx hz h cK
   ·split at hc<;>(try simp only[reduceCtorEq]at hc);rename_i hU;split at hc<;>simp only[reduceCtorEq,aa]at hc;rename_i fi;subst hc
    have lh:zv.cells.size=t.size:=by
     obtain⟨h1,_,h2⟩:=fi;rw[h1];cases zv<;>first | rfl | simp[CC]at h2
    exact RZ hS hF du hT hU ht QK fi.1 fi.2.1 lh hx hz h cK
  ·rename_i m k T K2 e1 e2;have ea:args=#[m,k]:=by cases args;simp_all
   have et:argTypes=#[T,K2]:=by cases argTypes;simp_all
   subst ea;subst et;split at hc<;>(try simp only[reduceCtorEq]at hc);rename_i K E m' k' hT hm hk;split at hc<;>(try simp only[reduceCtorEq]at hc);simp only[ah]at hc;obtain⟨kd,nP,rfl⟩:=hc;exact RX hF hS du hT hm hk nP h cK
  ·rename_i x T e1 e2;have ea:args=#[x]:=by cases args;simp_all
   have et:argTypes=#[T]:=by cases argTypes;simp_all
   subst ea;subst et;split at hc<;>(try simp only[reduceCtorEq]at hc);rename_i E x' hT hx;split at hc<;>(try simp only[reduceCtorEq]at hc);rename_i t ht;split at hc<;>(try simp only[reduceCtorEq]at hc);rename_i z hz;split at hc<;>(try simp only[reduceCtorEq]at hc);rename_i fi;simp only[ah]at hc;obtain⟨zs,lh,rfl⟩:=hc;exact VQ hF hS du hT ht hz fi.1 fi.2 lh hx h cK
  ·split at hc<;>(try simp only[reduceCtorEq]at hc);split at hc
   ·simp only[ah]at hc;obtain⟨zs,_,rfl⟩:=hc;simp[bC]at h
   ·split at hc<;>(try simp only[reduceCtorEq]at hc);split at hc<;>simp only[reduceCtorEq,aa]at hc;subst hc;simp[bC]at h
  ·simp only[ah]at hc;obtain⟨zs,_,rfl⟩:=hc;simp[bC]at h
  ·simp at hc
 | makeFunc fn first caps =>
  cases fn with
  | func f =>
   simp only[compile,du]at hc;split at hc<;>simp only[ah,reduceCtorEq]at hc;obtain⟨ys,_,rfl⟩:=hc;simp[bC]at h
  | _=>simp[compile,du]at hc
 | _=>simp[compile,du]at hc
end
end Go.Pm

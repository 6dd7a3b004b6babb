/- A part of a proof; the claim's last text says of what. -/
import Derived.Laws.Externs
import Derived.Test.YtlakkaamfadipaaGreatDoorV10
set_option linter.all false

namespace Go.Pm
open Go Go.RowKit
theorem Ej{P:Program}{T:TypeId}{t:TypeInfo}{q:Bool}(h:eD P T=some q):(((if q then some t.size else none):Option Nat)=none∧eD P T=some false)∨(((if q then some t.size else none):Option Nat)=some t.size∧eD P T=some true):=by
 cases q
 ·exact .inl ⟨rfl,h⟩
 ·exact .inr ⟨rfl,h⟩
section
variable {P:Program} {o:Oper} {i:I} {a:Act} {B:Nat} {w0 w:World} {J:ae} {μ:Mem} {fr:List V}
theorem yN{w:World}{J:ae}{μ:Mem}{fr:List V}{a:Act}(h:FR w J μ fr a):∀ (xs:List Operand) (ys:List O),Pg xs=some ys→ys.length=xs.length∧∀ (i:Nat) (y:V),(ys.map (ev fr))[i]?=some y→VR w J μ y ((xs.map a.eval).getD i undef)
 | [],ys,hc=>by simp only[Pg,aa]at hc;subst hc;simp
 | x::xs,ys,hc=>by
  simp only[Pg]at hc;split at hc<;>simp only[aa,reduceCtorEq]at hc;rename_i y zs hy lR;subst hc;obtain⟨h1,h2⟩:=yN h xs zs lR;refine⟨by simp[h1],fun i z hz=>?_⟩;cases i with
  | zero =>
   simp only[az,aq,aa]at hz;subst hz;simpa using cK h hy
  | succ i=>simpa using h2 i z (by simpa using hz)
theorem VL{f:Nat}{first caps:Array Operand}{ys:List O}(hF:FR w J μ fr a)(ho:o.op=.makeFunc (.func f) first caps)(h0:first.size=0)(hy:Pg caps.toList=some ys):Yields P o a w J μ (.fn f (ys.map (ev fr))):=by
 obtain⟨h1,h2⟩:=yN hF _ _ hy;have hf:first=#[]:=o8 h0
 subst hf;refine .pure (v:=.func (.func f) #[] (caps.map a.eval)) ?_ (.fn f _ _ (by simp[h1]) fun i x hx=>?_)
 ·simp[execOp,ho,Instr.makeFunc]
 ·have:=h2 i x hx;simpa[ar]using this
def L4:Array Value→Sem Value:=(Extern.MathBitsCarry.rows.getD 1 ("",fun _=>pure undef)).2
theorem FD(P:Program)(x y:Nat)(w:World):(L4 #[.int .u64 x,.int .u64 y,.int .u64 ((0:Nat):Int)]).run P w =
  .ok (.tuple #[.int .u64 (((x+18446744073709551616 - y - 0) % 18446744073709551616:Nat):Int),.int .u64 ((if x<y+0 then 1 else 0:Nat):Int)]) w:=rfl
theorem GV{fn:Func}(hn:fn.name = "math/bits.Sub64"):Extern.find fn=some L4:=by
 unfold Extern.find;rw[hn];kernel_rfl
theorem yw{fn:Func}(hn:fn.name = "math/bits.Sub64") (hr:fn.origin = ""):Extern.findNext fn=none:=by
 unfold Extern.findNext;rw[hn,hr];kernel_rfl
theorem Pj(hF:FR w J μ fr a){f:Nat}{fn:Func}{args:Array Operand}{ts:Array TypeId}{x y:O}(ho:o.op=.call { callee:=.value (.func f),args,argTypes:=ts })(hf:P.funcs[f]?=some fn)
  (hb:fn.body.isNone=true) (hn:fn.name = "math/bits.Sub64") (hr:fn.origin = "") (hx:Pg args.toList=some [x,y,.c (.i .u64 0)]) {p q:Int} (hp:ev fr x=.i .u64 p) (hq:ev fr y=.i .u64 q) (h0:0≤p) (h1:0≤q∧q<2^64) :
  Yields P o a w J μ (.fu [.i .u64 ((p+18446744073709551616 - q) % 18446744073709551616),.i .u64 (if p<q then 1 else 0)]):=by
 obtain⟨hl,hv⟩:=yN hF _ _ hx;have e0:=hv 0 _ rfl;have e1:=hv 1 _ rfl;have e2:=hv 2 _ rfl;obtain⟨l⟩:=args
 match l,hl with
 | [X,Y,Z],_ =>
  rw[hp]at e0;rw[hq]at e1;have e2:VR w J μ (.i .u64 0) (a.eval Z):=e2;simp only[az,bD,aF,aP]at e0 e1;generalize hX:a.eval X=vx at e0;generalize hY:a.eval Y=vy at e1;generalize hZ:a.eval Z=vz at e2;cases e0;cases e1;cases e2;obtain⟨p,rfl⟩:=wo h0;obtain⟨q,rfl⟩:=wo h1.1;have X7:(fn.name == "runtime.NumGoroutine")=false:=by rw[hn];decide
  have cQ:=run_callFunc_extern (P:=P) hf X7 hb (yw hn hr) (GV hn) #[.int .u64 p,.int .u64 q,.int .u64 ((0:Nat):Int)] w;rw[FD P p q w]at cQ;have ep:(((p+18446744073709551616 - q - 0) % 18446744073709551616:Nat):Int)=((p:Int)+18446744073709551616 - q) % 18446744073709551616:=by omega
  have eb:(((if p<q+0 then 1 else 0:Nat)):Int)=if(p:Int)<q then 1 else 0:=by split<;>split<;>omega
  rw[ep,eb]at cQ;refine .pure (v:=.tuple #[.int .u64 (((p:Int)+18446744073709551616 - q) % 18446744073709551616),.int .u64 (if(p:Int)<q then 1 else 0)]) ?_ (.fu _ _ rfl fun i y hy=>?_)
  ·simp only[execOp,ho,resolve,Act.eval,Deferred.ofValue,invoke,Sem.run_bind,Sem.run_pure,Result.andThen_ok,Hl,Hm,List.map_toArray,az,bD];simp only[Act.eval]at hX hY hZ;rw[hX,hY,hZ];exact cQ
  ·match i,hy with
   | 0,hy=>cases ga hy;exact .i _ _
   | 1,hy=>cases ga hy;exact .i _ _
theorem DM(hc:compile P o=some i)(hF:FR w J μ fr a)(hS:fF P B w0 w J μ){ob:Prop}{y:V}(h:aQ fr J i=some (ob,y))(cX:ob):Yields P o a w J μ y:=by
 cases dI:o.op with
 | move x =>
  simp only[compile,dI,aj]at hc;obtain⟨x',hx,rfl⟩:=hc;simp only[aQ,aa,an]at h;obtain⟨_,rfl⟩:=h;exact R0 hF (.inl dI) hx
 | assign x =>
  simp only[compile,dI,aj]at hc;obtain⟨x',hx,rfl⟩:=hc;simp only[aQ,aa,an]at h;obtain⟨_,rfl⟩:=h;exact R0 hF (.inr dI) hx
 | pick c x z =>
  simp only[compile,dI]at hc;split at hc<;>simp only[aa,reduceCtorEq]at hc;rename_i c' x' z' hc' hx hz;subst hc;simp only[aQ]at h;split at h<;>simp only[aa,an,reduceCtorEq]at h;rename_i p hp;obtain⟨_,rfl⟩:=h;exact SP hF dI hc' hx hz hp
 | box T x =>
  simp only[compile,dI,aj]at hc;obtain⟨x',hx,rfl⟩:=hc;simp[aQ]at h
 | alloc T =>
  simp only[compile,dI]at hc;split at hc<;>(try simp only[reduceCtorEq]at hc);split at hc<;>(try simp only[reduceCtorEq]at hc);simp only[aj]at hc;obtain⟨zs,_,rfl⟩:=hc;simp[aQ]at h
 | build T parts =>
  simp only[compile,dI]at hc;split at hc<;>(try simp only[reduceCtorEq]at hc)
  ·rename_i t fs ht hu;split at hc<;>(try simp only[reduceCtorEq]at hc);rename_i z hz;split at hc<;>(try simp only[reduceCtorEq]at hc);rename_i zs places lR zn;simp only[aj]at hc;obtain⟨ps,lx,rfl⟩:=hc;exact Pp hF hS dI ht hu hz lR zn lx h cX
  ·rename_i t n E ht hu;split at hc<;>(try simp only[reduceCtorEq]at hc);rename_i z te hz hte;split at hc<;>(try simp only[reduceCtorEq]at hc);rename_i zs lR;simp only[aj]at hc;obtain⟨ps,lx,rfl⟩:=hc;exact LI hF hS dI ht hu hz hte lR lx h cX
 | buildSlice T len parts =>
  simp only[compile,dI]at hc;split at hc<;>(try simp only[reduceCtorEq]at hc);rename_i E hT;split at hc<;>(try simp only[reduceCtorEq]at hc);rename_i t ht;split at hc<;>(try simp only[reduceCtorEq]at hc);rename_i z hz;split at hc<;>(try simp only[reduceCtorEq]at hc);rename_i fH;simp only[aj]at hc;obtain⟨xs,lx,rfl⟩:=hc;split at h
  ·simp[aQ]at h
  ·exact LJ hF hS dI hT ht hz fH.1 fH.2.1 fH.2.2.1 fH.2.2.2 lx h cX
 | load T x =>
  simp only[compile,dI]at hc;split at hc<;>simp only[aa,reduceCtorEq]at hc
  ·rename_i x' t hx hA ht;subst hc;exact LH hF hS dI hx ht (.inr ⟨rfl,hA⟩) h cX
  ·rename_i x' t hx hA ht;subst hc;exact LH hF hS dI hx ht (.inl ⟨rfl,hA⟩) h cX
 | store T x z =>
  simp only[compile,dI]at hc;split at hc<;>simp only[aa,reduceCtorEq]at hc;subst hc;simp[aQ]at h
 | nilCheck x =>
  simp only[compile,dI,aj]at hc;obtain⟨x',hx,rfl⟩:=hc;exact Po hF hS dI hx h
 | binOp op T x z yT =>
  simp only[compile,dI]at hc;split at hc<;>(try simp only[reduceCtorEq]at hc);rename_i x' z' hx hz;split at hc
  ·rename_i hq;split at hc
   ·simp only[aa]at hc;subst hc;exact R6 hF dI hx hz h cX
   ·split at hc
    ·rename_i hb;simp only[aa]at hc;subst hc
     have hT:P.underlying T=some .bool:=by
      unfold OK at hb;split at hb
      ·assumption
      ·simp at hb
     exact VN hF dI hq hT hx hz h
    ·simp only[aj]at hc;obtain⟨ks,hk,rfl⟩:=hc;exact VM hF dI hq hk hx hz h
  ·simp only[aa]at hc;subst hc;exact R6 hF dI hx hz h cX
 | unOp op T x =>
  simp only[compile,dI,aj]at hc;obtain⟨x',hx,rfl⟩:=hc;exact ZE hF dI hx h
 | convert s d x =>
  simp only[compile,dI]at hc;split at hc<;>(try simp only[reduceCtorEq,aa]at hc)
  ·rename_i k0 k x' hs hd hx;subst hc;simp only[aQ]at h;split at h<;>simp only[aa,an,reduceCtorEq]at h;rename_i k1 n hp;obtain⟨_,rfl⟩:=h;exact VK hF dI hs hd hx hp
  ·rename_i e x' hs hd hx;split at hc<;>simp only[reduceCtorEq,aa]at hc;rename_i he;subst hc;exact VO hF hS dI hs he hd hx h
 | slice T x lo hi mx =>
  cases mx with
  | some m =>
   cases lo with
   | some lo=>simp[compile,dI]at hc
   | none =>
    cases hi with
    | none=>simp[compile,dI]at hc
    | some hi =>
     simp only[compile,dI]at hc;split at hc<;>(try simp only[reduceCtorEq]at hc);rename_i E x' h' m' hT hx hh hm;split at hc<;>simp only[reduceCtorEq,aa]at hc;rename_i t ht;subst hc;exact SX hF hS dI hT ht hx hh hm h cX
  | none =>
   simp only[compile,dI]at hc;split at hc<;>(try simp only[reduceCtorEq,aa]at hc)
   ·rename_i x' lo' hi' hT hx hl hh;subst hc;exact LG hF hS dI hT hx hl hh h cX
   ·rename_i E x' lo' hi' hT hx hl hh;split at hc<;>simp only[reduceCtorEq,aa]at hc;rename_i t ht;subst hc;exact Pk hF hS dI hT ht hx hl hh h cX
   ·rename_i n E x' hT hx hl hh;split at hc<;>(try simp only[reduceCtorEq]at hc);rename_i t ht;split at hc<;>simp only[reduceCtorEq,aa]at hc;rename_i fH;subst hc;have e1:lo=none:=by cases lo<;>simp[rh]at hl ⊢
    have e2:hi=none:=by cases hi<;>simp[rh]at hh ⊢
    subst e1;subst e2;exact VP hF hS dI hT ht fH.1 hx h cX
 | fieldAddr T x f =>
  simp only[compile,dI]at hc;split at hc<;>(try simp only[reduceCtorEq]at hc);rename_i fs x' hT hx;split at hc<;>(try simp only[reduceCtorEq]at hc);rename_i fd hf;split at hc<;>(try simp only[reduceCtorEq]at hc);rename_i t ht;split at hc<;>simp only[reduceCtorEq,aa]at hc;rename_i fE;subst hc;exact VH hF (fun id o ho=>⟨B,hS.obj id o ho⟩) dI hx hT hf ht fE h
 | indexAddr T x k =>
  simp only[compile,dI]at hc;split at hc<;>(try simp only[reduceCtorEq]at hc)
  ·rename_i E x' k' hT hx hk;split at hc<;>simp only[reduceCtorEq,aa]at hc;rename_i t ht;subst hc;exact VG hF hS dI hT ht hx hk h cX
  ·rename_i n E x' k' hT hx hk;split at hc<;>simp only[reduceCtorEq,aa]at hc;rename_i t ht;subst hc;exact SY hF hS dI hT ht hx hk h cX
 | index T x k =>
  simp only[compile,dI]at hc;split at hc<;>(try simp only[reduceCtorEq,aa]at hc)
  ·rename_i x' k' hT hx hk;subst hc;exact SO hF hS dI hT hx hk h cX
  ·rename_i n E x' k' hT hx hk;split at hc<;>simp only[reduceCtorEq,aa]at hc;rename_i fH;subst hc;exact SL hF hS dI hT fH.1 fH.2 hx hk h cX
 | field T x f =>
  simp only[compile,dI]at hc;split at hc<;>(try simp only[reduceCtorEq]at hc);rename_i fs x' hT hx;split at hc<;>(try simp only[reduceCtorEq]at hc);rename_i fd hf;split at hc<;>simp only[reduceCtorEq,aa]at hc;rename_i hA;subst hc;exact SM hF hS dI hT hf hA hx h
 | extract x k =>
  simp only[compile,dI,aj]at hc;obtain⟨x',hx,rfl⟩:=hc;simp only[aQ]at h;split at h<;>(try simp only[reduceCtorEq]at h);rename_i xs hp;split at h<;>simp only[aa,an,reduceCtorEq]at h;rename_i z hz;obtain⟨_,rfl⟩:=h;exact VI hF dI hx hp hz
 | makeSlice T l c =>
  simp only[compile,dI]at hc;split at hc<;>(try simp only[reduceCtorEq]at hc);split at hc<;>(try simp only[reduceCtorEq]at hc);split at hc<;>(try simp only[reduceCtorEq]at hc)
  ·split at hc<;>simp only[reduceCtorEq,aa]at hc;subst hc;simp[aQ]at h
  ·split at hc<;>(try simp only[reduceCtorEq]at hc);simp only[aj]at hc;obtain⟨zs,_,rfl⟩:=hc;simp[aQ]at h
 | lookup T m k ok =>
  simp only[compile,dI]at hc;split at hc<;>(try simp only[reduceCtorEq]at hc);rename_i K E m' k' hT hm hk;split at hc<;>simp only[reduceCtorEq,aa]at hc;rename_i kd z oL hz;subst hc;exact SV hF hS dI hT hm hk oL hz h cX
 | mapUpdate T m k x =>
  simp only[compile,dI]at hc;split at hc<;>(try simp only[reduceCtorEq]at hc);simp only[aj]at hc;obtain⟨kd,_,rfl⟩:=hc;simp[aQ]at h
 | mapEntry T m k =>
  simp only[compile,dI]at hc;split at hc<;>(try simp only[reduceCtorEq]at hc);split at hc<;>simp only[reduceCtorEq,aa]at hc;subst hc;simp[aQ]at h
 | entryStore T m q x =>
  simp only[compile,dI]at hc;split at hc<;>simp only[reduceCtorEq,aa]at hc;subst hc;simp[aQ]at h
 | range T x =>
  simp only[compile,dI]at hc;split at hc<;>simp only[reduceCtorEq,aa]at hc;subst hc;simp[aQ]at h
 | next x q =>
  cases q with
  | true=>simp[compile,dI]at hc
  | false =>
   simp only[compile,dI,aj]at hc;obtain⟨x',_,rfl⟩:=hc;simp[aQ]at h
 | entry x =>
  simp only[compile,dI,aj]at hc;obtain⟨x',hx,rfl⟩:=hc;exact VJ hF hS dI hx h
 | makeMap T r =>
  cases r with
  | some r=>simp[compile,dI]at hc
  | none =>
   simp only[compile,dI]at hc;split at hc<;>simp only[reduceCtorEq,aa]at hc;subst hc;simp[aQ]at h
 | call c =>
  simp only[compile,dI]at hc;obtain⟨callee,args,argTypes⟩:=c;unfold jl at hc;dsimp only at hc;split at hc
  ·rename_i x T e1 e2;have ea:args=#[x]:=by cases args;simp_all
   have et:argTypes=#[T]:=by cases argTypes;simp_all
   subst ea;subst et;split at hc<;>simp only[reduceCtorEq,aa]at hc
   ·rename_i x' hT hx;subst hc;exact SN hF hS dI hT hx h
   ·rename_i E x' hT hx;subst hc;exact VF hF hS dI hT hx h
   ·rename_i K E x' hT hx;subst hc;exact SQ hF hS dI hT hx h
  ·rename_i x z e1;have ea:args=#[x,z]:=by cases args;simp_all
   subst ea;split at hc<;>simp only[reduceCtorEq,aa]at hc;rename_i x' z' hx hz;subst hc;exact SU hF hS dI hx hz h rfl
  ·rename_i x z e1;have ea:args=#[x,z]:=by cases args;simp_all
   subst ea;split at hc<;>simp only[reduceCtorEq,aa]at hc;rename_i x' z' hx hz;subst hc;exact SR hF hS dI hx hz h
  ·split at hc<;>(try simp only[reduceCtorEq]at hc);split at hc<;>(try simp only[reduceCtorEq]at hc);split at hc<;>(try simp only[reduceCtorEq]at hc);split at hc
   ·split at hc<;>simp only[reduceCtorEq,aa]at hc;subst hc;simp[aQ]at h
   ·split at hc<;>(try simp only[reduceCtorEq]at hc);split at hc<;>simp only[reduceCtorEq,aa]at hc;subst hc;simp[aQ]at h
  ·split at hc<;>(try simp only[reduceCtorEq]at hc);split at hc<;>(try simp only[reduceCtorEq]at hc);simp only[aj]at hc;obtain⟨kd,_,rfl⟩:=hc;simp[aQ]at h
  ·split at hc<;>(try simp only[reduceCtorEq]at hc);split at hc<;>(try simp only[reduceCtorEq]at hc);split at hc<;>(try simp only[reduceCtorEq]at hc);split at hc<;>(try simp only[reduceCtorEq]at hc);simp only[aj]at hc;obtain⟨zs,_,rfl⟩:=hc;simp[aQ]at h
  ·rename_i f e1;split at hc<;>(try simp only[reduceCtorEq]at hc);rename_i fn yf;split at hc
   ·simp only[aj]at hc;obtain⟨zs,_,rfl⟩:=hc;simp[aQ]at h
   ·split at hc<;>(try simp only[reduceCtorEq]at hc);rename_i fH;split at hc<;>simp only[reduceCtorEq,aa]at hc;rename_i x y hx;subst hc;simp only[aQ]at h;split at h<;>simp only[reduceCtorEq,aa,an]at h;rename_i p q hp hq;obtain⟨rfl,rfl⟩:=h;exact Pj hF dI yf fH.1 fH.2.1 fH.2.2 hx hp hq cX.1 ⟨cX.2.1,by omega⟩
  ·simp only[aj]at hc;obtain⟨zs,_,rfl⟩:=hc;simp[aQ]at h
  ·simp at hc
 | makeFunc fn first caps =>
  cases fn with
  | func f =>
   simp only[compile,dI]at hc;split at hc<;>simp only[aj,reduceCtorEq]at hc;rename_i h0;obtain⟨ys,wG,rfl⟩:=hc;simp only[aQ,aa,an]at h;obtain⟨_,rfl⟩:=h;exact VL hF dI h0 wG
  | _=>simp[compile,dI]at hc
 | _=>simp[compile,dI]at hc
theorem C6(hc:compile P o=some i)(hF:FR w J μ fr a)(hS:fF P B w0 w J μ){ob:Prop}{y:V}{J':ae}(h:bO fr J i=some (ob,y,J'))(cX:ob):oX P o a B w0 w J μ y J':=by
 cases dI:o.op with
 | move x =>
  simp only[compile,dI,aj]at hc;obtain⟨x',hx,rfl⟩:=hc;simp[bO]at h
 | assign x =>
  simp only[compile,dI,aj]at hc;obtain⟨x',hx,rfl⟩:=hc;simp[bO]at h
 | pick c x z =>
  simp only[compile,dI]at hc;split at hc<;>simp only[aa,reduceCtorEq]at hc;subst hc;simp[bO]at h
 | box T x =>
  simp only[compile,dI,aj]at hc;obtain⟨x',hx,rfl⟩:=hc;exact YM hF hS dI hx h cX
 | alloc T =>
  simp only[compile,dI]at hc;split at hc<;>(try simp only[reduceCtorEq]at hc);rename_i t ht;split at hc<;>(try simp only[reduceCtorEq]at hc);rename_i z hz;simp only[aj]at hc;obtain⟨zs,lR,rfl⟩:=hc;exact RC hF hS dI ht hz lR h
 | build T parts =>
  simp only[compile,dI]at hc;split at hc<;>(try simp only[reduceCtorEq]at hc)
  all_goals
   split at hc<;>(try simp only[reduceCtorEq]at hc);split at hc<;>(try simp only[reduceCtorEq]at hc);simp only[aj]at hc;obtain⟨ps,lx,rfl⟩:=hc;simp[bO]at h
 | buildSlice T len parts =>
  simp only[compile,dI]at hc;split at hc<;>(try simp only[reduceCtorEq]at hc);rename_i E hT;split at hc<;>(try simp only[reduceCtorEq]at hc);rename_i t ht;split at hc<;>(try simp only[reduceCtorEq]at hc);rename_i z hz;split at hc<;>(try simp only[reduceCtorEq]at hc);rename_i fH;simp only[aj]at hc;obtain⟨xs,lx,rfl⟩:=hc;split at h
  ·exact UZ hF hS dI hT ht hz fH.1 fH.2.1 fH.2.2.1 fH.2.2.2 lx h cX
  ·simp[bO]at h
 | load T x =>
  simp only[compile,dI]at hc;split at hc<;>simp only[aa,reduceCtorEq]at hc<;>(subst hc;simp[bO]at h)
 | store T x z =>
  simp only[compile,dI]at hc;split at hc<;>simp only[aa,reduceCtorEq]at hc;rename_i x' z' t hx hz ht;subst hc;exact Rz hF hS dI ht hx hz h cX
 | nilCheck x =>
  simp only[compile,dI,aj]at hc;obtain⟨x',hx,rfl⟩:=hc;simp[bO]at h
 | binOp op T x z yT =>
  simp only[compile,dI]at hc;split at hc<;>(try simp only[reduceCtorEq]at hc);split at hc
  ·split at hc
   ·simp only[aa]at hc;subst hc;simp[bO]at h
   ·split at hc
    ·simp only[aa]at hc;subst hc;simp[bO]at h
    ·simp only[aj]at hc;obtain⟨ks,hk,rfl⟩:=hc;simp[bO]at h
  ·simp only[aa]at hc;subst hc;simp[bO]at h
 | unOp op T x =>
  simp only[compile,dI,aj]at hc;obtain⟨x',hx,rfl⟩:=hc;simp[bO]at h
 | convert s d x =>
  simp only[compile,dI]at hc;split at hc<;>(try simp only[reduceCtorEq,aa]at hc)
  ·subst hc;simp[bO]at h
  ·split at hc<;>simp only[reduceCtorEq,aa]at hc;subst hc;simp[bO]at h
 | slice T x lo hi mx =>
  cases mx with
  | some m =>
   cases lo with
   | some lo=>simp[compile,dI]at hc
   | none =>
    cases hi with
    | none=>simp[compile,dI]at hc
    | some hi =>
     simp only[compile,dI]at hc;split at hc<;>(try simp only[reduceCtorEq]at hc);split at hc<;>simp only[reduceCtorEq,aa]at hc;subst hc;simp[bO]at h
  | none =>
   simp only[compile,dI]at hc;split at hc<;>(try simp only[reduceCtorEq,aa]at hc)
   ·subst hc;simp[bO]at h
   ·split at hc<;>simp only[reduceCtorEq,aa]at hc;subst hc;simp[bO]at h
   ·split at hc<;>(try simp only[reduceCtorEq]at hc);split at hc<;>simp only[reduceCtorEq,aa]at hc;subst hc;simp[bO]at h
 | fieldAddr T x f =>
  simp only[compile,dI]at hc;split at hc<;>(try simp only[reduceCtorEq]at hc);split at hc<;>(try simp only[reduceCtorEq]at hc);split at hc<;>(try simp only[reduceCtorEq]at hc);split at hc<;>simp only[reduceCtorEq,aa]at hc;subst hc;simp[bO]at h
 | indexAddr T x k =>
  simp only[compile,dI]at hc;split at hc<;>(try simp only[reduceCtorEq]at hc)
  all_goals
   split at hc<;>simp only[reduceCtorEq,aa]at hc;subst hc;simp[bO]at h
 | index T x k =>
  simp only[compile,dI]at hc;split at hc<;>(try simp only[reduceCtorEq,aa]at hc)
  ·subst hc;simp[bO]at h
  ·split at hc<;>simp only[reduceCtorEq,aa]at hc;subst hc;simp[bO]at h
 | field T x f =>
  simp only[compile,dI]at hc;split at hc<;>(try simp only[reduceCtorEq]at hc);split at hc<;>(try simp only[reduceCtorEq]at hc);split at hc<;>simp only[reduceCtorEq,aa]at hc;subst hc;simp[bO]at h
 | extract x k =>
  simp only[compile,dI,aj]at hc;obtain⟨x',hx,rfl⟩:=hc;simp[bO]at h
 | makeSlice T l c =>
  simp only[compile,dI]at hc;split at hc<;>(try simp only[reduceCtorEq]at hc);rename_i E hT;split at hc<;>(try simp only[reduceCtorEq]at hc);rename_i t ht;split at hc<;>(try simp only[reduceCtorEq]at hc)
  ·rename_i l' c' hz hl yh;split at hc<;>simp only[reduceCtorEq,aa]at hc;rename_i Gw;subst hc;exact YK hF hS dI hT ht hz Gw hl yh h cX
  ·rename_i z l' c' qe hz hl yh;split at hc<;>(try simp only[reduceCtorEq]at hc);rename_i fH;simp only[aj]at hc;obtain⟨zs,lR,rfl⟩:=hc;exact abE hF hS dI hT ht hz fH.1 fH.2 lR hl yh h cX
 | lookup T m k ok =>
  simp only[compile,dI]at hc;split at hc<;>(try simp only[reduceCtorEq]at hc);split at hc<;>simp only[reduceCtorEq,aa]at hc;subst hc;simp[bO]at h
 | mapUpdate T m k x =>
  simp only[compile,dI]at hc;split at hc<;>(try simp only[reduceCtorEq]at hc);rename_i K E m' k' x' hT hm hk hx;simp only[aj]at hc;obtain⟨kd,oL,rfl⟩:=hc;exact UU hF hS dI hT hm hk hx oL h cX
 | mapEntry T m k =>
  simp only[compile,dI]at hc;split at hc<;>(try simp only[reduceCtorEq]at hc);rename_i K E m' k' hT hm hk;split at hc<;>simp only[reduceCtorEq,aa]at hc;rename_i kd z oL hz;subst hc;exact UX hF hS dI hT hm hk oL hz h cX
 | entryStore T m q x =>
  simp only[compile,dI]at hc;split at hc<;>simp only[reduceCtorEq,aa]at hc;rename_i K E m' q' x' hT hm hq hx;subst hc;exact UW (T:=T) (K:=K) (E:=E) hF hS dI hm hq hx h cX
 | range T x =>
  simp only[compile,dI]at hc;split at hc<;>simp only[reduceCtorEq,aa]at hc;rename_i K E x' hT hx;subst hc;exact RA hF hS dI hT hx h
 | next x q =>
  cases q with
  | true=>simp[compile,dI]at hc
  | false =>
   simp only[compile,dI,aj]at hc;obtain⟨x',_,rfl⟩:=hc;simp[bO]at h
 | entry x =>
  simp only[compile,dI,aj]at hc;obtain⟨x',hx,rfl⟩:=hc;simp[bO]at h
 | makeMap T r =>
  cases r with
  | some r=>simp[compile,dI]at hc
  | none =>
   simp only[compile,dI]at hc;split at hc<;>simp only[reduceCtorEq,aa]at hc;subst hc;exact RB hS hF dI h
 | call c =>
  simp only[compile,dI]at hc;obtain⟨callee,args,argTypes⟩:=c;unfold jl at hc;dsimp only at hc;split at hc
  ·split at hc<;>simp only[reduceCtorEq,aa]at hc<;>(subst hc;simp[bO]at h)
  ·split at hc<;>simp only[reduceCtorEq,aa]at hc;subst hc;simp[bO]at h
  ·split at hc<;>simp only[reduceCtorEq,aa]at hc;subst hc;simp[bO]at h
  ·rename_i x z T U e1 e2;have ea:args=#[x,z]:=by cases args;simp_all
   have et:argTypes=#[T,U]:=by cases argTypes;simp_all
   subst ea;subst et;split at hc<;>(try simp only[reduceCtorEq]at hc);rename_i E x' z' hT hx hz;split at hc<;>(try simp only[reduceCtorEq]at hc);rename_i t ht;split at hc<;>(try simp only[reduceCtorEq]at hc);rename_i zv TL;split at hc
   ·rename_i hTU;subst hTU;split at hc<;>simp only[reduceCtorEq,aa]at hc;rename_i fH;subst hc;exact YN hS hF dI hT ht TL fH.1 fH.2 hx hz h cX
   ·split at hc<;>(try simp only[reduceCtorEq]at hc);rename_i hU;split at hc<;>simp only[reduceCtorEq,aa]at hc;rename_i fH;subst hc
    have lR:zv.cells.size=t.size:=by
     obtain⟨h1,_,h2⟩:=fH;rw[h1];cases zv<;>first | rfl | simp[Ei]at h2
    exact U0 hS hF dI hT hU ht TL fH.1 fH.2.1 lR hx hz h cX
  ·rename_i m k T K2 e1 e2;have ea:args=#[m,k]:=by cases args;simp_all
   have et:argTypes=#[T,K2]:=by cases argTypes;simp_all
   subst ea;subst et;split at hc<;>(try simp only[reduceCtorEq]at hc);rename_i K E m' k' hT hm hk;split at hc<;>(try simp only[reduceCtorEq]at hc);simp only[aj]at hc;obtain⟨kd,oL,rfl⟩:=hc;exact UY hF hS dI hT hm hk oL h cX
  ·rename_i x T e1 e2;have ea:args=#[x]:=by cases args;simp_all
   have et:argTypes=#[T]:=by cases argTypes;simp_all
   subst ea;subst et;split at hc<;>(try simp only[reduceCtorEq]at hc);rename_i E x' hT hx;split at hc<;>(try simp only[reduceCtorEq]at hc);rename_i t ht;split at hc<;>(try simp only[reduceCtorEq]at hc);rename_i z hz;split at hc<;>(try simp only[reduceCtorEq]at hc);rename_i fH;simp only[aj]at hc;obtain⟨zs,lR,rfl⟩:=hc;exact YL hF hS dI hT ht hz fH.1 fH.2 lR hx h cX
  ·split at hc<;>(try simp only[reduceCtorEq]at hc);split at hc
   ·simp only[aj]at hc;obtain⟨zs,_,rfl⟩:=hc;simp[bO]at h
   ·split at hc<;>(try simp only[reduceCtorEq]at hc);split at hc<;>simp only[reduceCtorEq,aa]at hc;subst hc;simp[bO]at h
  ·simp only[aj]at hc;obtain⟨zs,_,rfl⟩:=hc;simp[bO]at h
  ·simp at hc
 | makeFunc fn first caps =>
  cases fn with
  | func f =>
   simp only[compile,dI]at hc;split at hc<;>simp only[aj,reduceCtorEq]at hc;obtain⟨ys,_,rfl⟩:=hc;simp[bO]at h
  | _=>simp[compile,dI]at hc
 | _=>simp[compile,dI]at hc
end
end Go.Pm

/- A part of the proof that for every input the law NetworkLimits returns true and leaves its argument as it was. -/
import Derived.Orders
import Derived.Test.YtgihcpilgfbggaaGreatDoorL10
set_option linter.all false

namespace Go.Pm
open Go Go.RowKit
structure Pi where
 d:Option Nat
 g:List (Nat×Bool)
 i:I
def zm(d x:Nat):Pi:=⟨some d,[],.aK (.t x)⟩
def zl(d x:Nat):Pi:=⟨some d,[],.load none (.t x)⟩
def zL(d k x:Nat):Pi:=⟨some d,[],.load (some k) (.t x)⟩
def zf(d o x:Nat):Pi:=⟨some d,[],.eG o (.t x)⟩
def z(d:Nat)(i:I):Pi:=⟨some d,[],i⟩
def zs(i:I):Pi:=⟨none,[],i⟩
def tr(ops:Array Oper):Nat→Option (Nat×Bool)→Option (List (Nat×Bool))
 | _,none=>some []
 | 0,some _=>none
 | f+1,some (j,b)=>match ops[j]? with
  | some o=>match o.dst,tr ops f o.guard with
   | some t,some ch=>some (ch++[(t,b)])
   | _,_=>none
  | none=>none
def TQ(P:Program)(ops:Array Oper)(o:Oper):Option Pi :=
 match tr ops 8 o.guard with
 | some g=>some ⟨o.dst,g,(compile P o).getD .stop⟩
 | none=>none
def o5(P:Program)(ops:Array Oper):List Oper→Option (List Pi)
 | []=>some []
 | o::os=>match TQ P ops o,o5 P ops os with
  | some p,some ps=>some (p::ps)
  | _,_=>none
def ez(fr:List V):Option Nat→V→List V
 | none,_=>fr
 | some n,v=>fr.set n v
def xt(P:Program)(f:Nat):Bool:=match P.funcs[f]? with
 | some fn=>fn.body.isSome&&fn.name != "runtime.NumGoroutine"
 | none=>false
def jn(P:Program)(p:Pi)(K:St→Prop)(st:St):Prop :=
 match p.i with
 | .call f args=>PC P f (args.map (ev st.fr)) st.σ (fun r σ'=>K ⟨ez st.fr p.d r,σ'⟩)
 | .jy x args=>match ev st.fr x with
  | .fn f caps=>xt P f=true∧PC P f (args.map (ev st.fr)++caps) st.σ (fun r σ'=>K ⟨ez st.fr p.d r,σ'⟩)
  | _=>False
 | i=>match aS st.fr st.σ i with
  | some (ob,v)=>ob∧K ⟨ez st.fr p.d v,st.σ⟩
  | none=>match cd st.fr st.σ i with
   | some (ob,v,σ')=>ob∧K ⟨ez st.fr p.d v,σ'⟩
   | none=>False
theorem FR.put{w:World}{σ:ah}{μ:Mem}{fr:List V}{a:Act}(h:FR w σ μ fr a)(d:Option Nat){x:V}{v:Value}(hx:VR w σ μ x v):FR w σ μ (ez fr d x) (a.put d v):=by
 cases d with
 | none=>exact h
 | some n =>
  obtain⟨h1,h2,h3⟩:=h;refine⟨h1,by simp[Act.put,ez,h2],fun i y hy=>?_⟩;simp only[ez]at hy;simp only[Act.put]
  by_cases hi:n=i
  ·subst hi
   by_cases hl:n<fr.length
   ·rw[aq hl]at hy;simp only[aa]at hy;subst hy;have:n<a.tmps.size:=by omega
    simpa[this]using hx
   ·rw[bo (by simp;omega)]at hy;simp at hy
  ·rw[aO hi]at hy;have:=h3 i y hy;simp only[bm,dw hi]at this ⊢;exact this
theorem GX{P:Program}{o:Oper}{a:Act}{w:World}{f:Nat}{args:Array Operand}{ts:Array TypeId}{fn:Func}(ho:o.op=.call { callee:=.value (.func f),args,argTypes:=ts })(hf:P.funcs[f]?=some fn)(hb:fn.body.isSome=true)(hn:fn.name ≠ "runtime.NumGoroutine") :
  (execOp a.eval o).run P w=.ok (.enter f (args.map a.eval)) w:=by
 have h1:(fn.name == "runtime.NumGoroutine")=false:=by simpa using hn
 have h2:fn.body.isNone=false:=by cases hq:fn.body<;>simp_all
 simp only[execOp,ho,resolve,Act.eval,Deferred.ofValue,invoke,callFunc,Sem.run_bind,Sem.run_pure,Result.andThen_ok,run_program,hf,h1,h2,aF,if_false,Array.empty_append,Array.append_empty]
theorem EY{P:Program}{o:Oper}{a:Act}{w:World}{t f:Nat}{args:Array Operand}{ts:Array TypeId}{vs:Array Value}(ho:o.op=.call { callee:=.value (.tmp t),args,argTypes:=ts })(hv:a.tmps.getD t undef=.func (.func f) #[] vs)(hf:xt P f=true):
  (execOp a.eval o).run P w=.ok (.enter f (args.map a.eval++vs)) w:=by
 unfold xt at hf;split at hf
 ·rename_i fn JR;simp only[aB,bne_iff_ne,ne_eq]at hf;have h1:(fn.name == "runtime.NumGoroutine")=false:=by simpa using hf.2
  have h2:fn.body.isNone=false:=by cases hq:fn.body<;>simp_all
  have he:a.eval (.tmp t)=.func (.func f) #[] vs:=hv;simp only[execOp,ho,resolve,he,Deferred.ofValue,invoke,callFunc,Sem.run_bind,Sem.run_pure,Result.andThen_ok,run_program,JR,h1,h2,aF,if_false,Array.empty_append]
 ·simp at hf
theorem DE{P:Program}{o:Oper}{p:Pi}{K:St→Prop}{st:St}{B:Nat}{w0 w:World}{μ:Mem}{a:Act}(hc:compile P o=some p.i)(hd:o.dst=p.d)(h:jn P p K st)(hS:gM P B w0 w st.σ μ)(hF:FR w st.σ μ st.fr a){Q:Exit→Act→World→Prop}:
  o.wp P a w (fun a' w'=>∃ st' μ',K st'∧gM P B w0 w' st'.σ μ'∧FR w' st'.σ μ' st'.fr a'∧mh w st.σ μ w' st'.σ μ'∧(∃ v,a'=a.put o.dst v)∧∃ r,st'.fr=ez st.fr p.d r) Q:=by
 unfold jn at h;split at h
 ·
  rename_i f args hi;rw[hi]at hc;cases fC:o.op with
  | call c =>
   simp only[compile,fC]at hc;obtain⟨callee,args0,argTypes⟩:=c;unfold km at hc;dsimp only at hc;split at hc
   ·split at hc<;>simp at hc
   ·split at hc<;>simp at hc
   ·split at hc<;>simp at hc
   ·split at hc<;>(try simp at hc;done);split at hc<;>(try simp at hc;done);split at hc<;>(try simp at hc;done);split at hc
    ·split at hc<;>simp at hc
    ·split at hc<;>(try simp at hc;done)
   ·(repeat' split at hc)<;>(simp at hc;done)
   ·rename_i f' e1;split at hc<;>(try simp only[reduceCtorEq]at hc);rename_i fn JR;split at hc<;>(try simp only[reduceCtorEq]at hc);rename_i iP;simp only[ak,I.call.injEq]at hc;obtain⟨ys,wo,rfl,rfl⟩:=hc;have dx:=GX (P:=P) (a:=a) (w:=w) fC JR iP.1 iP.2;unfold Oper.wp;rw[dx];simp only[Oper.upon];obtain⟨h1,h2⟩:=CZ hF _ _ wo;refine(h B w0 w μ (args0.map a.eval) hS ⟨by simp[h1],fun i y hy=>?_⟩).mono ?_
    ·have:=h2 i y hy;simpa[List.getD_eq_getElem?_getD]using this
    ·rintro e w' ⟨r,v,σ',μ',rfl,hK,hS',hv,hk⟩;refine⟨_,μ',hK,hS',?_,hk,⟨_,rfl⟩,_,rfl⟩;rw[hd];exact(hF.eO hk).put p.d hv
   ·simp at hc
   ·simp at hc
  | buildSlice T len parts =>
   exfalso;simp only[compile,fC]at hc
   (repeat' split at hc)<;>(try (simp only[reduceCtorEq]at hc;done))
   simp only[ak]at hc;obtain⟨xs,_,hx⟩:=hc;split at hx<;>simp at hx
  | _ =>
   exfalso;simp only[compile,fC]at hc
   (repeat' split at hc)<;>first | (simp at hc;done) | (simp_all;done)
 ·
  rename_i x args hi;split at h
  rotate_left
  ·exact h.elim
  rename_i f caps hx;obtain⟨gC,h⟩:=h;rw[hi]at hc;cases fC:o.op with
  | call c =>
   simp only[compile,fC]at hc;obtain⟨callee,args0,argTypes⟩:=c;unfold km at hc;dsimp only at hc;split at hc
   ·split at hc<;>simp at hc
   ·split at hc<;>simp at hc
   ·split at hc<;>simp at hc
   ·split at hc<;>(try simp at hc;done);split at hc<;>(try simp at hc;done);split at hc<;>(try simp at hc;done);split at hc
    ·split at hc<;>simp at hc
    ·split at hc<;>(try simp at hc;done)
   ·(repeat' split at hc)<;>(simp at hc;done)
   ·split at hc<;>(try simp only[reduceCtorEq]at hc);split at hc<;>simp at hc
   ·rename_i t;simp only[ak,I.jy.injEq]at hc;obtain⟨ys,wo,rfl,rfl⟩:=hc;have hv:=hF.at t;simp only[ev]at hx;rw[hx]at hv;generalize hg:a.tmps.getD t undef=u at hv;cases hv with
    | fn _ _ vs hl Cx =>
     have dx:=EY (P:=P) (a:=a) (w:=w) fC hg gC;unfold Oper.wp;rw[dx];simp only[Oper.upon];obtain⟨h1,h2⟩:=CZ hF _ _ wo;refine(h B w0 w μ (args0.map a.eval++vs) hS ⟨by simp[h1,hl],fun i y hy=>?_⟩).mono ?_
     ·rcases fM i (ys.map (ev st.fr)).length with eC | MB
      ·rw[az eC]at hy;have h3:=h2 i y hy;have Za:i<args0.size:=by simpa[h1]using eC
       simpa[bm,lr,Za,List.getD_eq_getElem?_getD]using h3
      ·rw[aM MB]at hy;have h3:=Cx _ y hy;have Za:args0.size≤i:=by simpa[h1]using MB
       simpa[bm,Array.getElem?_append_right,Za,h1]using h3
     ·rintro e w' ⟨r,v,σ',μ',rfl,hK,hS',hv,hk⟩;refine⟨_,μ',hK,hS',?_,hk,⟨_,rfl⟩,_,rfl⟩;rw[hd];exact(hF.eO hk).put p.d hv
   ·simp at hc
  | buildSlice T len parts =>
   exfalso;simp only[compile,fC]at hc
   (repeat' split at hc)<;>(try (simp only[reduceCtorEq]at hc;done))
   simp only[ak]at hc;obtain⟨xs,_,hx⟩:=hc;split at hx<;>simp at hx
  | _ =>
   exfalso;simp only[compile,fC]at hc
   (repeat' split at hc)<;>first | (simp at hc;done) | (simp_all;done)
 ·rename_i i js WU;split at h
  ·rename_i ob v hp;obtain⟨dO,hK⟩:=h;obtain⟨u,w',hr,hg,hv⟩:=DV hc hF hS hp dO;obtain⟨hS',EC⟩:=hS.grown hg;unfold Oper.wp;rw[hr];simp only[Oper.upon];exact⟨_,μ,hK,hS',by rw[hd];exact(hF.eO EC.eO).put p.d hv,EC.eO,⟨_,rfl⟩,_,rfl⟩
  ·split at h
   ·rename_i ob v σ' hx;obtain⟨dO,hK⟩:=h;obtain⟨u,w',μ',hr,hS',hv,EC⟩:=Dg hc hF hS hx dO;unfold Oper.wp;rcases hr with hr | ⟨hr,rfl⟩
    ·rw[hr];simp only[Oper.upon];exact⟨_,μ',hK,hS',by rw[hd];exact(hF.eO EC.eO).put p.d hv,EC.eO,⟨_,rfl⟩,_,rfl⟩
    ·rw[hr];simp only[Oper.upon];exact⟨_,μ',hK,hS',by rw[hd];exact(hF.eO EC.eO).put p.d (.u _),EC.eO,⟨_,rfl⟩,_,rfl⟩
   ·exact h.elim
def I.os:I→List O
 | .aK x=>[x]
 | .pick c a b=>[c,a,b]
 | .box _ x=>[x]
 | .alloc _ _=>[]
 | .build _ parts=>parts.map (·.2.2)
 | .bQ _ _ xs=>xs
 | .E7 _ _ _ _ xs=>xs
 | .load _ a=>[a]
 | .store _ _ a x=>[a,x]
 | .dF x=>[x]
 | .bin _ x y=>[x,y]
 | .beq _ _ x y=>[x,y]
 | .NS _ x y=>[x,y]
 | .un _ x=>[x]
 | .rn _ x=>[x]
 | .yx x=>[x]
 | .slice _ x lo hi=>x::(lo.toList++hi.toList)
 | .fv x lo hi=>x::(lo.toList++hi.toList)
 | .eG _ x=>[x]
 | .idx _ x i=>[x,i]
 | .gQ x i=>[x,i]
 | .C2 _ _ x i=>[x,i]
 | .TS _ x=>[x]
 | .ext _ x=>[x]
 | .len _ x=>[x]
 | .max2 x y=>[x,y]
 | .min2 x y=>[x,y]
 | .app _ _ _ x y=>[x,y]
 | .apps _ x y=>[x,y]
 | .mk _ _ _ _ l c=>[l,c]
 | .pk _ _=>[]
 | .look _ _ _ m k=>[m,k]
 | .vT _ _ m k x=>[m,k,x]
 | .zb x=>[x]
 | .call _ args=>args
 | .jy x args=>x::args
 | .NQ _ xs=>xs
 | .Dd _ _ x=>[x]
 | .stop=>[]
def O.slot:O→List Nat
 | .t n=>[n]
 | .c _=>[]
def I.lS:I→List (Nat×List (Nat×Bool))
 | .pick (.t c) a b=>(c,[])::(a.slot.map (·,[(c,true)])++b.slot.map (·,[(c,false)]))
 | i=>(i.os.flatMap O.slot).map (·,[])
def I.cx:I→Bool
 | .box _ _ | .alloc _ _ | .store _ _ _ _ | .app _ _ _ _ _ | .apps _ _ _ | .mk _ _ _ _ _ _ | .E7 _ _ _ _ _ | .pk _ _ | .vT _ _ _ _ _ | .Dd _ _ _ | .call _ _ | .jy _ _ | .stop=>false
 | _=>true
def I.reads:I→Bool
 | .build _ _ | .bQ _ _ _ | .load _ _ | .dF _ | .yx _ | .slice _ _ _ _ | .eG _ _ | .idx _ _ _ | .len _ _ | .zb _ | .look _ _ _ _ _=>true
 | _=>false
section
variable {fr fr':List V} {σ:ah}
theorem vk{i:I}(h:∀ x∈i.os,ev fr x=ev fr' x):aS fr σ i=aS fr' σ i:=by
 cases i with
 | build zs parts =>
  have h1:∀ p∈parts,ev fr p.2.2=ev fr' p.2.2:=fun p hp=>h _ (dI.2 ⟨p,hp,rfl⟩)
  have e1:(parts.map fun(off,sz,x)=>(off,sz,eI (ev fr x)))=parts.map fun(off,sz,x)=>(off,sz,eI (ev fr' x)) :=
   eN fun p hp=>by
    have h2:=h1 p hp;obtain⟨a,b,c⟩:=p;simp only at h2 ⊢;rw[h2]
  have e2:(∀ p∈parts,fJ σ (ev fr p.2.2)=true)=(∀ p∈parts,fJ σ (ev fr' p.2.2)=true) :=
   propext ⟨fun k p hp=>h1 p hp▸k p hp,fun k p hp=>(h1 p hp).symm▸k p hp⟩
  simp only[aS,e1,e2]
 | bQ sz szs xs =>
  have h1:∀ p∈xs,ev fr p=ev fr' p:=fun p hp=>h _ hp
  have e1:(xs.map fun x=>cq szs (eI (ev fr x)))=xs.map fun x=>cq szs (eI (ev fr' x)) :=
   eN fun p hp=>by rw[h1 p hp]
  have e2:(∀ p∈xs,fJ σ (ev fr p)=true)=(∀ p∈xs,fJ σ (ev fr' p)=true) :=
   propext ⟨fun k p hp=>h1 p hp▸k p hp,fun k p hp=>(h1 p hp).symm▸k p hp⟩
  simp only[aS,e1,e2]
 | slice sz x lo hi =>
  have hx:=h x (by simp[I.os]);have hl:∀ y,lo=some y→ev fr y=ev fr' y:=fun y hy=>h y (by simp[I.os,hy]);have hh:∀ y,hi=some y→ev fr y=ev fr' y:=fun y hy=>h y (by simp[I.os,hy]);cases lo<;>cases hi<;>simp_all [aS]
 | fv x lo hi =>
  have hx:=h x (by simp[I.os]);have hl:∀ y,lo=some y→ev fr y=ev fr' y:=fun y hy=>h y (by simp[I.os,hy]);have hh:∀ y,hi=some y→ev fr y=ev fr' y:=fun y hy=>h y (by simp[I.os,hy]);cases lo<;>cases hi<;>simp_all [aS]
 | len str x =>
  have hx:=h x (by simp[I.os]);cases str<;>simp only[aS,hx]
 | _=>simp_all [aS,I.os]
theorem Dh{i:I}(h:∀ x∈i.os,ev fr x=ev fr' x):cd fr σ i=cd fr' σ i:=by
 cases i<;>simp_all [cd,I.os]
theorem DU{σ':ah}{i:I}(h:i.reads=false):aS fr σ i=aS fr σ' i:=by
 cases i<;>simp_all [aS,I.reads]
theorem sP{i:I}{r:Prop×V}(h:aS fr σ i=some r):i.cx=true:=by
 cases i<;>simp_all [aS,I.cx]
theorem sq{i:I}(h:i.cx=true):cd fr σ i=none:=by
 cases i<;>simp_all [cd,I.cx]
end
def chainB(fr:List V):List (Nat×Bool)→Option Bool
 | []=>some true
 | (t,b)::r=>match fr.getD t .u with
  | .b x=>match chainB fr r with
   | some y=>some ((x==b)&&y)
   | none=>none
  | _=>none
theorem vG{fr:List V}:∀ {ch:List (Nat×Bool)},chainB fr ch=some true↔∀ p∈ch,fr.getD p.1 .u=.b p.2
 | []=>by simp[chainB]
 | (t,b)::r=>by
  have ih:=vG (fr:=fr) (ch:=r);simp only[chainB,aY,forall_eq_or_imp];rw[← ih];split
  ·rename_i x hx;split
   ·rename_i y hy;rw[hx,hy];cases x<;>cases b<;>cases y<;>simp
   ·rename_i hy;simp[hy]
  ·rename_i hx;simp only[reduceCtorEq,false_iff,not_and];intro h;exact absurd h (hx b)
theorem zH{fr:List V}{a b:List (Nat×Bool)}(h:chainB fr b=some true)(hp:a.isPrefixOf b=true):chainB fr a=some true:=by
 rw[vG]at *;exact fun p hp'=>h p ((List.isPrefixOf_iff_prefix.1 hp).subset hp')
theorem nN{fr:List V}:∀ {a b:List (Nat×Bool)},chainB fr (a++b)=match chainB fr a,chainB fr b with
  | some x,some y=>some (x&&y)
  | _,_=>none
 | [],b=>by simp only[aG,chainB];cases chainB fr b<;>simp
 | (t,w)::r,b=>by
  simp only[aJ,chainB,nN (a:=r) (b:=b)];cases fr.getD t .u<;>simp;cases chainB fr r<;>cases chainB fr b<;>simp[Bool.and_assoc]
theorem MM{fr:List V}{n m:Nat}{x y:V}(h:n≠m):(fr.set n x).getD m y=fr.getD m y:=by
 simp[List.getD_eq_getElem?_getD,aO h]
theorem qy{fr:List V}{d:Option Nat}{r:V}:∀ {ch:List (Nat×Bool)},(∀ p∈ch,d≠some p.1)→chainB (ez fr d r) ch=chainB fr ch
 | [],_=>by simp[chainB]
 | (t,b)::ch,h=>by
  have ih:=qy (fr:=fr) (d:=d) (r:=r) (ch:=ch) fun p hp=>h p (by simp[hp]);have h0:=h (t,b) (by simp);simp only[chainB,ih];cases d with
  | none=>rfl
  | some n =>
   have:n≠t:=fun e=>h0 (by simp[e]);simp only[ez,MM this]
def xZ(P:Program)(p:Pi)(c:Bool)(K:St→Prop)(st:St):Prop :=
 match p.i with
 | .call f args=>(c=true→PC P f (args.map (ev st.fr)) st.σ (fun r' σ'=>K ⟨ez st.fr p.d r',σ'⟩))∧(c=false→∃ r,K ⟨ez st.fr p.d r,st.σ⟩)
 | .jy x args=>(c=true→match ev st.fr x with
  | .fn f caps=>xt P f=true∧PC P f (args.map (ev st.fr)++caps) st.σ (fun r' σ'=>K ⟨ez st.fr p.d r',σ'⟩)
  | _=>False)∧(c=false→∃ r,K ⟨ez st.fr p.d r,st.σ⟩)
 | .load k a=>match ev st.fr a with
  | .ptr _ _=>match aS st.fr st.σ (.load k a)with
   | some (ob,v)=>(c=true→ob)∧K ⟨ez st.fr p.d v,st.σ⟩
   | none=>False
  | _=>∃ v,(c=true→∃ ob,aS st.fr st.σ (.load k a)=some (ob,v)∧ob)∧K ⟨ez st.fr p.d v,st.σ⟩
 | i=>match aS st.fr st.σ i with
  | some (ob,v)=>(c=true→ob)∧K ⟨ez st.fr p.d v,st.σ⟩
  | none=>False
def gI(P:Program)(p:Pi)(K:St→Prop)(st:St):Prop :=
 match p.g with
 | []=>jn P p K st
 | _::_=>match chainB st.fr p.g with
  | some c=>xZ P p c K st
  | none=>False
theorem xY{P:Program}{p:Pi}{c:Bool}{K:St→Prop}{st:St}(h:xZ P p c K st)(hn:∀ f args,p.i≠.call f args)(hv:∀ x args,p.i≠.jy x args):
  ∃ r,K ⟨ez st.fr p.d r,st.σ⟩∧(c=true→jn P p (fun st'=>st'=⟨ez st.fr p.d r,st.σ⟩) st):=by
 obtain⟨d,g,i⟩:=p;cases i with
 | call f args=>exact absurd rfl (hn f args)
 | load k a =>
  simp only[xZ]at h;split at h
  ·split at h
   ·rename_i ob v hp;exact⟨v,h.2,fun hc=>by simp only[jn,hp];exact⟨h.1 hc,trivial⟩⟩
   ·exact h.elim
  ·obtain⟨v,h1,h2⟩:=h;refine⟨v,h2,fun hc=>?_⟩;obtain⟨ob,h3,h4⟩:=h1 hc;simp only[jn,h3];exact⟨h4,trivial⟩
 | jy x args=>exact absurd rfl (hv x args)
 | _ =>
  simp only[xZ]at h;split at h
  ·rename_i ob v hp;exact⟨v,h.2,fun hc=>by simp only[jn,hp];exact⟨h.1 hc,trivial⟩⟩
  ·exact h.elim
theorem wv{fr fr':List V}{x:O}(h:∀ s∈x.slot,fr.getD s .u=fr'.getD s .u):ev fr x=ev fr' x:=by
 cases x with
 | t n=>exact h n (by simp[O.slot])
 | c v=>rfl
theorem KN{P:Program}{p:Pi}{K:St→Prop}{fr fr':List V}{σ:ah}(h:∀ x∈p.i.os,ev fr x=ev fr' x)(hs:jn P p K ⟨fr,σ⟩):
  jn P p (fun st'=>∃ r,st'.fr=ez fr' p.d r∧K ⟨ez fr p.d r,st'.σ⟩) ⟨fr',σ⟩:=by
 obtain⟨d,g,i⟩:=p
 by_cases iQ:∃ f args,i=.call f args
 ·obtain⟨f,args,rfl⟩:=iQ;have e:args.map (ev fr)=args.map (ev fr'):=eN fun x hx=>h x hx;simp only[jn]at hs ⊢;rw[← e];exact hs.mono fun r σ' hk=>⟨r,rfl,hk⟩
 by_cases xU:∃ x args,i=.jy x args
 ·obtain⟨x,args,rfl⟩:=xU;have e:args.map (ev fr)=args.map (ev fr'):=eN fun y hy=>h y (by simp[I.os,hy]);have e2:=h x (by simp[I.os]);simp only[jn]at hs ⊢;rw[← e,← e2];split at hs
  ·exact⟨hs.1,hs.2.mono fun r σ' hk=>⟨r,rfl,hk⟩⟩
  ·exact hs.elim
 ·have e1:=vk (σ:=σ) h;have e2:=Dh (σ:=σ) h
  have key:∀ (fr0:List V) (K0:St→Prop),jn P ⟨d,g,i⟩ K0 ⟨fr0,σ⟩=match aS fr0 σ i with
    | some (ob,v)=>ob∧K0 ⟨ez fr0 d v,σ⟩
    | none=>match cd fr0 σ i with
     | some (ob,v,σ')=>ob∧K0 ⟨ez fr0 d v,σ'⟩
     | none=>False:=by
   intro fr0 K0;cases i<;>first | rfl | (exfalso;exact iQ ⟨_,_,rfl⟩) | (exfalso;exact xU ⟨_,_,rfl⟩)
  simp only at e1 e2;rw[key]at hs ⊢;rw[← e1,← e2];split at hs
  ·exact⟨hs.1,_,rfl,hs.2⟩
  ·split at hs
   ·exact⟨hs.1,_,rfl,hs.2⟩
   ·exact hs.elim
theorem DF{P:Program}{p:Pi}{K:St→Prop}{fr fr':List V}{σ:ah}(h:∀ s∈p.i.lS,chainB fr s.2=some true→fr.getD s.1 .u=fr'.getD s.1 .u)(hs:jn P p K ⟨fr,σ⟩):
  jn P p (fun st'=>∃ r,st'.fr=ez fr' p.d r∧K ⟨ez fr p.d r,st'.σ⟩) ⟨fr',σ⟩:=by
 by_cases hp:∃ c a b,p.i=.pick (.t c) a b
 ·obtain⟨c,x,y,hi⟩:=hp;obtain⟨d,g,i⟩:=p;simp only at hi;subst hi;have hc:fr.getD c .u=fr'.getD c .u:=h (c,[]) (by simp[I.lS]) (by simp[chainB]);have hx:fr.getD c .u=.b true→ev fr x=ev fr' x:=fun hb=>wv fun s hs'=>h (s,[(c,true)]) (by simp[I.lS,hs']) (by simp only[chainB,hb];rfl);have hy:fr.getD c .u=.b false→ev fr y=ev fr' y:=fun hb=>wv fun s hs'=>h (s,[(c,false)]) (by simp[I.lS,hs']) (by simp only[chainB,hb];rfl);simp only[jn,aS,ev]at hs ⊢;rw[← hc];split at hs
  ·rename_i ob v hq;split at hq
   ·rename_i b hb;simp only[aa,aA]at hq;obtain⟨rfl,rfl⟩:=hq;refine⟨trivial,_,rfl,?_⟩
    have e:(match ev fr x,ev fr y with
      | .b p,.b q=>V.b (bif b then p else q)
      | p,q=>bif b then p else q)=(match ev fr' x,ev fr' y with
      | .b p,.b q=>V.b (bif b then p else q)
      | p,q=>bif b then p else q):=by
     have gen:∀ p q:V,(match p,q with
      | .b p,.b q=>V.b (bif b then p else q)
      | p,q=>bif b then p else q)=bif b then p else q:=by
      intro p q;cases b<;>cases p<;>cases q<;>rfl
     rw[gen,gen];cases b
     ·simp only[cond_false];exact hy hb
     ·simp only[cond_true];exact hx hb
    exact Eq.mp (congrArg (fun v=>K ⟨ez fr d v,σ⟩) e) hs.2
   ·simp at hq
  ·rename_i hq;split at hq
   ·simp at hq
   ·simp only[cd]at hs
 ·refine KN (fun x hx=>wv fun s hs'=>h (s,[]) ?_ (by simp[chainB])) hs
  have:p.i.lS=(p.i.os.flatMap O.slot).map (·,[]):=by
   unfold I.lS;split
   ·rename_i c a b hi;exact absurd ⟨c,a,b,hi⟩ hp
   ·rfl
  rw[this];exact dI.2 ⟨s,NH.2 ⟨x,hx,hs'⟩,rfl⟩
def zO(w:World)(σ:ah)(μ:Mem)(fr:List V)(inf:Nat→Option (List (Nat×Bool)))(a:Act):Prop :=
 a.defers=[]∧a.tmps.size=fr.length∧∀ t x,fr[t]?=some x→∀ ch,inf t=some ch →
  (chainB fr ch=some true→VR w σ μ x (a.tmps.getD t undef))∧(chainB fr ch=some false→a.tmps.getD t undef=undef)
def QN(inf:Nat→Option (List (Nat×Bool)))(fr:List V):List V:=fr.mapIdx fun t x=>match inf t with
 | some ch=>if chainB fr ch=some true then x else .u
 | none=>.u
theorem zO.mask{w:World}{σ:ah}{μ:Mem}{fr:List V}{inf:Nat→Option (List (Nat×Bool))}{a:Act}(h:zO w σ μ fr inf a):FR w σ μ (QN inf fr) a:=by
 refine⟨h.1,by simp[QN,h.2.1],fun t x hx=>?_⟩;simp only[QN,List.getElem?_mapIdx,ak]at hx;obtain⟨y,hy,rfl⟩:=hx;split
 ·rename_i ch vy;split
  ·rename_i hc;exact(h.2.2 t y hy ch vy).1 hc
  ·exact .u _
 ·exact .u _
theorem RO{inf:Nat→Option (List (Nat×Bool))}{fr:List V}{t:Nat}{ch:List (Nat×Bool)}(hi:inf t=some ch)(hc:chainB fr ch=some true):(QN inf fr).getD t .u=fr.getD t .u:=by
 simp only[QN,List.getD_eq_getElem?_getD,List.getElem?_mapIdx,hi,hc,if_true];cases fr[t]?<;>rfl
structure Fg (inf:Nat→Option (List (Nat×Bool))) (p:Pi):Prop where
 lS:∀ s∈p.i.lS,∃ ch,inf s.1=some ch∧ch.isPrefixOf (p.g++s.2)=true
 guard:∀ ch t b,p.g=ch++[(t,b)]→inf t=some ch
 fresh:∀ d,p.d=some d→(∀ q∈p.g,q.1≠d)∧∀ t ch,inf t=some ch→∀ q∈ch,q.1≠d
def pG(inf:Nat→Option (List (Nat×Bool)))(p:Pi):Nat→Option (List (Nat×Bool)):=fun t=>if p.d=some t then some p.g else inf t
theorem I4{a:Act}{d:Option Nat}{v:Value}{t:Nat}(h:d≠some t):(a.put d v).tmps.getD t undef=a.tmps.getD t undef:=by
 cases d with
 | none=>rfl
 | some n =>
  have hn:n≠t:=fun e=>h (by simp[e]);simp only[Act.put,bm,dw hn]
theorem DS{a:Act}{v:Value}{t:Nat}(h:t<a.tmps.size):(a.put (some t) v).tmps.getD t undef=v:=by
 simp[Act.put,h]
theorem jt{fr:List V}{d:Option Nat}{r:V}{t:Nat}(h:d≠some t):(ez fr d r)[t]?=fr[t]?:=by
 cases d with
 | none=>rfl
 | some n =>
  have hn:n≠t:=fun e=>h (by simp[e]);simp only[ez,aO hn]
theorem mA{fr:List V}{d:Option Nat}{r:V}:(ez fr d r).length=fr.length:=by cases d<;>simp[ez]
theorem DR{a:Act}{d:Option Nat}{v:Value}:(a.put d v).tmps.size=a.tmps.size∧(a.put d v).defers=a.defers:=by
 cases d<;>simp[Act.put]
theorem zO.qH{w w':World}{σ σ':ah}{μ μ':Mem}{fr:List V}{inf:Nat→Option (List (Nat×Bool))}{a:Act}{p:Pi}{r:V}{v:Value}(h:zO w σ μ fr inf a)(gC:Fg inf p)(hk:mh w σ μ w' σ' μ')
  (h1:∀ t,p.d=some t→t<fr.length→chainB fr p.g=some true→VR w' σ' μ' r v) (h2:chainB fr p.g=some false→v=undef):zO w' σ' μ' (ez fr p.d r) (pG inf p) (a.put p.d v):=by
 refine⟨by rw[DR.2];exact h.1,by rw[DR.1,mA];exact h.2.1,fun t x hx ch vy=>?_⟩
 by_cases hd:p.d=some t
 ·have hf:=gC.fresh t hd;simp only[pG,hd,if_true,aa]at vy;subst vy
  have hlen:t<fr.length:=by
   have:=(ab.1 hx).1;rwa [mA]at this
  rw[hd]at hx;simp only[ez,aq hlen,aa]at hx;subst hx;have e:chainB (ez fr p.d r) p.g=chainB fr p.g:=qy fun q hq e=>hf.1 q hq (by rw[hd]at e;exact(ky e).symm);rw[e,hd,DS (by rw[h.2.1];exact hlen)];exact⟨h1 t hd hlen,h2⟩
 ·simp only[pG,hd,if_false]at vy;rw[jt hd]at hx;have e:chainB (ez fr p.d r) ch=chainB fr ch:=qy fun q hq e=>(gC.fresh q.1 e).2 t ch vy q hq rfl;rw[e,I4 hd];have:=h.2.2 t x hx ch vy;exact⟨fun hc=>hk _ _ (this.1 hc),this.2⟩
def GI(P:Program)(p:Pi)(K:St→Prop)(fr:List V)(σ:ah):Prop :=
 ∃ c,chainB fr p.g=some c∧((c=true∧∃ K':St→Prop,jn P p K' ⟨fr,σ⟩∧∀ st',K' st'→K st')∨(c=false∧∃ r,K ⟨ez fr p.d r,σ⟩))
theorem Xr{P:Program}{p:Pi}{K:St→Prop}{fr:List V}{σ:ah}(h:gI P p K ⟨fr,σ⟩):GI P p K fr σ:=by
 unfold gI at h;split at h
 ·rename_i hg;exact⟨true,by rw[hg];rfl,.inl ⟨rfl,K,h,fun _ h=>h⟩⟩
 ·split at h
  ·rename_i c hc
   by_cases iQ:∃ f args,p.i=.call f args
   ·obtain⟨f,args,hi⟩:=iQ;obtain⟨d,g,i⟩:=p;simp only at hi;subst hi;cases c with
    | true=>exact⟨true,hc,.inl ⟨rfl,K,h.1 rfl,fun _ h=>h⟩⟩
    | false=>exact⟨false,hc,.inr ⟨rfl,h.2 rfl⟩⟩
   by_cases xU:∃ x args,p.i=.jy x args
   ·obtain⟨x,args,hi⟩:=xU;obtain⟨d,g,i⟩:=p;simp only at hi;subst hi;cases c with
    | true=>exact⟨true,hc,.inl ⟨rfl,K,h.1 rfl,fun _ h=>h⟩⟩
    | false=>exact⟨false,hc,.inr ⟨rfl,h.2 rfl⟩⟩
   obtain⟨r,h1,h2⟩:=xY h (fun f args e=>iQ ⟨f,args,e⟩) fun x args e=>xU ⟨x,args,e⟩;cases c with
   | true=>exact⟨true,hc,.inl ⟨rfl,_,h2 rfl,fun st' e=>e▸h1⟩⟩
   | false=>exact⟨false,hc,.inr ⟨rfl,r,h1⟩⟩
  ·exact h.elim
theorem RG{P:Program}{ops:Array Oper}{o:Oper}{p:Pi}(hc:TQ P ops o=some p){inf:Nat→Option (List (Nat×Bool))}{B:Nat}{w0 w:World}{fr:List V}{σ:ah}{μ:Mem}{a:Act}{K:St→Prop}
  (hS:gM P B w0 w σ μ) (hF:zO w σ μ fr inf a) (gC:Fg inf p) (hK:GI P p K fr σ) {R:Act→World→Prop} {Q:Exit→Act→World→Prop}
  (hR:∀ r σ' μ' a' w',K ⟨ez fr p.d r,σ'⟩→gM P B w0 w' σ' μ'→zO w' σ' μ' (ez fr p.d r) (pG inf p) a'→mh w σ μ w' σ' μ'→R a' w') :
  if Region.wanted o (yielded ops a.tmps)then o.wp P a w R Q∨(o.asks P a w∧LetsOut Q)else R (a.put o.dst undef) w:=by
 unfold TQ at hc;split at hc<;>simp only[aa,reduceCtorEq]at hc;rename_i g hg;obtain⟨i,Pz⟩:∃ i,i=(compile P o).getD .stop:=⟨_,rfl⟩;rw[← Pz]at hc;subst hc
 have doit:∀ K':St→Prop,chainB fr g=some true→jn P ⟨o.dst,g,i⟩ K' ⟨fr,σ⟩→(∀ st',K' st'→K st')→o.wp P a w R Q:=by
  intro K' vy hs JQ
  have hi:compile P o=some i:=by
   cases Kq:compile P o with
   | none=>rw[Kq]at Pz;simp only[NF]at Pz;subst Pz;simp[jn,aS,cd]at hs
   | some j=>rw[Kq]at Pz;simp only[lI]at Pz;rw[Pz]
  have h1:=DF (fr':=QN inf fr) (fun s hs' YO=>by
   obtain⟨ch,h2,h3⟩:=gC.lS s hs';exact(RO h2 (zH (by rw[nN,vy,YO];rfl) h3)).symm) hs
  refine Oper.wp_mono ?_ (DE (p:=⟨o.dst,g,i⟩) hi rfl h1 hS hF.mask);rintro a' w' ⟨st',μ',⟨r,h2,h3⟩,h4,h5,h6,⟨v,rfl⟩,_⟩;have hlen:(QN inf fr).length=fr.length:=by simp[QN]
  refine hR r st'.σ μ' _ w' (JQ _ h3) h4 (hF.qH gC h6 (fun t ht hl _=>?_) fun h=>by simp only at h;rw[vy]at h;simp at h) h6;simp only at ht h2;have h7:=h5.2.2 t r (by rw[h2,ht];simp only[ez];rw[aq (by rw[hlen];exact hl)])
  rwa [ht,DS (by rw[hF.2.1];exact hl)]at h7
 have guard:∀ c,chainB fr g=some c→Region.wanted o (yielded ops a.tmps)=c:=by
  intro c zt;cases QZ:o.guard with
  | none =>
   rw[QZ]at hg;simp only[tr,aa]at hg;subst hg;simp only[chainB,aa]at zt;subst zt;simp[Region.wanted,QZ]
  | some jb =>
   obtain⟨j,b⟩:=jb;rw[QZ]at hg;simp only[tr]at hg;split at hg<;>(try simp only[reduceCtorEq]at hg);rename_i oj hoj;split at hg<;>simp only[aa,reduceCtorEq]at hg;rename_i t ch ht vy;subst hg;have Y8:=gC.guard ch t b rfl;rw[nN]at zt;split at zt<;>simp only[aa,reduceCtorEq]at zt;rename_i x y hx hy;simp only[chainB]at hy;split at hy<;>simp only[aa,reduceCtorEq]at hy;rename_i z hz;simp only[bI]at hy
   have hl:t<fr.length:=by
    rcases fM t fr.length with h | h
    ·exact h
    ·rw[List.getD_eq_getElem?_getD,bo h]at hz;simp at hz
   have er:fr[t]?=some (.b z):=by
    rw[List.getD_eq_getElem?_getD,ao hl]at hz;rw[ao hl];simpa using hz
   have hv:=hF.2.2 t _ er ch Y8;have Db:t<a.tmps.size:=by rw[hF.2.1];exact hl
   have Wx:yielded ops a.tmps j=match a.tmps.getD t undef with | .bool q=>some q | _=>none:=by
    unfold yielded;simp only[hoj,fY,ht];rw[Array.getElem?_eq_getElem Db];have:a.tmps.getD t undef=a.tmps[t]:=by simp[Db]
    rw[this];cases a.tmps[t]<;>rfl
   subst zt hy;cases x
   ·rw[hv.2 hx]at Wx;simp only[undef]at Wx;simp[Region.wanted,QZ,Wx]
   ·rw[(hv.1 hx).ow]at Wx;simp[Region.wanted,QZ,Wx]
 obtain⟨c,zt,py⟩:=hK;rcases py with⟨rfl,K',h1,h2⟩ | ⟨rfl,r,h1⟩
 ·rw[if_pos (guard true zt)];exact .inl (doit K' zt h1 h2)
 ·have hw:=guard false zt;rw[hw];simp only[aF,if_false];exact hR r σ μ _ w h1 hS (hF.qH (p:=⟨o.dst,g,i⟩) gC (mh.refl _ _ _) (fun t _ _ h=>by simp only at h;rw[zt]at h;simp at h) fun _=>rfl) (mh.refl _ _ _)
theorem XR{P:Program}{ops:Array Oper}{o:Oper}{p:Pi}(hc:TQ P ops o=some p){inf:Nat→Option (List (Nat×Bool))}{B:Nat}{w0 w:World}{fr:List V}{σ:ah}{μ:Mem}{a:Act}{K:St→Prop}
  (hS:gM P B w0 w σ μ) (hF:zO w σ μ fr inf a) (gC:Fg inf p) (hK:gI P p K ⟨fr,σ⟩) {R:Act→World→Prop} {Q:Exit→Act→World→Prop}
  (hR:∀ r σ' μ' a' w',K ⟨ez fr p.d r,σ'⟩→gM P B w0 w' σ' μ'→zO w' σ' μ' (ez fr p.d r) (pG inf p) a'→mh w σ μ w' σ' μ'→R a' w') :
  if Region.wanted o (yielded ops a.tmps)then o.wp P a w R Q∨(o.asks P a w∧LetsOut Q)else R (a.put o.dst undef) w :=
 RG hc hS hF gC (Xr hK) hR
def Dd(gs:List Nat)(fr:List V):List V:=gs.foldl (fun fr s=>fr.set s .u) fr
def jv(P:Program)(gs:List Nat):List Pi→(St→Prop)→St→Prop
 | [],K,st=>K ⟨Dd gs st.fr,st.σ⟩
 | p::ps,K,st=>gI P p (jv P gs ps K) st
def ou(D:List (Nat×List (Nat×Bool)))(t:Nat):List (Nat×Bool):=(D.lookup t).getD []
def TU(D:List (Nat×List (Nat×Bool)))(p:Pi):List (Nat×List (Nat×Bool)):=match p.d with
 | some d=>(d,p.g)::D
 | none=>D
def Lv(D:List (Nat×List (Nat×Bool)))(p:Pi):Bool :=
 p.i.lS.all (fun s=>(ou D s.1).isPrefixOf (p.g++s.2)) &&
 (match p.g.getLast? with
  | none=>true
  | some q=>ou D q.1==p.g.dropLast) &&
 (match p.d with
  | none=>true
  | some d=>p.g.all (fun q=>q.1 != d)&&D.all fun e=>e.2.all fun q=>q.1 != d)
def C9:List (Nat×List (Nat×Bool))→List Pi→List Nat→Bool
 | D,[],gs=>D.all fun e=>e.2.isEmpty||gs.contains e.1
 | D,p::ps,gs=>Lv D p&&C9 (TU D p) ps gs
def s0(D:List (Nat×List (Nat×Bool)))(t:Nat):Option (List (Nat×Bool)):=some (ou D t)
theorem ue{D:List (Nat×List (Nat×Bool))}{t:Nat}:ou D t=[]∨(t,ou D t)∈D:=by
 induction D with
 | nil=>exact .inl rfl
 | cons e D ih =>
  obtain⟨s,ch⟩:=e;simp only[ou,NI]
  by_cases h:t=s
  ·subst h;right;simp
  ·have:(t==s)=false:=by simpa using h
   rw[this];simp only[ou]at ih;rcases ih with h | h
   ·exact .inl h
   ·exact .inr (bz _ h)
theorem D5{D:List (Nat×List (Nat×Bool))}{p:Pi}(h:Lv D p=true):Fg (s0 D) p:=by
 simp only[Lv,aB,bR]at h;obtain⟨⟨h1,h2⟩,h3⟩:=h;refine⟨fun s hs=>⟨_,rfl,h1 s hs⟩,fun ch t b hg=>?_,fun d hd=>?_⟩
 ·rw[hg]at h2;simp only[lp,jN,se,List.dropLast_concat,beq_iff_eq]at h2;simp[s0,h2]
 ·rw[hd]at h3;simp only[aB,bR,bne_iff_ne,ne_eq]at h3;refine⟨fun q hq=>h3.1 q hq,fun t ch ht q hq=>?_⟩;simp only[s0,aa]at ht;subst ht;rcases ue (D:=D) (t:=t)with h | h
  ·rw[h]at hq;simp at hq
  ·exact h3.2 _ h q hq
theorem zU{D:List (Nat×List (Nat×Bool))}{p:Pi}:pG (s0 D) p=s0 (TU D p):=by
 funext t;simp only[pG,s0,TU];cases hd:p.d with
 | none=>simp
 | some d =>
  by_cases h:d=t
  ·subst h;simp[ou]
  ·have h2:(t==d)=false:=by simpa using fun e=>h e.symm
   simp[h,ou,NI,h2]
theorem Ng:∀ (gs:List Nat) (fr:List V) (t:Nat),(Dd gs fr)[t]?=if t∈gs then(fr[t]?).map (fun _=>V.u)else fr[t]?
 | [],fr,t=>by simp[Dd]
 | s::gs,fr,t=>by
  have ih:=Ng gs (fr.set s .u) t;simp only[Dd,cj]at ih ⊢;rw[ih]
  by_cases hs:s=t
  ·subst hs;simp only[aY,true_or,if_true];rw[Yi];split<;>cases fr[s]?<;>rfl
  ·rw[aO hs];have:(t∈s::gs)↔t∈gs:=by simp[Kh hs]
   simp only[this]
theorem zO.ends{w:World}{σ:ah}{μ:Mem}{fr:List V}{D:List (Nat×List (Nat×Bool))}{gs:List Nat}{a:Act}(h:zO w σ μ fr (s0 D) a)(hD:C9 D [] gs=true):FR w σ μ (Dd gs fr) a:=by
 refine⟨h.1,?_,fun t x hx=>?_⟩
 ·rw[h.2.1]
  have:∀ (gs:List Nat) (fr:List V),(Dd gs fr).length=fr.length:=by
   intro gs
   induction gs with
   | nil=>intro fr;rfl
   | cons s gs ih=>intro fr;simp only[Dd,cj]at ih ⊢;rw[ih];simp
  rw[this]
 ·rw[Ng]at hx;split at hx
  ·rw[ak]at hx;obtain⟨_,_,rfl⟩:=hx;exact .u _
  ·rename_i hgs;refine(h.2.2 t x hx _ rfl).1 ?_
   have:ou D t=[]:=by
    rcases ue (D:=D) (t:=t)with h | h
    ·exact h
    ·simp only[C9,bR]at hD;have:=hD _ h;simp only[fN,List.isEmpty_iff,List.contains_eq_mem,decide_eq_true_eq]at this;rcases this with h2 | h2
     ·exact h2
     ·exact absurd h2 hgs
   rw[this];simp[chainB]
def aaV(P:Program)(n B:Nat)(w0 w:World)(σ:ah)(μ:Mem)(K:Exit→St→Prop)(e:Exit)(a':Act)(w':World):Prop :=
 ∃ st' μ',K e st'∧gM P B w0 w' st'.σ μ'∧FR w' st'.σ μ' st'.fr a'∧fe n w σ μ w' st'.σ μ'
theorem wU{P:Program}{ops:Array Oper}{n B:Nat}{gs:List Nat}{w0 ws:World}{σs:ah}{μs:Mem}{K:St→Prop}{Q:Exit→Act→World→Prop}
  (hQ:∀ st w μ a,K st→gM P B w0 w st.σ μ→FR w st.σ μ st.fr a→fe n ws σs μs w st.σ μ→Q .normal a w) :
  ∀ (l:List Oper) (k:Nat) (ps:List Pi) (D:List (Nat×List (Nat×Bool))) (fr:List V) (σ:ah) (w:World) (μ:Mem) (a:Act),(∀ j,l[j]?=ops[k+j]?)→o5 P ops l=some ps→C9 D ps gs=true→jv P gs ps K ⟨fr,σ⟩ →
   gM P B w0 w σ μ→zO w σ μ fr (s0 D) a→fe n ws σs μs w σ μ →
   wpOps P ops Q ((List.range l.length).map (k+·)) a w
 | [],k,ps,D,fr,σ,w,μ,a,_,hc,hD,hr,hS,hF,hk=>by
  simp only[o5,aa]at hc;subst hc;exact hQ _ w μ a hr hS (hF.ends hD) hk
 | o::l,k,ps,D,fr,σ,w,μ,a,hl,hc,hD,hr,hS,hF,hk=>by
  simp only[o5]at hc;split at hc<;>simp only[aa,reduceCtorEq]at hc;rename_i p qs hp YV;subst hc;simp only[C9,aB]at hD;have ho:ops[k]?=some o:=by have:=hl 0;simpa using this.symm
  have e1:(List.range (o::l).length).map (k+·)=k::(List.range l.length).map (k+1+·):=by
   rw[ag,List.range_succ_eq_map,aW,rv];simp only[cn];congr 1;apply eN;intro x _;simp only[Function.comp];omega
  rw[e1];simp only[wpOps,ho];refine XR hp hS hF (D5 hD.1) hr ?_;intro r σ' μ' a' w' h1 h2 h3 h4;rw[zU]at h3;exact wU hQ l (k+1) qs _ _ _ w' μ' a' (fun j=>by have:=hl (j+1);rw[cc]at this;rw[this];congr 1;omega) YV hD.2 h1 h2 h3 (hk.trans h4.IC)
theorem FR.toI{w:World}{σ:ah}{μ:Mem}{fr:List V}{a:Act}(h:FR w σ μ fr a):zO w σ μ fr (s0 []) a :=
 ⟨h.1,h.2.1,fun t x hx ch vy=>by
  simp only[s0,ou,List.lookup_nil,NF,aa]at vy;subst vy;exact⟨fun _=>h.2.2 t x hx,fun h=>by simp[chainB]at h⟩⟩
def tb(bs:List Nat)(i j:Nat):Bool:=(bs.getD i 0).testBit j
def eB(pis:List Pi)(i:Nat):Pi:=pis.getD i ⟨none,[],.alloc 0 []⟩
def zZ(bs ls:List Nat)(i:Nat):Nat:=(ls.filter (tb bs i)).length
def lF(pis:List Pi)(bs:List Nat)(m:Nat)(ls:List Nat)(k:Nat):List Nat:=(List.range m).filter fun i=>(eB pis i).i.cx&&zZ bs ls i==k
def Nj(pis:List Pi)(bs:List Nat)(m:Nat)(ls:List Nat)(k L:Nat):List Nat :=
 (List.range m).filter fun i=>(eB pis i).i.cx&&((eB pis i).i.reads&&(decide (zZ bs ls i≤k)&&!tb bs L i))
def yH(pis:List Pi)(bs:List Nat)(m:Nat)(ls:List Nat):Nat→List Nat→List (List Pi×Pi×List Pi)
 | _,[]=>[]
 | k,L::r=>((lF pis bs m ls k).map (eB pis),eB pis L,(Nj pis bs m ls k L).map (eB pis))::yH pis bs m ls (k+1) r
def yt(p:Pi)(st:St):Prop :=
 match chainB st.fr p.g with
 | some c=>match p.d with
  | some d=>c=true→∃ ob,aS st.fr st.σ p.i=some (ob,st.fr.getD d .u)∧ob
  | none=>c=true→∃ ob r,aS st.fr st.σ p.i=some (ob,r)∧ob
 | none=>False
def px(P:Program):List (List Pi×Pi×List Pi)→List Pi→(St→Prop)→St→Prop
 | [],last,K,st=>jv P [] last K st
 | (C8,L,chk)::ds,last,K,st=>jv P [] C8 (fun st1=>gI P L (fun st2=>(∀ p∈chk,yt p st2)∧px P ds last K st2) st1) st
def looks(p:Pi):List Nat:=p.i.lS.map (·.1)++p.g.map (·.1)
def Fact(p:Pi)(fr:List V)(σ:ah):Prop :=
 ∃ c,chainB fr p.g=some c∧∃ r,ez fr p.d r=fr∧(c=true→∃ ob,aS fr σ p.i=some (ob,r)∧ob)
theorem KU{fr:List V}{t:Nat}{r:V}:fr.set t r=fr↔(t<fr.length→fr[t]?=some r):=by
 constructor
 ·intro h hl;rw[← h,aq hl]
 ·intro h;refine iw fun i=>?_
  by_cases hi:t=i
  ·subst hi;rw[Yi];rcases fM t fr.length with hl | hl
   ·rw[h hl];rfl
   ·rw[bo hl];rfl
  ·rw[aO hi]
theorem oa{fr:List V}{d:Option Nat}{r:V}:ez fr d r=fr↔∀ t,d=some t→t<fr.length→fr[t]?=some r:=by
 cases d with
 | none=>simp[ez]
 | some t=>simp only[ez,KU,aa];exact⟨fun h s hs=>hs▸h,fun h=>h t rfl⟩
theorem Ln{i:I}{x:O}(hx:x∈i.os){t:Nat}(ht:t∈x.slot):t∈i.lS.map (·.1):=by
 unfold I.lS;split
 ·rename_i c a b;simp only[I.os,aY,bK,or_false]at hx;rcases hx with rfl | rfl | rfl
  ·simp only[O.slot,nb]at ht;simp[ht]
  ·simp[ht]
  ·simp[ht]
 ·simp only[rv,dI,NH,Function.comp];exact⟨t,⟨x,hx,ht⟩,rfl⟩
theorem kI{fr fr':List V}:∀ {ch:List (Nat×Bool)},(∀ q∈ch,fr'[q.1]?=fr[q.1]?)→chainB fr' ch=chainB fr ch
 | [],_=>rfl
 | (t,b)::ch,h=>by
  have h0:fr'[t]?=fr[t]?:=h (t,b) (by simp);have ih:=kI (fr:=fr) (fr':=fr') (ch:=ch) fun q hq=>h q (by simp[hq]);simp only[chainB,ih,List.getD_eq_getElem?_getD,h0]
theorem vl{fr fr':List V}{σ:ah}{p:Pi}(h:∀ t∈p.i.lS.map (·.1),fr'[t]?=fr[t]?):aS fr' σ p.i=aS fr σ p.i :=
 vk fun x hx=>wv fun s hs=>by rw[List.getD_eq_getElem?_getD,List.getD_eq_getElem?_getD,h s (Ln hx hs)]
theorem Fact.agree{p:Pi}{fr fr':List V}{σ:ah}(h:Fact p fr σ)(hl:∀ t∈looks p,fr'[t]?=fr[t]?)(hd:∀ t,p.d=some t→fr'[t]?=fr[t]?)(hlen:fr'.length=fr.length):Fact p fr' σ:=by
 obtain⟨c,h1,r,h2,h3⟩:=h;refine⟨c,by rw[kI fun q hq=>hl q.1 (by simp only[looks,List.mem_append,dI];exact .inr ⟨q,hq,rfl⟩)];exact h1,r,?_,fun hc=>?_⟩
 ·rw[oa]at h2 ⊢;intro t ht eC;rw[hd t ht];exact h2 t ht (hlen▸eC)
 ·rw[vl fun t ht=>hl t (by simp only[looks,List.mem_append];exact .inl ht)];exact h3 hc
theorem Fact.still{p:Pi}{fr:List V}{σ σ':ah}(h:Fact p fr σ)(hr:p.i.reads=false):Fact p fr σ':=by
 obtain⟨c,h1,r,h2,h3⟩:=h;exact⟨c,h1,r,h2,fun hc=>by rw[← DU (σ:=σ) hr];exact h3 hc⟩
theorem yt.fact{p:Pi}{st:St}(h:yt p st):Fact p st.fr st.σ:=by
 unfold yt at h;split at h
 ·rename_i c hc;split at h
  ·rename_i d hd;refine⟨c,hc,_,?_,h⟩;rw[oa];intro t ht hl;rw[hd]at ht;simp only[aa]at ht;subst ht;rw[List.getD_eq_getElem?_getD,ao hl];rfl
  ·rename_i hd
   by_cases Ib:c=true
   ·obtain⟨ob,r,h1,h2⟩:=h Ib;exact⟨c,hc,r,by rw[hd];rfl,fun _=>⟨ob,h1,h2⟩⟩
   ·exact⟨c,hc,.u,by rw[hd];rfl,fun h=>absurd h Ib⟩
 ·exact h.elim
theorem JY{P:Program}{p:Pi}{K:St→Prop}{fr:List V}{σ:ah}(h:gI P p K ⟨fr,σ⟩)(hs:p.i.cx=true):
  ∃ c r,chainB fr p.g=some c∧K ⟨ez fr p.d r,σ⟩∧(c=true→∃ ob,aS fr σ p.i=some (ob,r)∧ob):=by
 have key:∀ K0,jn P p K0 ⟨fr,σ⟩→∃ r,K0 ⟨ez fr p.d r,σ⟩∧∃ ob,aS fr σ p.i=some (ob,r)∧ob:=by
  intro K0 h0;obtain⟨d,g,i⟩:=p;cases i<;>first | (simp[I.cx]at hs;done) | skip
  all_goals
   simp only[jn]at h0;split at h0
   ·rename_i ob v hv;exact⟨v,h0.2,ob,hv,h0.1⟩
   ·rw[sq (by simpa using hs)]at h0;exact h0.elim
 unfold gI at h;split at h
 ·rename_i hg;obtain⟨r,h1,h2⟩:=key _ h;exact⟨true,r,by rw[hg];rfl,h1,fun _=>h2⟩
 ·split at h
  ·rename_i c hc;obtain⟨r,h1,h2⟩:=xY h (fun f args e=>by rw[e]at hs;simp[I.cx]at hs) fun x args e=>by rw[e]at hs;simp[I.cx]at hs
   by_cases Ib:c=true
   ·obtain⟨r',h3,h4⟩:=key _ (h2 Ib);simp only[St.mk.injEq,and_true]at h3;subst Ib;refine⟨true,r',hc,?_,fun _=>h4⟩;rw[h3];exact h1
   ·exact⟨c,r,hc,h1,fun h=>absurd h Ib⟩
  ·exact h.elim
theorem tP{P:Program}{pis:List Pi}{K:St→Prop}{σ:ah}:∀ (l:List Nat) (fr:List V),jv P [] (l.map (eB pis)) K ⟨fr,σ⟩→(∀ i∈l,(eB pis i).i.cx=true) →
  l.Pairwise (fun i j=>∀ t,(eB pis j).d=some t→t ∉ looks (eB pis i)∧(eB pis i).d≠some t)→(∀ i∈l,∀ t,(eB pis i).d=some t→t ∉ looks (eB pis i)) →
  ∃ fr',K ⟨fr',σ⟩∧(∀ i∈l,Fact (eB pis i) fr' σ)∧(∀ t,(∀ i∈l,(eB pis i).d≠some t)→fr'[t]?=fr[t]?)∧fr'.length=fr.length
 | [],fr,h,_,_,_=>⟨fr,h,by simp,fun _ _=>rfl,rfl⟩
 | i::l,fr,h,hs,hp,s4=>by
  simp only[aW,jv]at h;obtain⟨c,r,h1,h2,h3⟩:=JY h (hs i (by simp));rw[dE]at hp;obtain⟨fr',h4,h5,h6,h7⟩:=tP l _ h2 (fun j hj=>hs j (by simp[hj])) hp.2 fun j hj=>s4 j (by simp[hj])
  have JP:∀ t∈looks (eB pis i),fr'[t]?=fr[t]?:=fun t ht=>by
   rw[h6 t fun j hj e=>(hp.1 j hj t e).1 ht];exact jt fun e=>s4 i (by simp) t e ht
  refine⟨fr',h4,fun j hj=>?_,fun t ht=>?_,by rw[h7,mA]⟩
  ·rcases aY.1 hj with rfl | hj
   ·refine⟨c,by rw[kI fun q hq=>JP q.1 (by simp only[looks,List.mem_append,dI];exact .inr ⟨q,hq,rfl⟩)];exact h1,r,?_,fun hc=>?_⟩
    ·rw[oa];intro t ht eC;rw[h6 t fun k hk e=>(hp.1 k hk t e).2 ht,ht];have:t<fr.length:=by rw[h7,mA]at eC;exact eC
     simp only[ez,aq this]
    ·rw[vl fun t ht=>JP t (by simp only[looks,List.mem_append];exact .inl ht)];exact h3 hc
   ·exact h5 j hj
  ·rw[h6 t fun j hj=>ht j (by simp[hj])];exact jt (ht i (by simp))
structure wz (ops:Array Oper) (pis:List Pi) (bs:List Nat) (m:Nat) (ls fl:List Nat):Prop where
 mn:m≤pis.length
 back:∀ i o,ops[i]?=some o→∀ e∈o.after,Region.binds .any e=true→e.on<i
 NQ:∀ (i j:Nat),i<pis.length→j<pis.length→tb bs i j=true→j<i∧∃ o,ops[i]?=some o∧∃ e∈o.after,Region.binds .any e=true∧(e.on=j∨tb bs e.on j=true)
 tail:∀ (i j:Nat),m≤i→i<pis.length→j<i→tb bs i j=true
 dst:∀ (i j:Nat) (t:Nat),i<m→j<m→(eB pis i).d=some t→(eB pis j).d=some t→i=j
 Ee:∀ (i:Nat),i<m→(eB pis i).i.cx=false→i∈ls∨i∈fl
 NL:∀ L∈ls,L<m∧(eB pis L).i.cx=false
 OC:∀ (j k L L':Nat),j<k→ls[j]?=some L'→ls[k]?=some L→tb bs L L'=true
 C8:∀ (i k L:Nat),i<m→(eB pis i).i.cx=true→ls[k]?=some L→(tb bs i L=true↔k<zZ bs ls i)
 slot:∀ (i:Nat) (s:Nat×List (Nat×Bool)) (j:Nat),i<m→s∈(eB pis i).i.lS→j<m→(eB pis j).d=some s.1→tb bs i j=true∧(eB pis j).g.isPrefixOf ((eB pis i).g++s.2)=true
 chain:∀ (i:Nat) (q:Nat×Bool),i<m→q∈(eB pis i).g→∃ j,j<m∧(eB pis j).d=some q.1∧tb bs i j=true
 last:∀ (i:Nat) (ch:List (Nat×Bool)) (t:Nat) (b:Bool) (j:Nat),i<m→(eB pis i).g=ch++[(t,b)]→j<m→(eB pis j).d=some t→(eB pis j).g=ch
 mono:∀ (i j t:Nat),i<m→(eB pis i).i.cx=true→j<m→(eB pis j).i.cx=true→(eB pis j).d=some t→t∈looks (eB pis i)→zZ bs ls j≤zZ bs ls i
theorem mg{P:Program}{ops:Array Oper}:∀ {l:List Oper} {ps:List Pi},o5 P ops l=some ps→ps.length=l.length∧∀ (i:Nat) (o:Oper),l[i]?=some o→∃ p,ps[i]?=some p∧TQ P ops o=some p
 | [],ps,h=>by simp only[o5,aa]at h;subst h;simp
 | o::l,ps,h=>by
  simp only[o5]at h;split at h<;>simp only[aa,reduceCtorEq]at h;rename_i p qs hp YV;subst h;obtain⟨h1,h2⟩:=mg YV;refine⟨by simp[h1],fun i o' ho=>?_⟩;cases i with
  | zero=>simp only[ax,aa]at ho;subst ho;exact⟨p,rfl,hp⟩
  | succ i=>exact h2 i o' (by simpa using ho)
abbrev jl(listed:Array Bool)(i:Nat):Prop:=listed.getD i false=true
theorem eH{listed:Array Bool}{i j:Nat}(hi:i<listed.size):jl (listed.setIfInBounds i true) j↔j=i∨jl listed j:=by
 simp only[jl,bm]
 by_cases h:i=j
 ·subst h;simp[hi]
 ·rw[dw h];simp[Kh h]
theorem pN{ops:Array Oper}{listed:Array Bool}{i:Nat}(hn:listed.size=ops.size)(h:i∈Region.ready .any ops listed):
  i<ops.size∧¬ jl listed i∧∃ o,ops[i]?=some o∧∀ e∈o.after,Region.binds .any e=true→jl listed e.on:=by
 obtain⟨h1,o,h2,h3⟩:=mem_ready.1 h;have hi:i<ops.size:=(bS.1 h2).1;refine⟨hi,?_,o,h2,h3⟩;simp only[jl,bm]at h1 ⊢;rw[Array.getElem?_eq_getElem (by rw[hn];exact hi)]at h1 ⊢;simp at h1 ⊢;exact h1
section
variable {P:Program} {ops:Array Oper} {pis:List Pi} {bs:List Nat} {m:Nat} {ls fl:List Nat}
theorem wz.ready(hX:wz ops pis bs m ls fl)(hn:pis.length=ops.size){listed:Array Bool}(fq:listed.size=ops.size)
  (hc:∀ i j,i<pis.length→j<pis.length→jl listed i→tb bs i j=true→jl listed j) {i:Nat} (h:i∈Region.ready .any ops listed) {j:Nat} (hj:j<pis.length) (ht:tb bs i j=true):jl listed j:=by
 obtain⟨h1,h2,o,h3,h4⟩:=pN fq h;obtain⟨h5,o',h6,e,h7,h8,h9⟩:=hX.NQ i j (by omega) hj ht;rw[h3]at h6;simp only[aa]at h6;subst h6;have Fv:=h4 e h7 h8;rcases h9 with rfl | h9
 ·exact Fv
 ·have:=hX.back i o h3 e h7 h8;exact hc e.on j (by omega) hj Fv h9
theorem wz.first(hX:wz ops pis bs m ls fl){listed:Array Bool}(fq:listed.size=ops.size)(h:Region.ready .any ops listed=[]):∀ i,i<ops.size→jl listed i:=by
 intro i
 induction i using Nat.strongRecOn with
 | ind i ih =>
  intro hi;refine bd fun hn=>?_
  have:i∈Region.ready .any ops listed:=by
   rw[mem_ready];refine⟨?_,ops[i],by simp[hi],fun e he hb=>?_⟩
   ·simp only[jl,bm]at hn ⊢;rw[Array.getElem?_eq_getElem (by rw[fq];exact hi)]at hn ⊢;simp at hn ⊢;exact hn
   ·have hl:=hX.back i ops[i] (by simp[hi]) e he hb;exact ih e.on hl (by omega)
  rw[h]at this;simp at this
theorem Ac{listed:Array Bool}(fq:listed.size=ops.size)(h:∀ i,i<ops.size→jl listed i):Region.ready .any ops listed=[]:=by
 refine bH.2 fun i hi=>?_;obtain⟨h1,h2,_⟩:=pN fq hi;exact h2 (h i h1)
theorem wI(hX:wz ops pis bs m ls fl)(hp:o5 P ops ops.toList=some pis){n B:Nat}{gs:List Nat}{w0 ws:World}{σs:ah}{μs:Mem}{K:St→Prop}{Q:Exit→Act→World→Prop}
  (hQ:∀ st w μ a,K st→gM P B w0 w st.σ μ→FR w st.σ μ st.fr a→fe n ws σs μs w st.σ μ→Q .normal a w) :
  ∀ (fuel q:Nat) (listed:Array Bool) (D:List (Nat×List (Nat×Bool))) (fr:List V) (σ:ah) (w:World) (μ:Mem) (a:Act),m≤q→q≤pis.length→listed.size=ops.size→(∀ i,i<pis.length→(jl listed i↔i<q))→pis.length - q≤fuel →
   C9 D (pis.drop q) gs=true→jv P gs (pis.drop q) K ⟨fr,σ⟩→gM P B w0 w σ μ→zO w σ μ fr (s0 D) a→fe n ws σs μs w σ μ→wpAny P .any ops Q fuel listed a w:=by
 have hn:pis.length=ops.size:=by rw[(mg hp).1,aL]
 intro fuel
 induction fuel with
 | zero =>
  intro q listed D fr σ w μ a hmq hq fq hl hf hD hr hS hF hk;have hq':q=pis.length:=by omega
  subst hq';rw[o8]at hD hr;refine wpAny_done (Ac fq fun i hi=>(hl i (by omega)).2 (by omega)) ?_ 0;exact hQ _ w μ a hr hS (hF.ends hD) hk
 | succ fuel ih =>
  intro q listed D fr σ w μ a hmq hq fq hl hf hD hr hS hF hk
  by_cases hq':q=pis.length
  ·subst hq';rw[o8]at hD hr;refine wpAny_done (Ac fq fun i hi=>(hl i (by omega)).2 (by omega)) ?_ _;exact hQ _ w μ a hr hS (hF.ends hD) hk
  ·have SO:q<pis.length:=by omega
   refine⟨fun h=>?_,fun i hi=>?_⟩
   ·have:=hX.first fq h q (by omega);rw[hl q SO]at this;omega
   ·obtain⟨h1,h2,o,h3,h4⟩:=pN fq hi
    have hiq:i=q:=by
     have h5:¬ i<q:=fun h=>h2 ((hl i (by omega)).2 h);refine bd fun js=>?_
     have h6:=hX.ready hn fq (fun i' j hi' hj hli ht=>by
      rw[hl i' hi']at hli;have:=(hX.NQ i' j hi' hj ht).1;exact(hl j hj).2 (by omega)) hi SO (hX.tail i q (by omega) (by omega) (by omega))
     rw[hl q SO]at h6;omega
    subst hiq;obtain⟨p,h5,h6⟩:=(mg hp).2 i o (by simpa using h3)
    have Xc:pis.drop i=p::pis.drop (i+1):=by
     rw[dM SO];congr 1;rw[ao SO]at h5;simpa using h5
    rw[Xc]at hD hr;simp only[C9,aB]at hD;simp only[wpOp,h3];refine XR h6 hS hF (D5 hD.1) hr ?_;intro r σ' μ' a' w' k1 k2 k3 k4;rw[zU]at k3;exact ih (i+1) _ _ _ σ' w' μ' a' (by omega) (by omega) (by simpa using fq) (fun j hj=>by rw[eH (by omega),hl j hj];omega) (by omega) hD.2 k1 k2 k3 (hk.trans k4.IC)
end
def lV(pis:List Pi)(m:Nat)(listed:Array Bool)(t:Nat):Option (List (Nat×Bool)) :=
 match (List.range m).find? (fun i=>(eB pis i).d==some t)with
 | none=>some []
 | some i=>if listed.getD i false then some (eB pis i).g else none
section
variable {P:Program} {ops:Array Oper} {pis:List Pi} {bs:List Nat} {m:Nat} {ls fl:List Nat}
theorem wz.wj(hX:wz ops pis bs m ls fl){listed:Array Bool}{i t:Nat}(hi:i<m)(hd:(eB pis i).d=some t):lV pis m listed t=if listed.getD i false then some (eB pis i).g else none:=by
 unfold lV;split
 ·rename_i h;rw[List.find?_eq_none]at h;exact absurd (h i (cK.2 hi)) (by simp[hd])
 ·rename_i j h;have h1:=yM h;have h2:=cK.1 (tD h);simp only[beq_iff_eq]at h1;rw[hX.dst j i t h2 hi h1 hd]
theorem zR{listed:Array Bool}{t:Nat}(h:∀ i,i<m→(eB pis i).d≠some t):lV pis m listed t=some []:=by
 unfold lV;split
 ·rfl
 ·rename_i j hj;have h1:=yM hj;have h2:=cK.1 (tD hj);simp only[beq_iff_eq]at h1;exact absurd h1 (h j h2)
theorem jZ{listed:Array Bool}{t:Nat}{ch:List (Nat×Bool)}(h:lV pis m listed t=some ch):
  (ch=[]∧∀ i,i<m→(eB pis i).d≠some t)∨∃ i,i<m∧(eB pis i).d=some t∧jl listed i∧ch=(eB pis i).g:=by
 unfold lV at h;split at h
 ·rename_i hf;rw[List.find?_eq_none]at hf;simp only[aa]at h;exact .inl ⟨h.symm,fun i hi hd=>hf i (cK.2 hi) (by simp[hd])⟩
 ·rename_i j hj;have h1:=yM hj;have h2:=cK.1 (tD hj);simp only[beq_iff_eq]at h1;split at h<;>simp only[aa,reduceCtorEq]at h;rename_i hl;exact .inr ⟨j,h2,h1,hl,h.symm⟩
theorem wz.ot(hX:wz ops pis bs m ls fl){i j t:Nat}(hi:i<m)(hj:j<m)(hd:(eB pis j).d=some t)(ht:t∈looks (eB pis i)):tb bs i j=true:=by
 simp only[looks,List.mem_append,dI]at ht;rcases ht with⟨s,hs,rfl⟩ | ⟨q,hq,rfl⟩
 ·exact(hX.slot i s j hi hs hj hd).1
 ·obtain⟨j',h1,h2,h3⟩:=hX.chain i q hi hq;rw[hX.dst j j' _ hj h1 hd h2];exact h3
theorem wz.lt(hX:wz ops pis bs m ls fl){i j:Nat}(hi:i<m)(hj:j<m)(h:tb bs i j=true):j<i :=
 (hX.NQ i j (dD hi hX.mn) (dD hj hX.mn) h).1
theorem wz.Wd(hX:wz ops pis bs m ls fl){listed:Array Bool}(hc:∀ i j,i<pis.length→j<pis.length→jl listed i→tb bs i j=true→jl listed j){i:Nat}(hi:i<m)(JJ:¬ jl listed i)
  (iE:∀ j,j<pis.length→tb bs i j=true→jl listed j):Fg (lV pis m listed) (eB pis i):=by
 have hm:=hX.mn;refine⟨fun s hs=>?_,fun ch t b hg=>?_,fun d hd=>⟨fun q hq e=>?_,fun t ch ht q hq e=>?_⟩⟩
 ·by_cases hw:∃ j,j<m∧(eB pis j).d=some s.1
  ·obtain⟨j,hj,hd⟩:=hw;have:=hX.slot i s j hi hs hj hd;have hl:=iE j (by omega) this.1;refine⟨(eB pis j).g,?_,this.2⟩;rw[hX.wj hj hd,hl];rfl
  ·exact⟨[],zR fun j hj hd=>hw ⟨j,hj,hd⟩,by simp⟩
 ·obtain⟨j,hj,hd,ht⟩:=hX.chain i (t,b) hi (by rw[hg];simp);rw[hX.wj hj hd,iE j (by omega) ht,hX.last i ch t b j hi hg hj hd];rfl
 ·obtain⟨j,hj,hd',ht⟩:=hX.chain i q hi hq;rw[e]at hd';have:=hX.dst i j d hi hj hd hd';subst this;have:=hX.lt hi hi ht;omega
 ·rcases jZ ht with⟨rfl,_⟩ | ⟨j,hj,yJ,hlj,rfl⟩
  ·simp at hq
  ·obtain⟨j2,Ub,hd2,YM⟩:=hX.chain j q hj hq;have Db:=hc j j2 (by omega) (by omega) hlj YM;rw[e]at hd2;have:=hX.dst i j2 d hi Ub hd hd2;subst this;exact JJ Db
theorem wz.pG(hX:wz ops pis bs m ls fl){listed:Array Bool}{i:Nat}(hi:i<m)(Uc:i<listed.size):pG (lV pis m listed) (eB pis i)=lV pis m (listed.setIfInBounds i true):=by
 funext t;simp only[Pm.pG]
 by_cases hd:(eB pis i).d=some t
 ·have:(listed.setIfInBounds i true).getD i false=true:=(eH Uc).2 (.inl rfl);rw[if_pos hd,hX.wj hi hd,this];rfl
 ·rw[if_neg hd];unfold lV;split
  ·rfl
  ·rename_i j hj;have h1:=yM hj;simp only[beq_iff_eq]at h1;have js:j≠i:=fun e=>hd (e▸h1)
   have:(listed.setIfInBounds i true).getD j false=listed.getD j false:=by
    have h2:=eH (listed:=listed) (j:=j) Uc;simp only[js,false_or,jl]at h2;cases h3:listed.getD j false<;>simp_all
   rw[this]
def rO(P:Program)(pis:List Pi)(bs:List Nat)(m:Nat)(ls:List Nat)(Kt:St→Prop)(k:Nat)(fr:List V)(σ:ah):Prop :=
 match ls[k]? with
 | some L=>gI P (eB pis L) (fun st2=>(∀ p∈(Nj pis bs m ls k L).map (eB pis),yt p st2)∧px P (yH pis bs m ls (k+1) (ls.drop (k+1))) ((lF pis bs m ls ls.length).map (eB pis)) Kt st2) ⟨fr,σ⟩
 | none=>Kt ⟨fr,σ⟩
theorem dG{k i:Nat}:i∈lF pis bs m ls k↔i<m∧(eB pis i).i.cx=true∧zZ bs ls i=k:=by
 simp[lF]
theorem wz.QL(hX:wz ops pis bs m ls fl){Kt:St→Prop}{k:Nat}(hk:k≤ls.length){fr:List V}{σ:ah}
  (h:px P (yH pis bs m ls k (ls.drop k)) ((lF pis bs m ls ls.length).map (eB pis)) Kt ⟨fr,σ⟩) :
  ∃ fr',rO P pis bs m ls Kt k fr' σ∧(∀ i∈lF pis bs m ls k,Fact (eB pis i) fr' σ)∧(∀ t,(∀ i∈lF pis bs m ls k,(eB pis i).d≠some t)→fr'[t]?=fr[t]?)∧fr'.length=fr.length:=by
 have QU:(lF pis bs m ls k).Pairwise (fun i j=>∀ t,(eB pis j).d=some t→t ∉ looks (eB pis i)∧(eB pis i).d≠some t):=by
  refine XP ?_ (List.Pairwise.filter _ aaX);intro i j hi hj eC t hd
  replace hi:=(dG (k:=k)).1 hi
  replace hj:=(dG (k:=k)).1 hj
  refine⟨fun ht=>?_,fun hd'=>?_⟩
  ·have:=hX.lt hi.1 hj.1 (hX.ot hi.1 hj.1 hd ht);omega
  ·have:=hX.dst i j t hi.1 hj.1 hd' hd;omega
 have s4:∀ i∈lF pis bs m ls k,∀ t,(eB pis i).d=some t→t ∉ looks (eB pis i):=fun i hi t hd ht=>by
  rw[dG]at hi;have:=hX.lt hi.1 hi.1 (hX.ot hi.1 hi.1 hd ht);omega
 have JK:∀ i∈lF pis bs m ls k,(eB pis i).i.cx=true:=fun i hi=>(dG.1 hi).2.1
 by_cases rG:k<ls.length
 ·have e:ls.drop k=ls[k]::ls.drop (k+1):=dM rG;rw[e]at h;simp only[yH,px]at h;obtain⟨fr',h1,h2,h3,h4⟩:=tP _ _ h JK QU s4;refine⟨fr',?_,h2,h3,h4⟩;simp only[rO,ao rG];exact h1
 ·have hk':k=ls.length:=by omega
  subst hk';rw[o8]at h;simp only[yH,px]at h;obtain⟨fr',h1,h2,h3,h4⟩:=tP _ _ h JK QU s4;refine⟨fr',?_,h2,h3,h4⟩;have e:ls[ls.length]?=none:=bo (aw _);simp only[rO,e];exact h1
def A3(n:Nat)(listed:Array Bool):Nat:=((List.range n).filter fun i=>!listed.getD i false).length
theorem Dx{n m:Nat}{listed:Array Bool}(hm:m≤n)(h:∀ i,m≤i→i<n→¬ jl listed i):n - m≤A3 n listed:=by
 have e:List.range n=List.range m++(List.range (n - m)).map (m+·):=by rw[← List.range_add];congr 1;omega
 unfold A3;rw[e,si,List.length_append]
 have:((List.range (n - m)).map (m+·)).filter (fun i=>!listed.getD i false)=(List.range (n - m)).map (m+·):=by
  rw[List.filter_eq_self];intro i hi;simp only[dI,cK]at hi;obtain⟨j,hj,rfl⟩:=hi;have:=h (m+j) (by omega) (by omega);simpa[jl]using this
 rw[this];simp
theorem G8{n:Nat}{listed:Array Bool}{i:Nat}(hi:i<n)(h:¬ jl listed i):0<A3 n listed:=by
 unfold A3;rw[List.length_pos_iff_exists_mem];exact⟨i,by simp only[qE,cK];exact⟨hi,by simpa[jl]using h⟩⟩
theorem G7{n:Nat}{listed:Array Bool}{i:Nat}(hi:i<n)(Uc:i<listed.size)(h:¬ jl listed i):A3 n (listed.setIfInBounds i true)+1≤A3 n listed:=by
 induction n with
 | zero=>omega
 | succ n ih =>
  have ex:∀ l:Array Bool,A3 (n+1) l=A3 n l+if l.getD n false then 0 else 1:=by
   intro l;unfold A3;rw[mw,si,List.length_append];congr 1;rw[o7];cases hl:l.getD n false<;>rfl
  rw[ex,ex]
  by_cases hn:i=n
  ·subst hn;have h1:(listed.setIfInBounds i true).getD i false=true:=(eH Uc).2 (.inl rfl);have h2:listed.getD i false=false:=by simpa[jl]using h
   rw[h1,h2]
   have:A3 i (listed.setIfInBounds i true)=A3 i listed:=by
    unfold A3;congr 1;refine List.filter_congr fun j hj=>?_;rw[cK]at hj;have h2:=eH (listed:=listed) (j:=j) Uc;have js:j≠i:=by omega
    simp only[js,false_or,jl]at h2;cases h3:listed.getD j false<;>simp_all
   simp[this]
  ·have h1:=ih (by omega);have h2:=eH (listed:=listed) (j:=n) Uc;have js:n≠i:=fun e=>hn e.symm;simp only[js,false_or,jl]at h2;have:(listed.setIfInBounds i true).getD n false=listed.getD n false:=by cases h3:listed.getD n false<;>simp_all
   rw[this];omega
def D0(pis:List Pi)(m:Nat):List (Nat×List (Nat×Bool)):=(List.range m).filterMap fun i=>(eB pis i).d.map fun d=>(d,(eB pis i).g)
theorem Ef{t:Nat}{x:List (Nat×Bool)}:∀ {D:List (Nat×List (Nat×Bool))},(∀ v,(t,v)∈D→v=x)→(∃ v,(t,v)∈D)→ou D t=x
 | [],_,h=>by obtain⟨v,hv⟩:=h;simp at hv
 | (s,v)::D,h,he=>by
  simp only[ou,NI]
  by_cases YJ:t=s
  ·subst YJ;simp[h v (by simp)]
  ·have h2:(t==s)=false:=by simpa using YJ
   rw[h2];refine Ef (D:=D) (fun v hv=>h v (by simp[hv])) ?_;obtain⟨v',hv'⟩:=he;rcases aY.1 hv' with e | hv'
   ·simp only[aA]at e;exact absurd e.1 YJ
   ·exact⟨v',hv'⟩
theorem wz.all(hX:wz ops pis bs m ls fl){listed:Array Bool}(h:∀ i,i<m→jl listed i):lV pis m listed=s0 (D0 pis m):=by
 funext t
 have Mw:∀ v,(t,v)∈D0 pis m↔∃ i,i<m∧(eB pis i).d=some t∧v=(eB pis i).g:=by
  intro v;simp only[D0,List.mem_filterMap,cK,ak,aA];constructor
  ·rintro⟨i,hi,d,hd,rfl,rfl⟩;exact⟨i,hi,hd,rfl⟩
  ·rintro⟨i,hi,hd,rfl⟩;exact⟨i,hi,t,hd,rfl,rfl⟩
 by_cases hw:∃ i,i<m∧(eB pis i).d=some t
 ·obtain⟨i,hi,hd⟩:=hw;rw[hX.wj hi hd,h i hi];simp only[if_true,s0,aa];refine(Ef (fun v hv=>?_) ⟨_,(Mw _).2 ⟨i,hi,hd,rfl⟩⟩).symm;obtain⟨j,hj,yJ,rfl⟩:=(Mw v).1 hv;rw[hX.dst i j t hi hj hd yJ]
 ·rw[zR fun i hi hd=>hw ⟨i,hi,hd⟩];simp only[s0,aa];rcases ue (D:=D0 pis m) (t:=t)with h1 | h1
  ·exact h1.symm
  ·obtain⟨i,hi,hd,_⟩:=(Mw _).1 h1;exact absurd ⟨i,hi,hd⟩ hw
end
theorem Ij{P:Program}{p:Pi}{fr:List V}{σ:ah}(h:Fact p fr σ):GI P p (fun st'=>st'=⟨fr,σ⟩) fr σ:=by
 obtain⟨c,h1,r,h2,h3⟩:=h;cases c with
 | false=>exact⟨false,h1,.inr ⟨rfl,r,by rw[h2]⟩⟩
 | true =>
  obtain⟨ob,h4,h5⟩:=h3 rfl;refine⟨true,h1,.inl ⟨rfl,fun st'=>st'=⟨fr,σ⟩,?_,fun _ h=>h⟩⟩;obtain⟨d,g,i⟩:=p;have hs:=sP h4;cases i<;>first | (simp[I.cx]at hs;done) | skip
  all_goals
   simp only[jn];simp only at h4 h2;rw[h4];exact⟨h5,by rw[h2]⟩
section
variable {P:Program} {ops:Array Oper} {pis:List Pi} {bs:List Nat} {m:Nat} {ls fl:List Nat}
theorem sO(hX:wz ops pis bs m ls fl)(hp:o5 P ops ops.toList=some pis){n B:Nat}{gs:List Nat}{w0 ws:World}{σs:ah}{μs:Mem}{K:St→Prop}{Q:Exit→Act→World→Prop}
  (hQ:∀ st w μ a,K st→gM P B w0 w st.σ μ→FR w st.σ μ st.fr a→fe n ws σs μs w st.σ μ→Q .normal a w) (ht:C9 (D0 pis m) (pis.drop m) gs=true) :
  ∀ (fuel k:Nat) (listed:Array Bool) (fr:List V) (σ:ah) (w:World) (μ:Mem) (a:Act),listed.size=ops.size→(∀ f∈fl,jl listed f) →
   (∀ i j,i<pis.length→j<pis.length→jl listed i→tb bs i j=true→jl listed j)→(∀ i,m≤i→i<pis.length→¬ jl listed i)→k≤ls.length →
   (∀ j L,ls[j]?=some L→(jl listed L↔j<k))→(∀ i,i<m→(eB pis i).i.cx=true→zZ bs ls i≤k→¬ jl listed i→Fact (eB pis i) fr σ) →
   rO P pis bs m ls (jv P gs (pis.drop m) K) k fr σ→A3 pis.length listed≤fuel →
   gM P B w0 w σ μ→zO w σ μ fr (lV pis m listed) a→fe n ws σs μs w σ μ→wpAny P .any ops Q fuel listed a w:=by
 have hn:pis.length=ops.size:=by rw[(mg hp).1,aL]
 have hm:=hX.mn;intro fuel
 induction fuel with
 | zero =>
  intro k listed fr σ w μ a fq vZ hc vW hk lC CB xS hu hS hF Gv;have Mo:∀ i,i<pis.length→jl listed i:=fun i hi=>bd fun h=>by have:=G8 hi h;omega
  have iE:∀ i,i<m→jl listed i:=fun i hi=>Mo i (by omega)
  have rG:k=ls.length:=by
   refine bd fun js=>?_;have eC:k<ls.length:=by omega
   have:=(lC k ls[k] (ao eC)).1 (iE _ (hX.NL _ (dj eC)).1);omega
  subst rG;have e:ls[ls.length]?=none:=bo (aw _);simp only[rO,e]at xS;rw[hX.all iE]at hF
  exact wI hX hp hQ 0 m listed _ fr σ w μ a (aw _) hm fq (fun i hi=>⟨fun h=>bd fun h2=>vW i (by omega) hi h,fun h=>iE i h⟩) (by
   have:=Dx hm vW;omega) ht xS hS hF Gv
 | succ fuel ih =>
  intro k listed fr σ w μ a fq vZ hc vW hk lC CB xS hu hS hF Gv
  by_cases iE:∀ i,i<m→jl listed i
  ·have rG:k=ls.length:=by
    refine bd fun js=>?_;have eC:k<ls.length:=by omega
    have:=(lC k ls[k] (ao eC)).1 (iE _ (hX.NL _ (dj eC)).1);omega
   subst rG;have e:ls[ls.length]?=none:=bo (aw _);simp only[rO,e]at xS;rw[hX.all iE]at hF
   exact wI hX hp hQ _ m listed _ fr σ w μ a (aw _) hm fq (fun i hi=>⟨fun h=>bd fun h2=>vW i (by omega) hi h,fun h=>iE i h⟩) (by
    have:=Dx hm vW;omega) ht xS hS hF Gv
  ·refine⟨fun h=>absurd (fun i hi=>hX.first fq h i (by omega)) iE,fun i hi=>?_⟩;obtain⟨hio,JJ,o,ho,_⟩:=pN fq hi;have Mz:i<pis.length:=by omega
   have Ax:∀ j,j<pis.length→tb bs i j=true→jl listed j:=fun j hj ht=>hX.ready hn fq hc hi hj ht
   have zn:i<m:=by
    refine bd fun h=>iE fun j hj=>?_;exact Ax j (by omega) (hX.tail i j (by omega) Mz (by omega))
   obtain⟨p,YX,Kq⟩:=(mg hp).2 i o (by simpa using ho);have nf:eB pis i=p:=by simp[eB,List.getD_eq_getElem?_getD,YX]
   have gC:Fg (lV pis m listed) p:=nf▸hX.Wd hc zn JJ Ax
   have hclos':∀ x j,x<pis.length→j<pis.length→jl (listed.setIfInBounds i true) x→tb bs x j=true→jl (listed.setIfInBounds i true) j:=by
    intro x j hx hj hl ht;rw[eH (by omega)]at hl ⊢;rcases hl with rfl | hl
    ·exact .inr (Ax j hj ht)
    ·exact .inr (hc x j hx hj hl ht)
   have htl':∀ x,m≤x→x<pis.length→¬ jl (listed.setIfInBounds i true) x:=by
    intro x hx YD hl;rw[eH (by omega)]at hl;rcases hl with rfl | hl
    ·omega
    ·exact vW x hx YD hl
   have hu':A3 pis.length (listed.setIfInBounds i true)≤fuel:=by
    have:=G7 Mz (by omega:i<listed.size) JJ;omega
   have SM:∀ x,x<m→(eB pis x).i.cx=true→(∀ j,j<pis.length→tb bs x j=true→jl listed j)→zZ bs ls x≤k:=by
    intro x hx hs hal';refine bd fun eC=>?_;have h1:zZ bs ls x≤ls.length:=kM _ _;have h2:k<ls.length:=by omega
    have h3:=(hX.C8 x k ls[k] hx hs (ao h2)).2 (by omega);have h4:=hal' ls[k] (by have:=(hX.NL _ (dj h2)).1;omega) h3;have:=(lC k ls[k] (ao h2)).1 h4;omega
   simp only[wpOp,ho]
   by_cases hs:p.i.cx=true
   ·
    have Cz:(eB pis i).i.cx=true:=by rw[nf];exact hs
    have hf:=CB i zn Cz (SM i zn Cz Ax) JJ;rw[nf]at hf;refine RG Kq hS hF gC (Ij hf) ?_;intro r σ' μ' a' w' k1 k2 k3 k4;simp only[St.mk.injEq]at k1;obtain⟨k1,rfl⟩:=k1;rw[k1]at k3;have e:pG (lV pis m listed) p=lV pis m (listed.setIfInBounds i true):=by rw[← nf];exact hX.pG zn (by omega)
    rw[e]at k3;refine ih k _ fr σ' w' μ' a' (by simpa using fq) (fun f hf=>(eH (by omega)).2 (.inr (vZ f hf))) hclos' htl' hk (fun j L hL=>?_) (fun x hx vw SJ wq=>CB x hx vw SJ fun h=>wq ((eH (by omega)).2 (.inr h))) xS hu' k2 k3 (Gv.trans k4.IC);rw[eH (by omega),lC j L hL]
    have:L≠i:=fun e=>by
     have:=(hX.NL L (aN hL)).2;rw[e,Cz]at this;simp at this
    simp[this]
   ·
    have Cz:(eB pis i).i.cx=false:=by rw[nf];simpa using hs
    obtain⟨j,hj⟩:=ee.1 ((hX.Ee i zn Cz).resolve_right fun h=>JJ (vZ i h))
    have NO:j=k:=by
     have h1:¬ j<k:=fun h=>JJ ((lC j i hj).2 h);refine bd fun js=>?_;have rk:=(ab.1 hj).1;have rG:k<ls.length:=by omega
     have h2:=hX.OC k j i ls[k] (by omega) (ao rG) hj;have h3:=Ax ls[k] (by have:=(hX.NL _ (dj rG)).1;omega) h2;have:=(lC k ls[k] (ao rG)).1 h3;omega
    subst NO;have rk:j<ls.length:=(ab.1 hj).1;simp only[rO,hj,nf]at xS;refine XR Kq hS hF gC xS ?_;intro r σ' μ' a' w' k1 k2 k3 k4;obtain⟨S7,dx⟩:=k1;obtain⟨fr',h1,h2,h3,h4⟩:=hX.QL (k:=j+1) (by omega) dx;have e:pG (lV pis m listed) p=lV pis m (listed.setIfInBounds i true):=by rw[← nf];exact hX.pG zn (by omega)
    rw[e]at k3
    have jQ:∀ x∈lF pis bs m ls (j+1),¬ jl (listed.setIfInBounds i true) x:=by
     intro x hx hl;rw[dG]at hx;rw[eH (by omega)]at hl;rcases hl with rfl | hl
     ·rw[Cz]at hx;simp at hx
     ·have:=SM x hx.1 hx.2.1 fun y hy ht=>hc x y (by omega) hy hl ht;omega
    have xX:∀ t y,y<m→(eB pis y).d=some t→jl (listed.setIfInBounds i true) y→fr'[t]?=(ez fr p.d r)[t]?:=by
     intro t y hy hd hl;refine h3 t fun x hx Wy=>jQ x hx ?_;rw[hX.dst x y t (dG.1 hx).1 hy Wy hd];exact hl
    have hF':zO w' σ' μ' fr' (lV pis m (listed.setIfInBounds i true)) a':=by
     refine⟨k3.1,by rw[h4];exact k3.2.1,fun t x hx ch vy=>?_⟩
     have NM:fr'[t]?=(ez fr p.d r)[t]?:=by
      rcases jZ vy with⟨_,rW⟩ | ⟨y,hy,hd,hl,_⟩
      ·exact h3 t fun x hx=>rW x (dG.1 hx).1
      ·exact xX t y hy hd hl
     have zt:chainB fr' ch=chainB (ez fr p.d r) ch:=by
      refine kI fun q hq=>?_;rcases jZ vy with⟨rfl,_⟩ | ⟨y,hy,hd,hl,rfl⟩
      ·simp at hq
      ·obtain⟨z,hz,YA,Yz⟩:=hX.chain y q hy hq;exact xX q.1 z hz YA (hclos' y z (by omega) (by omega) hl Yz)
     rw[zt];rw[NM]at hx;exact k3.2.2 t x hx ch vy
    refine ih (j+1) _ fr' σ' w' μ' a' (by simpa using fq) (fun f hf=>(eH (by omega)).2 (.inr (vZ f hf))) hclos' htl' (by omega) (fun y L hL=>?_) (fun x hx vw SJ wq=>?_) h1 hu' k2 hF' (Gv.trans k4.IC)
    ·rw[eH (by omega),lC y L hL];constructor
     ·rintro(rfl | h)
      ·refine bd fun js=>?_;have h5:=hX.OC j y L L (by omega) hj hL;have:=hX.lt zn zn h5;omega
      ·omega
     ·intro h;rcases fM y j with h5 | h5
      ·exact .inr h5
      ·have:y=j:=by omega
       subst this;rw[hL]at hj;simp only[aa]at hj;exact .inl hj
    ·by_cases T4:zZ bs ls x=j+1
     ·exact h2 x (dG.2 ⟨hx,vw,T4⟩)
     ·have hxj':zZ bs ls x≤j:=by omega
      have Md:¬ jl listed x:=fun h=>wq ((eH (by omega)).2 (.inr h));have SU:¬ tb bs i x=true:=fun h=>Md (Ax x (by omega) h)
      have PB:Fact (eB pis x) (ez fr p.d r) σ':=by
       by_cases hr:(eB pis x).i.reads=true
       ·exact(S7 (eB pis x) (dI.2 ⟨x,by simp[Nj,hx,vw,hr,hxj',SU],rfl⟩)).fact
       ·have hr':(eB pis x).i.reads=false:=by simpa using hr
        refine Fact.still (Fact.agree (CB x hx vw hxj' Md) (fun t ht=>?_) (fun t ht=>?_) mA) hr'
        ·refine jt fun hd=>?_;have h5:=hX.ot hx zn (nf▸hd) ht;have:=(hX.C8 x j i hx vw hj).1 h5;omega
        ·refine jt fun hd=>?_;have:=hX.dst x i t hx zn ht (nf▸hd);subst this;rw[vw]at Cz;simp at Cz
      refine Fact.agree PB (fun t ht=>?_) (fun t ht=>?_) h4
      ·refine h3 t fun y hy Pp=>?_;rw[dG]at hy;have:=hX.mono x y t hx vw hy.1 hy.2.1 Pp ht;omega
      ·refine h3 t fun y hy Pp=>?_;rw[dG]at hy;have:=hX.dst x y t hx hy.1 ht Pp;subst this;omega
end
def Ou(ops:Array Oper)(pis:List Pi)(bs:List Nat)(m:Nat)(ls fl:List Nat):Bool :=
 decide (m≤pis.length) &&
 (((List.range ops.size).all fun i=>match ops[i]? with
  | some o=>o.after.toList.all fun e=>!Region.binds .any e||decide (e.on<i)
  | none=>true) &&
 (((List.range pis.length).all fun i=>(List.range pis.length).all fun j=>!tb bs i j||(decide (j<i)&&match ops[i]? with
  | some o=>o.after.toList.any fun e=>Region.binds .any e&&(e.on==j||tb bs e.on j)
  | none=>false)) &&
 (((List.range pis.length).all fun i=>decide (i<m)||(List.range i).all fun j=>tb bs i j) &&
 (((List.range m).all fun i=>(List.range i).all fun j=>match (eB pis i).d with
  | none=>true
  | some t=>(eB pis j).d != some t) &&
 (((List.range m).all fun i=>(eB pis i).i.cx||(ls.contains i||fl.contains i)) &&
 ((ls.all fun L=>decide (L<m)&&!(eB pis L).i.cx) &&
 (((List.range ls.length).all fun k=>(List.range k).all fun j=>tb bs (ls.getD k 0) (ls.getD j 0)) &&
 (((List.range m).all fun i=>!(eB pis i).i.cx||(List.range ls.length).all fun k=>tb bs i (ls.getD k 0)==decide (k<zZ bs ls i)) &&
 (((List.range m).all fun i=>(eB pis i).i.lS.all fun s=>(List.range m).all fun j=>(eB pis j).d != some s.1||(tb bs i j&&(eB pis j).g.isPrefixOf ((eB pis i).g++s.2))) &&
 (((List.range m).all fun i=>(eB pis i).g.all fun q=>(List.range m).any fun j=>(eB pis j).d==some q.1&&tb bs i j) &&
 (((List.range m).all fun i=>match (eB pis i).g.getLast? with
  | none=>true
  | some q=>(List.range m).all fun j=>(eB pis j).d != some q.1||(eB pis j).g==(eB pis i).g.dropLast) &&
 ((List.range m).all fun i=>!(eB pis i).i.cx||(List.range m).all fun j=>!(eB pis j).i.cx||match (eB pis j).d with
  | none=>true
  | some t=>!(looks (eB pis i)).contains t||decide (zZ bs ls j≤zZ bs ls i)))))))))))))
section
variable {P:Program} {ops:Array Oper} {pis:List Pi} {bs:List Nat} {m:Nat} {ls fl:List Nat}
theorem CI{ls:List Nat}{k L:Nat}(h:ls[k]?=some L):ls.getD k 0=L:=by rw[List.getD_eq_getElem?_getD,h];rfl
theorem Ls(h:Ou ops pis bs m ls fl=true)(_hn:pis.length=ops.size):wz ops pis bs m ls fl:=by
 simp only[Ou,aB,bR,cK,decide_eq_true_eq]at h;obtain⟨h1,h2,h3,h4,h5,h6,h7,h8,h9,Fv,Fu,Td,Xl⟩:=h;constructor
 ·exact h1
 ·intro i o ho e he hb;have:=h2 i (bS.1 ho).1;rw[ho]at this;simp only[bR,fN,bU,decide_eq_true_eq]at this;rcases this e (Array.mem_toList_iff.2 he)with h | h
  ·rw[hb]at h;simp at h
  ·exact h
 ·intro i j hi hj ht;have:=h3 i hi j hj;rw[ht]at this;simp only[fH,jA,aB,decide_eq_true_eq]at this;refine⟨this.1,?_⟩;have h:=this.2;split at h
  ·rename_i o ho;simp only[wi,aB,fN,beq_iff_eq]at h;obtain⟨e,he,hb,YY⟩:=h;exact⟨o,ho,e,Array.mem_toList_iff.1 he,hb,YY⟩
  ·simp at h
 ·intro i j hmi hi hj;have:=h4 i hi;simp only[fN,decide_eq_true_eq,bR,cK]at this;rcases this with h | h
  ·omega
  ·exact h j hj
 ·intro i j t hi hj zq yJ
  have key:∀ i j,i<m→j<i→(eB pis i).d=some t→(eB pis j).d=some t→False:=by
   intro i j hi hj zq yJ;have:=h5 i hi j hj;rw[zq]at this;simp only[bne_iff_ne,ne_eq]at this;exact this yJ
  rcases Nat.lt_trichotomy i j with h | h | h
  ·exact(key j i hj h yJ zq).elim
  ·exact h
  ·exact(key i j hi h zq yJ).elim
 ·intro i hi hs;have:=h6 i hi;rw[hs]at this;simpa using this
 ·intro L hL;have:=h7 L hL;simpa using this
 ·intro j k L L' NO hL' hL;have:=h8 k (ab.1 hL).1 j NO
  rwa [CI hL,CI hL']at this
 ·intro i k L hi hs hL;have:=h9 i hi;rw[hs]at this;simp only[fH,jA,bR,cK,beq_iff_eq]at this;have:=this k (ab.1 hL).1;rw[CI hL]at this;rw[this];simp
 ·intro i s j hi hs hj hd;have:=Fv i hi s hs j hj;simp only[fN,bne_iff_ne,ne_eq,aB]at this;rcases this with h | h
  ·exact absurd hd h
  ·exact h
 ·intro i q hi hq;have:=Fu i hi q hq;simp only[wi,cK,aB,beq_iff_eq]at this;obtain⟨j,hj,h⟩:=this;exact⟨j,hj,h⟩
 ·intro i ch t b j hi hg hj hd;have:=Td i hi;rw[hg]at this;simp only[lp,jN,se,List.dropLast_concat,bR,cK,fN,bne_iff_ne,ne_eq,beq_iff_eq]at this;rcases this j hj with h | h
  ·exact absurd hd h
  ·exact h
 ·intro i j t hi hs hj hsj hd ht;have:=Xl i hi;rw[hs]at this;simp only[fH,jA,bR,cK]at this;have:=this j hj;rw[hsj,hd]at this;simp only[fH,jA,fN,bU,decide_eq_true_eq]at this;rcases this with h | h
  ·simp at h;exact absurd ht h
  ·exact h
def mX(bs:List Nat):Nat→Nat
 | 0=>0
 | i+1=>if bs.getD i 0==2^i - 1 then mX bs i else i+1
theorem sG{n B:Nat}{gs:List Nat}{K:St→Prop}{Q:Exit→Act→World→Prop}(hp:o5 P ops ops.toList=some pis)(gC:Ou ops pis bs m ls []=true)
  (ht:C9 (D0 pis m) (pis.drop m) gs=true) {fr:List V} {σ:ah} {w0 w:World} {μ:Mem} {a:Act}
  (h:px P (yH pis bs m ls 0 ls) ((lF pis bs m ls ls.length).map (eB pis)) (jv P gs (pis.drop m) K) ⟨fr,σ⟩)
  (hS:gM P B w0 w σ μ) (hF:FR w σ μ fr a)
  (hQ:∀ st' w' μ' a',K st'→gM P B w0 w' st'.σ μ'→FR w' st'.σ μ' st'.fr a'→fe n w σ μ w' st'.σ μ'→Q .normal a' w'):wpAny P .any ops Q ops.size (Array.replicate ops.size false) a { w with drawn:=w.drawn+1 }:=by
 have hn:pis.length=ops.size:=by rw[(mg hp).1,aL]
 have hX:=Ls gC hn;obtain⟨hS',EC⟩:=hS.grown (w':={ w with drawn:=w.drawn+1 }) ⟨rfl,rfl,rfl,aw _,fun _ _ _=>rfl⟩;have hF':=hF.eO EC.eO;obtain⟨fr',h1,h2,h3,h4⟩:=hX.QL (k:=0) (gF _) (by simpa using h)
 have pz:∀ i,¬ jl (Array.replicate ops.size false) i:=by
  intro i;simp only[jl,bm,uY];split<;>simp
 refine sO (n:=n) hX hp (fun st' w' μ' a' k1 k2 k3 k4=>hQ st' w' μ' a' k1 k2 k3 (fe.trans EC.eO.IC k4)) ht ops.size 0 _ fr' σ _ μ a (by simp) (by simp) (fun i j _ _ hl=>absurd hl (pz i)) (fun i _ _=>pz i) (gF _)
  (fun j L hL=>⟨fun hl=>absurd hl (pz L),fun h=>by omega⟩) (fun i hi hs SM _=>h2 i (dG.2 ⟨hi,hs,by omega⟩)) h1 (by rw[hn];unfold A3;exact bF (kM _ _) (by simp)) hS' ?_ (fe.refl _ _ _ _)
 refine⟨hF'.1,by rw[h4];exact hF'.2.1,fun t x hx ch vy=>?_⟩;rcases jZ vy with⟨rfl,rW⟩ | ⟨y,hy,hd,hl,_⟩
 ·rw[h3 t fun i hi=>rW i (dG.1 hi).1]at hx;exact⟨fun _=>hF'.2.2 t x hx,fun h=>by simp[chainB]at h⟩
 ·exact absurd hl (pz y)
theorem DN{id n B:Nat}{gs:List Nat}{K:St→Prop}{Q:Exit→Act→World→Prop}(hm:P.follows .mixedOrders=true)(hp:o5 P ops ops.toList=some pis)(gC:Ou ops pis bs m ls []=true)
  (ht:C9 (D0 pis m) (pis.drop m) gs=true) {fr:List V} {σ:ah} {w0 w:World} {μ:Mem} {a:Act}
  (h:px P (yH pis bs m ls 0 ls) ((lF pis bs m ls ls.length).map (eB pis)) (jv P gs (pis.drop m) K) ⟨fr,σ⟩)
  (hS:gM P B w0 w σ μ) (hF:FR w σ μ fr a)
  (hQ:∀ st' w' μ' a',K st'→gM P B w0 w' st'.σ μ'→FR w' st'.σ μ' st'.fr a'→fe n w σ μ w' st'.σ μ'→Q .normal a' w'):(Code.region id ops true).wp P Q a w :=
 wp_region_any hm (sG hp gC ht h hS hF hQ)
end
def CA(o:Oper)(j:Nat):Oper:={ o with after:=o.after.push { on:=j,ground:=.data } }
def waitsFor(ops:Array Oper)(i j:Nat):Array Oper:=ops.mapIdx fun k o=>if k=i then CA o j else o
theorem ix(ops:Array Oper)(i j:Nat):(waitsFor ops i j).size=ops.size:=by simp[waitsFor]
theorem oH(ops:Array Oper)(i j k:Nat):(waitsFor ops i j)[k]?=(ops[k]?).map fun o=>if k=i then CA o j else o:=by
 simp[waitsFor]
theorem gN{md:Region.Mode}{ops:Array Oper}{listed:Array Bool}{i j x:Nat}:x∈Region.ready md (waitsFor ops i j) listed↔x∈Region.ready md ops listed∧(x=i→listed.getD j false=true):=by
 simp only[Region.ready,qE,cK,ix,oH];rw[and_assoc];refine and_congr_right fun hx=>?_;have ho:ops[x]?=some ops[x]:=Array.getElem?_eq_getElem hx;simp only[ho,cg,lI]
 by_cases Kn:x=i
 ·subst Kn;have hb:Region.binds md { on:=j,ground:=Ground.data }=true:=rfl;simp only[if_true,CA,Array.all_push,hb,fH,jA,aB,forall_const];constructor
  ·rintro⟨h1,h2,h3⟩;exact⟨⟨h1,h2⟩,h3⟩
  ·rintro⟨⟨h1,h2⟩,h3⟩;exact⟨h1,h2,h3⟩
 ·simp only[Kn,if_false,false_imp_iff,and_true]
theorem yN(ops:Array Oper)(i j:Nat)(tmps:Array Value):yielded (waitsFor ops i j) tmps=yielded ops tmps:=by
 funext k;simp only[yielded,oH];cases ops[k]? with
 | none=>rfl
 | some o =>
  simp only[cg,fY]
  by_cases h:k=i<;>simp[h,CA]
section
variable {P:Program} {Q:Exit→Act→World→Prop}
theorem oG{ops:Array Oper}{i j x:Nat}{K:Act→World→Prop}{a:Act}{w:World}:wpOp P (waitsFor ops i j) Q x K a w↔wpOp P ops Q x K a w:=by
 simp only[wpOp,oH,yN];cases ops[x]? with
 | none=>exact Df
 | some o =>
  simp only[cg]
  by_cases h:x=i
  ·simp only[h,if_true];exact Df
  ·simp only[h,if_false]
def nn:Op→Bool
 | .move _ | .assign _ | .alloc _ | .box _ _ | .load _ _ | .store _ _ _ | .fieldAddr _ _ _=>true
 | _=>false
theorem FL{s:Sem Value}{w w':World}{n:Next}(h:(do pure (Next.value (← s)):Sem Next).run P w=.ok n w'):∃ v,n=.value v:=by
 rw[Sem.run_bind]at h;cases hs:s.run P w with
 | ok v w1 =>
  rw[hs]at h;simp only[Result.andThen_ok,Sem.run_pure,Result.ok.injEq]at h;exact⟨v,h.1.symm⟩
 | halt x w1=>rw[hs]at h;simp[Result.andThen]at h
theorem IL{s:Sem Unit}{w w':World}{n:Next}(h:(do s;pure Next.skip:Sem Next).run P w=.ok n w'):n=.skip:=by
 rw[Sem.run_bind]at h;cases hs:s.run P w with
 | ok v w1 =>
  rw[hs]at h;simp only[Result.andThen_ok,Sem.run_pure,Result.ok.injEq]at h;exact h.1.symm
 | halt x w1=>rw[hs]at h;simp[Result.andThen]at h
theorem GG{o:Oper}{ρ:Operand→Value}{w w':World}{n:Next}(hp:nn o.op=true)(h:(execOp ρ o).run P w=.ok n w'):(∃ v,n=.value v)∨n=.skip:=by
 obtain⟨d,op,t,p,af,g⟩:=o;simp only at hp;cases op<;>simp only[nn,aF]at hp
 all_goals simp only[execOp]at h
 all_goals first
  | exact .inl (FL h)
  | exact .inr (IL h)
  | (simp only[Sem.run_pure,Result.ok.injEq]at h;exact .inl ⟨_,h.1.symm⟩)
theorem Rn{o:Oper}(hp:nn o.op=true){a:Act}{w:World}{K1 K2:Act→World→Prop}(h1:o.wp P a w K1 Q)(h2:o.wp P a w K2 Q):o.wp P a w (fun a w=>K1 a w∧K2 a w) Q:=by
 unfold Oper.wp at *;generalize hr:(execOp a.eval o).run P w=r at *;cases r with
 | ok n w' =>
  rcases GG hp hr with⟨v,rfl⟩ | rfl
  ·exact⟨h1,h2⟩
  ·exact⟨h1,h2⟩
 | halt x w'=>cases x<;>simp only[Oper.upon]at h1 h2 ⊢<;>exact h1
theorem KB{ops:Array Oper}{x:Nat}(hp:∀ o,ops[x]?=some o→nn o.op=true){K1 K2:Act→World→Prop}{a:Act}{w:World}(h1:wpOp P ops Q x K1 a w)(h2:wpOp P ops Q x K2 a w):
  wpOp P ops Q x (fun a w=>K1 a w∧K2 a w) a w:=by
 unfold wpOp at *;cases ho:ops[x]? with
 | none=>simp only[ho]at h1 h2 ⊢;exact⟨h1,h2⟩
 | some o =>
  simp only[ho]at h1 h2 ⊢;split
  ·rename_i hw;simp only[hw,if_true]at h1 h2;rcases h1 with h1 | h1
   ·rcases h2 with h2 | h2
    ·exact .inl (Rn (hp o ho) h1 h2)
    ·exact .inr h2
   ·exact .inr h1
  ·rename_i hw;simp only[hw]at h1 h2;exact⟨h1,h2⟩
theorem pe{md:Region.Mode}{ops:Array Oper}{i j:Nat}:∀ (fuel:Nat) (listed:Array Bool) (a:Act) (w:World),listed.getD j false=true→wpAny P md (waitsFor ops i j) Q fuel listed a w→wpAny P md ops Q fuel listed a w:=by
 intro fuel
 induction fuel with
 | zero =>
  intro listed a w hj h;refine⟨?_,h.2⟩;refine bH.2 fun x hx=>?_;exact bH.1 h.1 x (gN.2 ⟨hx,fun _=>hj⟩)
 | succ fuel ih =>
  intro listed a w hj h;refine⟨fun hn=>h.1 (bH.2 fun x hx=>bH.1 hn x (gN.1 hx).1),fun x hx=>?_⟩;have:=h.2 x (gN.2 ⟨hx,fun _=>hj⟩);rw[oG]at this;refine wpOp_mono (fun a w hk=>ih _ a w ?_ hk) this;simp only[bm]at hj ⊢
  by_cases T4:x=j
  ·subst T4
   by_cases hs:x<listed.size
   ·simp[qG,hs]
   ·rw[nS (by omega)]at hj;simp at hj
  ·rw[dw T4];exact hj
theorem Dj{md:Region.Mode}{ops:Array Oper}{i j:Nat}(yI:i≠j)(hp:∀ x o,x≠i→x≠j→ops[x]?=some o→nn o.op=true):
  ∀ (fuel:Nat) (listed:Array Bool) (a:Act) (w:World),listed.size=ops.size→i<ops.size→j<ops.size→wpAny P md (waitsFor ops i j) Q fuel listed a w→wpAny P md (waitsFor ops j i) Q fuel listed a w→wpAny P md ops Q fuel listed a w:=by
 intro fuel
 induction fuel with
 | zero =>
  intro listed a w fq hi hj h1 h2;refine⟨?_,h1.2⟩;refine bH.2 fun x hx=>?_
  by_cases sj:x=i
  ·exact bH.1 h2.1 x (gN.2 ⟨hx,fun e=>absurd (sj.symm.trans e) yI⟩)
  ·exact bH.1 h1.1 x (gN.2 ⟨hx,fun e=>absurd e sj⟩)
 | succ fuel ih =>
  intro listed a w fq hi hj h1 h2;refine⟨fun hn=>h1.1 (bH.2 fun x hx=>bH.1 hn x (gN.1 hx).1),fun x hx=>?_⟩
  by_cases sj:x=i
  ·have:=h2.2 x (gN.2 ⟨hx,fun e=>absurd (sj.symm.trans e) yI⟩);rw[oG]at this;refine wpOp_mono (fun a w hk=>pe fuel _ a w ?_ hk) this;subst sj;simp[bm,qG,fq,hi]
  ·by_cases Au:x=j
   ·have:=h1.2 x (gN.2 ⟨hx,fun e=>absurd e sj⟩);rw[oG]at this;refine wpOp_mono (fun a w hk=>pe fuel _ a w ?_ hk) this;subst Au;simp[bm,qG,fq,hj]
   ·have k1:=h1.2 x (gN.2 ⟨hx,fun e=>absurd e sj⟩);have k2:=h2.2 x (gN.2 ⟨hx,fun e=>absurd e Au⟩);rw[oG]at k1 k2;refine wpOp_mono (fun a w hk=>ih _ a w (by simp[fq]) hi hj hk.1 hk.2) (KB (fun o ho=>hp x o sj Au ho) k1 k2)
end
def sw(i j k:Nat):Nat:=if k=i then j else if k=j then i else k
theorem wJ(i j k:Nat):sw i j (sw i j k)=k:=by
 simp only[sw]
 (repeat' split)<;>omega
theorem zW{i j k n:Nat}(hi:i<n)(hj:j<n):sw i j k<n↔k<n:=by
 simp only[sw]
 (repeat' split)<;>omega
def DM(i j:Nat)(o:Oper):Oper:={ o with after:=o.after.map fun e=>{ e with on:=sw i j e.on },guard:=o.guard.map fun g=>(sw i j g.1,g.2) }
def ni(ops:Array Oper)(i j:Nat):Array Oper:=ops.mapIdx fun k o=>DM i j ((ops[sw i j k]?).getD o)
theorem wK(ops:Array Oper)(i j:Nat):(ni ops i j).size=ops.size:=by simp[ni]
theorem tN{ops:Array Oper}{i j:Nat}(hi:i<ops.size)(hj:j<ops.size)(k:Nat):(ni ops i j)[k]?=(ops[sw i j k]?).map (DM i j):=by
 simp only[ni,Array.getElem?_mapIdx]
 by_cases hk:k<ops.size
 ·have qR:=(zW (k:=k) hi hj).2 hk;simp[Array.getElem?_eq_getElem hk,Array.getElem?_eq_getElem qR]
 ·have qR:¬ sw i j k<ops.size:=fun h=>hk ((zW hi hj).1 h);rw[nS (by omega),nS (by omega)];rfl
theorem Nq(md:Region.Mode)(e:Edge)(n:Nat):Region.binds md { e with on:=n }=Region.binds md e:=rfl
theorem wX{md:Region.Mode}{ops:Array Oper}{listed listed':Array Bool}{i j:Nat}(hi:i<ops.size)(hj:j<ops.size)(hL:∀ k d,listed'.getD k d=listed.getD (sw i j k) d){x:Nat}:
  x∈Region.ready md (ni ops i j) listed'↔sw i j x∈Region.ready md ops listed:=by
 simp only[Region.ready,qE,cK,wK,tN hi hj,zW hi hj,hL];refine and_congr_right fun hx=>?_;have Au:=(zW (k:=x) hi hj).2 hx;simp only[Array.getElem?_eq_getElem Au,cg,lI,DM,Array.all_map,Function.comp_def,Nq,hL,wJ]
theorem Fw{ops:Array Oper}{i j:Nat}(hi:i<ops.size)(hj:j<ops.size)(tmps:Array Value)(k:Nat):yielded (ni ops i j) tmps (sw i j k)=yielded ops tmps k:=by
 simp only[yielded,tN hi hj,wJ];cases ops[k]?<;>rfl
section
variable {P:Program} {Q:Exit→Act→World→Prop}
theorem NX{ops:Array Oper}{i j x:Nat}(hi:i<ops.size)(hj:j<ops.size){K:Act→World→Prop}{a:Act}{w:World}:wpOp P (ni ops i j) Q x K a w↔wpOp P ops Q (sw i j x) K a w:=by
 simp only[wpOp,tN hi hj];cases ops[sw i j x]? with
 | none=>exact Df
 | some o =>
  simp only[cg]
  have hw:Region.wanted (DM i j o) (yielded (ni ops i j) a.tmps)=Region.wanted o (yielded ops a.tmps):=by
   obtain⟨d,op,t,p,af,g⟩:=o;cases g with
   | none=>rfl
   | some g=>simp only[Region.wanted,DM,cg,Fw hi hj]
  rw[hw];exact Df
theorem KC{md:Region.Mode}{ops:Array Oper}{i j:Nat}(hi:i<ops.size)(hj:j<ops.size):∀ (fuel:Nat) (listed listed':Array Bool) (a:Act) (w:World),listed.size=ops.size→listed'.size=ops.size→(∀ k d,listed'.getD k d=listed.getD (sw i j k) d) →
  wpAny P md (ni ops i j) Q fuel listed' a w→wpAny P md ops Q fuel listed a w:=by
 intro fuel
 induction fuel with
 | zero =>
  intro listed listed' a w hs hs' hL h;refine⟨?_,h.2⟩;refine bH.2 fun x hx=>?_;exact bH.1 h.1 (sw i j x) ((wX hi hj hL).2 (by rw[wJ];exact hx))
 | succ fuel ih =>
  intro listed listed' a w hs hs' hL h;refine⟨fun hn=>h.1 (bH.2 fun x hx=>bH.1 hn _ ((wX hi hj hL).1 hx)),fun x hx=>?_⟩;have:=h.2 (sw i j x) ((wX hi hj hL).2 (by rw[wJ];exact hx));rw[NX hi hj,wJ]at this
  have wq:x<ops.size:=by
   simp only[Region.ready,qE,cK]at hx;exact hx.1
  refine wpOp_mono (fun a w hk=>ih _ _ a w (by simp[hs]) (by simp[hs']) (fun k d=>?_) hk) this;have h1:=hL k d;simp only[bm]at h1 ⊢;have Au:=(zW (k:=x) hi hj).2 wq
  by_cases hk:sw i j x=k
  ·subst hk;rw[wJ,AZ (by omega),AZ (by omega)]
  ·have qR:x≠sw i j k:=fun e=>hk (by rw[e,wJ]);rw[dw hk,dw qR];exact h1
theorem Bj{ops:Array Oper}{id i j:Nat}{a:Act}{w:World}(hm:P.follows .mixedOrders=true)(yI:i≠j)(hi:i<ops.size)(hj:j<ops.size)(hp:∀ x o,x≠i→x≠j→ops[x]?=some o→nn o.op=true)
  (h1:wpAny P .any (waitsFor ops j i) Q ops.size (Array.replicate ops.size false) a { w with drawn:=w.drawn+1 })
  (h2:wpAny P .any (ni (waitsFor ops i j) i j) Q ops.size (Array.replicate ops.size false) a { w with drawn:=w.drawn+1 }):(Code.region id ops true).wp P Q a w:=by
 refine wp_region_any hm (Dj yI hp _ _ _ _ (by simp) hi hj ?_ h1);refine KC (by rw[ix];exact hi) (by rw[ix];exact hj) _ _ _ _ _ (by simp[ix]) (by simp[ix]) (fun k d=>?_) h2;simp only[bm,uY,zW hi hj]
end
end Go.Pm

/- A part of the proof of the statement of the last text of this claim; its conditions stand there. -/
import Derived.Orders
import Derived.Test.YtkkjfegefckehaaGreatDoorB9
set_option linter.all false

namespace Go.Pm
open Go Go.RowKit
structure Pi where
 d:Option Nat
 g:List (Nat×Bool)
 i:I
def zm(d x:Nat):Pi:=⟨some d,[],.k6 (.t x)⟩
def zl(d x:Nat):Pi:=⟨some d,[],.load none (.t x)⟩
def zL(d k x:Nat):Pi:=⟨some d,[],.load (some k) (.t x)⟩
def zf(d o x:Nat):Pi:=⟨some d,[],.tE o (.t x)⟩
def z(d:Nat)(i:I):Pi:=⟨some d,[],i⟩
def zs(i:I):Pi:=⟨none,[],i⟩
def zC(ops:Array Oper):Nat→Option (Nat×Bool)→Option (List (Nat×Bool))
 | _,none=>some []
 | 0,some _=>none
 | f+1,some (j,b)=>match ops[j]? with
  | some o=>match o.dst,zC ops f o.guard with
   | some t,some ch=>some (ch++[(t,b)])
   | _,_=>none
  | none=>none
def cPi(P:Program)(ops:Array Oper)(o:Oper):Option Pi :=
 match zC ops 8 o.guard with
 | some g=>some ⟨o.dst,g,(compile P o).getD .stop⟩
 | none=>none
def qH(P:Program)(ops:Array Oper):List Oper→Option (List Pi)
 | []=>some []
 | o::os=>match cPi P ops o,qH P ops os with
  | some p,some ps=>some (p::ps)
  | _,_=>none
def fu(fr:List V):Option Nat→V→List V
 | none,_=>fr
 | some n,v=>fr.set n v
def PO(P:Program)(f:Nat):Bool:=match P.funcs[f]? with
 | some fn=>fn.body.isSome&&fn.name != "runtime.NumGoroutine"
 | none=>false
def lE(P:Program)(p:Pi)(K:St→Prop)(st:St):Prop :=
 match p.i with
 | .call f args=>PC P f (args.map (ev st.fr)) st.σ (fun r σ'=>K ⟨fu st.fr p.d r,σ'⟩)
 | .zD x args=>match ev st.fr x with
  | .fn f caps=>PO P f=true∧PC P f (args.map (ev st.fr)++caps) st.σ (fun r σ'=>K ⟨fu st.fr p.d r,σ'⟩)
  | _=>False
 | i=>match bm st.fr st.σ i with
  | some (ob,v)=>ob∧K ⟨fu st.fr p.d v,st.σ⟩
  | none=>match cE st.fr st.σ i with
   | some (ob,v,σ')=>ob∧K ⟨fu st.fr p.d v,σ'⟩
   | none=>False
theorem FR.put{w:World}{σ:ag}{μ:Mem}{fr:List V}{a:Act}(h:FR w σ μ fr a)(d:Option Nat){x:V}{v:Value}(hx:VR w σ μ x v):FR w σ μ (fu fr d x) (a.put d v):=by
 cases d with
 | none=>exact h
 | some n =>
  obtain⟨h1,h2,h3⟩:=h;refine⟨h1,by simp[Act.put,fu,h2],fun i y hy=>?_⟩;simp only[fu]at hy;simp only[Act.put]
  by_cases hi:n=i
  ·subst hi
   by_cases hl:n<fr.length
   ·rw[aF hl]at hy;simp only[aa]at hy;subst hy;have:n<a.tmps.size:=by omega
    simpa[this]using hx
   ·rw[bR (by simp;omega)]at hy;simp at hy
  ·rw[bn hi]at hy;have:=h3 i y hy;simp only[bN,ei hi]at this ⊢;exact this
theorem Na{P:Program}{o:Oper}{a:Act}{w:World}{f:Nat}{args:Array Operand}{ts:Array TypeId}{fn:Func}(ho:o.op=.call { callee:=.value (.func f),args,argTypes:=ts })(hf:P.funcs[f]?=some fn)(hb:fn.body.isSome=true)(hn:fn.name ≠ "runtime.NumGoroutine") :
  (execOp a.eval o).run P w=.ok (.enter f (args.map a.eval)) w:=by
 have h1:(fn.name == "runtime.NumGoroutine")=false:=by simpa using hn
 have h2:fn.body.isNone=false:=by cases hq:fn.body<;>simp_all
 simp only[execOp,ho,resolve,Act.eval,Deferred.ofValue,invoke,callFunc,Sem.run_bind,Sem.run_pure,Result.andThen_ok,run_program,hf,h1,h2,aD,if_false,Array.empty_append,Array.append_empty]
theorem La{P:Program}{o:Oper}{a:Act}{w:World}{t f:Nat}{args:Array Operand}{ts:Array TypeId}{vs:Array Value}(ho:o.op=.call { callee:=.value (.tmp t),args,argTypes:=ts })(hv:a.tmps.getD t undef=.func (.func f) #[] vs)(hf:PO P f=true):
  (execOp a.eval o).run P w=.ok (.enter f (args.map a.eval++vs)) w:=by
 unfold PO at hf;split at hf
 ·rename_i fn DC;simp only[aC,bne_iff_ne,ne_eq]at hf;have h1:(fn.name == "runtime.NumGoroutine")=false:=by simpa using hf.2
  have h2:fn.body.isNone=false:=by cases hq:fn.body<;>simp_all
  have he:a.eval (.tmp t)=.func (.func f) #[] vs:=hv;simp only[execOp,ho,resolve,he,Deferred.ofValue,invoke,callFunc,Sem.run_bind,Sem.run_pure,Result.andThen_ok,run_program,DC,h1,h2,aD,if_false,Array.empty_append]
 ·simp at hf
theorem Jm{P:Program}{o:Oper}{p:Pi}{K:St→Prop}{st:St}{B:Nat}{w0 w:World}{μ:Mem}{a:Act}(hc:compile P o=some p.i)(hd:o.dst=p.d)(h:lE P p K st)(hS:jw P B w0 w st.σ μ)(hF:FR w st.σ μ st.fr a){Q:Exit→Act→World→Prop}:
  o.wp P a w (fun a' w'=>∃ st' μ',K st'∧jw P B w0 w' st'.σ μ'∧FR w' st'.σ μ' st'.fr a'∧pG w st.σ μ w' st'.σ μ'∧(∃ v,a'=a.put o.dst v)∧∃ r,st'.fr=fu st.fr p.d r) Q:=by
 unfold lE at h;split at h
 ·
  rename_i f args hi;rw[hi]at hc;cases gl:o.op with
  | call c =>
   simp only[compile,gl]at hc;obtain⟨callee,args0,argTypes⟩:=c;unfold mW at hc;dsimp only at hc;split at hc
   ·split at hc<;>simp at hc
   ·split at hc<;>simp at hc
   ·split at hc<;>simp at hc
   ·split at hc<;>(try simp at hc;done);split at hc<;>(try simp at hc;done);split at hc<;>(try simp at hc;done);split at hc
    ·split at hc<;>simp at hc
    ·split at hc<;>(try simp at hc;done)
   ·rename_i f' e1;split at hc<;>(try simp only[reduceCtorEq]at hc);rename_i fn DC;split at hc<;>(try simp only[reduceCtorEq]at hc);rename_i kR;simp only[ar,I.call.injEq]at hc;obtain⟨ys,B9,rfl,rfl⟩:=hc;have eP:=Na (P:=P) (a:=a) (w:=w) gl DC kR.1 kR.2;unfold Oper.wp;rw[eP];simp only[Oper.upon];obtain⟨h1,h2⟩:=IJ hF _ _ B9;refine(h B w0 w μ (args0.map a.eval) hS ⟨by simp[h1],fun i y hy=>?_⟩).mono ?_
    ·have:=h2 i y hy;simpa[List.getD_eq_getElem?_getD]using this
    ·rintro e w' ⟨r,v,σ',μ',rfl,hK,hS',hv,hk⟩;refine⟨_,μ',hK,hS',?_,hk,⟨_,rfl⟩,_,rfl⟩;rw[hd];exact(hF.bY hk).put p.d hv
   ·simp at hc
   ·simp at hc
  | buildSlice T len parts =>
   exfalso;simp only[compile,gl]at hc
   (repeat' split at hc)<;>(try (simp only[reduceCtorEq]at hc;done))
   simp only[ar]at hc;obtain⟨xs,_,hx⟩:=hc;split at hx<;>simp at hx
  | _ =>
   exfalso;simp only[compile,gl]at hc
   (repeat' split at hc)<;>first | (simp at hc;done) | (simp_all;done)
 ·
  rename_i x args hi;split at h
  rotate_left
  ·exact h.elim
  rename_i f caps hx;obtain⟨fD,h⟩:=h;rw[hi]at hc;cases gl:o.op with
  | call c =>
   simp only[compile,gl]at hc;obtain⟨callee,args0,argTypes⟩:=c;unfold mW at hc;dsimp only at hc;split at hc
   ·split at hc<;>simp at hc
   ·split at hc<;>simp at hc
   ·split at hc<;>simp at hc
   ·split at hc<;>(try simp at hc;done);split at hc<;>(try simp at hc;done);split at hc<;>(try simp at hc;done);split at hc
    ·split at hc<;>simp at hc
    ·split at hc<;>(try simp at hc;done)
   ·split at hc<;>(try simp only[reduceCtorEq]at hc);split at hc<;>simp at hc
   ·rename_i t;simp only[ar,I.zD.injEq]at hc;obtain⟨ys,B9,rfl,rfl⟩:=hc;have hv:=hF.at t;simp only[ev]at hx;rw[hx]at hv;generalize hg:a.tmps.getD t undef=u at hv;cases hv with
    | fn _ _ vs hl Ic =>
     have eP:=La (P:=P) (a:=a) (w:=w) gl hg fD;unfold Oper.wp;rw[eP];simp only[Oper.upon];obtain⟨h1,h2⟩:=IJ hF _ _ B9;refine(h B w0 w μ (args0.map a.eval++vs) hS ⟨by simp[h1,hl],fun i y hy=>?_⟩).mono ?_
     ·rcases fV i (ys.map (ev st.fr)).length with fk | OA
      ·rw[aH fk]at hy;have h3:=h2 i y hy;have hia:i<args0.size:=by simpa[h1]using fk
       simpa[bN,ot,hia,List.getD_eq_getElem?_getD]using h3
      ·rw[aN OA]at hy;have h3:=Ic _ y hy;have hia:args0.size≤i:=by simpa[h1]using OA
       simpa[bN,Array.getElem?_append_right,hia,h1]using h3
     ·rintro e w' ⟨r,v,σ',μ',rfl,hK,hS',hv,hk⟩;refine⟨_,μ',hK,hS',?_,hk,⟨_,rfl⟩,_,rfl⟩;rw[hd];exact(hF.bY hk).put p.d hv
   ·simp at hc
  | buildSlice T len parts =>
   exfalso;simp only[compile,gl]at hc
   (repeat' split at hc)<;>(try (simp only[reduceCtorEq]at hc;done))
   simp only[ar]at hc;obtain⟨xs,_,hx⟩:=hc;split at hx<;>simp at hx
  | _ =>
   exfalso;simp only[compile,gl]at hc
   (repeat' split at hc)<;>first | (simp at hc;done) | (simp_all;done)
 ·rename_i i iQ KH;split at h
  ·rename_i ob v hp;obtain⟨ff,hK⟩:=h;obtain⟨u,w',hr,hg,hv⟩:=JS hc hF hS hp ff;obtain⟨hS',KF⟩:=hS.grown hg;unfold Oper.wp;rw[hr];simp only[Oper.upon];exact⟨_,μ,hK,hS',by rw[hd];exact(hF.bY KF.bY).put p.d hv,KF.bY,⟨_,rfl⟩,_,rfl⟩
  ·split at h
   ·rename_i ob v σ' hx;obtain⟨ff,hK⟩:=h;obtain⟨u,w',μ',hr,hS',hv,KF⟩:=IU hc hF hS hx ff;unfold Oper.wp;rcases hr with hr | ⟨hr,rfl⟩
    ·rw[hr];simp only[Oper.upon];exact⟨_,μ',hK,hS',by rw[hd];exact(hF.bY KF.bY).put p.d hv,KF.bY,⟨_,rfl⟩,_,rfl⟩
    ·rw[hr];simp only[Oper.upon];exact⟨_,μ',hK,hS',by rw[hd];exact(hF.bY KF.bY).put p.d (.u _),KF.bY,⟨_,rfl⟩,_,rfl⟩
   ·exact h.elim
def I.os:I→List O
 | .k6 x=>[x]
 | .pick c a b=>[c,a,b]
 | .box _ x=>[x]
 | .alloc _ _=>[]
 | .build _ parts=>parts.map (·.2.2)
 | .dj _ _ xs=>xs
 | .Nc _ _ _ _ xs=>xs
 | .load _ a=>[a]
 | .store _ _ a x=>[a,x]
 | .lF x=>[x]
 | .bin _ x y=>[x,y]
 | .beq _ _ x y=>[x,y]
 | .XA _ x y=>[x,y]
 | .un _ x=>[x]
 | .cvi _ x=>[x]
 | .ON x=>[x]
 | .slice _ x lo hi=>x::(lo.toList++hi.toList)
 | .sf x lo hi=>x::(lo.toList++hi.toList)
 | .tE _ x=>[x]
 | .idx _ x i=>[x,i]
 | .Jq x i=>[x,i]
 | .QW _ _ x i=>[x,i]
 | .asl _ x=>[x]
 | .ext _ x=>[x]
 | .len _ x=>[x]
 | .max2 x y=>[x,y]
 | .min2 x y=>[x,y]
 | .app _ _ _ x y=>[x,y]
 | .apps _ x y=>[x,y]
 | .mk _ _ _ _ l c=>[l,c]
 | .Dg _ _=>[]
 | .look _ _ _ m k=>[m,k]
 | .Kj _ _ m k x=>[m,k,x]
 | .ET x=>[x]
 | .call _ args=>args
 | .zD x args=>x::args
 | .Xw _ xs=>xs
 | .stop=>[]
def O.slot:O→List Nat
 | .t n=>[n]
 | .c _=>[]
def I.oZ:I→List (Nat×List (Nat×Bool))
 | .pick (.t c) a b=>(c,[])::(a.slot.map (·,[(c,true)])++b.slot.map (·,[(c,false)]))
 | i=>(i.os.flatMap O.slot).map (·,[])
def I.dh:I→Bool
 | .box _ _ | .alloc _ _ | .store _ _ _ _ | .app _ _ _ _ _ | .apps _ _ _ | .mk _ _ _ _ _ _ | .Nc _ _ _ _ _ | .Dg _ _ | .Kj _ _ _ _ _ | .call _ _ | .zD _ _ | .stop=>false
 | _=>true
def I.reads:I→Bool
 | .build _ _ | .dj _ _ _ | .load _ _ | .lF _ | .ON _ | .slice _ _ _ _ | .tE _ _ | .idx _ _ _ | .len _ _ | .ET _ | .look _ _ _ _ _=>true
 | _=>false
section
variable {fr fr':List V} {σ:ag}
theorem A9{i:I}(h:∀ x∈i.os,ev fr x=ev fr' x):bm fr σ i=bm fr' σ i:=by
 cases i with
 | build zs parts =>
  have h1:∀ p∈parts,ev fr p.2.2=ev fr' p.2.2:=fun p hp=>h _ (bK.2 ⟨p,hp,rfl⟩)
  have e1:(parts.map fun(off,sz,x)=>(off,sz,fI (ev fr x)))=parts.map fun(off,sz,x)=>(off,sz,fI (ev fr' x)) :=
   dE fun p hp=>by
    have h2:=h1 p hp;obtain⟨a,b,c⟩:=p;simp only at h2 ⊢;rw[h2]
  have e2:(∀ p∈parts,hY σ (ev fr p.2.2)=true)=(∀ p∈parts,hY σ (ev fr' p.2.2)=true) :=
   propext ⟨fun k p hp=>h1 p hp▸k p hp,fun k p hp=>(h1 p hp).symm▸k p hp⟩
  simp only[bm,e1,e2]
 | dj sz szs xs =>
  have h1:∀ p∈xs,ev fr p=ev fr' p:=fun p hp=>h _ hp
  have e1:(xs.map fun x=>dw szs (fI (ev fr x)))=xs.map fun x=>dw szs (fI (ev fr' x)) :=
   dE fun p hp=>by rw[h1 p hp]
  have e2:(∀ p∈xs,hY σ (ev fr p)=true)=(∀ p∈xs,hY σ (ev fr' p)=true) :=
   propext ⟨fun k p hp=>h1 p hp▸k p hp,fun k p hp=>(h1 p hp).symm▸k p hp⟩
  simp only[bm,e1,e2]
 | slice sz x lo hi =>
  have hx:=h x (by simp[I.os]);have hl:∀ y,lo=some y→ev fr y=ev fr' y:=fun y hy=>h y (by simp[I.os,hy]);have hh:∀ y,hi=some y→ev fr y=ev fr' y:=fun y hy=>h y (by simp[I.os,hy]);cases lo<;>cases hi<;>simp_all [bm]
 | sf x lo hi =>
  have hx:=h x (by simp[I.os]);have hl:∀ y,lo=some y→ev fr y=ev fr' y:=fun y hy=>h y (by simp[I.os,hy]);have hh:∀ y,hi=some y→ev fr y=ev fr' y:=fun y hy=>h y (by simp[I.os,hy]);cases lo<;>cases hi<;>simp_all [bm]
 | len str x =>
  have hx:=h x (by simp[I.os]);cases str<;>simp only[bm,hx]
 | _=>simp_all [bm,I.os]
theorem IV{i:I}(h:∀ x∈i.os,ev fr x=ev fr' x):cE fr σ i=cE fr' σ i:=by
 cases i<;>simp_all [cE,I.os]
theorem JR{σ':ag}{i:I}(h:i.reads=false):bm fr σ i=bm fr σ' i:=by
 cases i<;>simp_all [bm,I.reads]
theorem yO{i:I}{r:Prop×V}(h:bm fr σ i=some r):i.dh=true:=by
 cases i<;>simp_all [bm,I.dh]
theorem yg{i:I}(h:i.dh=true):cE fr σ i=none:=by
 cases i<;>simp_all [cE,I.dh]
end
def chainB(fr:List V):List (Nat×Bool)→Option Bool
 | []=>some true
 | (t,b)::r=>match fr.getD t .u with
  | .b x=>match chainB fr r with
   | some y=>some ((x==b)&&y)
   | none=>none
  | _=>none
theorem Bw{fr:List V}:∀ {ch:List (Nat×Bool)},chainB fr ch=some true↔∀ p∈ch,fr.getD p.1 .u=.b p.2
 | []=>by simp[chainB]
 | (t,b)::r=>by
  have ih:=Bw (fr:=fr) (ch:=r);simp only[chainB,aU,forall_eq_or_imp];rw[← ih];split
  ·rename_i x hx;split
   ·rename_i y hy;rw[hx,hy];cases x<;>cases b<;>cases y<;>simp
   ·rename_i hy;simp[hy]
  ·rename_i hx;simp only[reduceCtorEq,false_iff,not_and];intro h;exact absurd h (hx b)
theorem Fi{fr:List V}{a b:List (Nat×Bool)}(h:chainB fr b=some true)(hp:a.isPrefixOf b=true):chainB fr a=some true:=by
 rw[Bw]at *;exact fun p hp'=>h p ((List.isPrefixOf_iff_prefix.1 hp).subset hp')
theorem rn{fr:List V}:∀ {a b:List (Nat×Bool)},chainB fr (a++b)=match chainB fr a,chainB fr b with
  | some x,some y=>some (x&&y)
  | _,_=>none
 | [],b=>by simp only[ak,chainB];cases chainB fr b<;>simp
 | (t,w)::r,b=>by
  simp only[aq,chainB,rn (a:=r) (b:=b)];cases fr.getD t .u<;>simp;cases chainB fr r<;>cases chainB fr b<;>simp[Bool.and_assoc]
theorem TF{fr:List V}{n m:Nat}{x y:V}(h:n≠m):(fr.set n x).getD m y=fr.getD m y:=by
 simp[List.getD_eq_getElem?_getD,bn h]
theorem vj{fr:List V}{d:Option Nat}{r:V}:∀ {ch:List (Nat×Bool)},(∀ p∈ch,d≠some p.1)→chainB (fu fr d r) ch=chainB fr ch
 | [],_=>by simp[chainB]
 | (t,b)::ch,h=>by
  have ih:=vj (fr:=fr) (d:=d) (r:=r) (ch:=ch) fun p hp=>h p (by simp[hp]);have h0:=h (t,b) (by simp);simp only[chainB,ih];cases d with
  | none=>rfl
  | some n =>
   have:n≠t:=fun e=>h0 (by simp[e]);simp only[fu,TF this]
def Bm(P:Program)(p:Pi)(c:Bool)(K:St→Prop)(st:St):Prop :=
 match p.i with
 | .call f args=>(c=true→PC P f (args.map (ev st.fr)) st.σ (fun r' σ'=>K ⟨fu st.fr p.d r',σ'⟩))∧(c=false→∃ r,K ⟨fu st.fr p.d r,st.σ⟩)
 | .load k a=>match ev st.fr a with
  | .ptr _ _=>match bm st.fr st.σ (.load k a)with
   | some (ob,v)=>(c=true→ob)∧K ⟨fu st.fr p.d v,st.σ⟩
   | none=>False
  | _=>∃ v,(c=true→∃ ob,bm st.fr st.σ (.load k a)=some (ob,v)∧ob)∧K ⟨fu st.fr p.d v,st.σ⟩
 | i=>match bm st.fr st.σ i with
  | some (ob,v)=>(c=true→ob)∧K ⟨fu st.fr p.d v,st.σ⟩
  | none=>False
def gI(P:Program)(p:Pi)(K:St→Prop)(st:St):Prop :=
 match p.g with
 | []=>lE P p K st
 | _::_=>match chainB st.fr p.g with
  | some c=>Bm P p c K st
  | none=>False
theorem DG{P:Program}{p:Pi}{c:Bool}{K:St→Prop}{st:St}(h:Bm P p c K st)(hn:∀ f args,p.i≠.call f args):
  ∃ r,K ⟨fu st.fr p.d r,st.σ⟩∧(c=true→lE P p (fun st'=>st'=⟨fu st.fr p.d r,st.σ⟩) st):=by
 obtain⟨d,g,i⟩:=p;cases i with
 | call f args=>exact absurd rfl (hn f args)
 | load k a =>
  simp only[Bm]at h;split at h
  ·split at h
   ·rename_i ob v hp;exact⟨v,h.2,fun hc=>by simp only[lE,hp];exact⟨h.1 hc,trivial⟩⟩
   ·exact h.elim
  ·obtain⟨v,h1,h2⟩:=h;refine⟨v,h2,fun hc=>?_⟩;obtain⟨ob,h3,h4⟩:=h1 hc;simp only[lE,h3];exact⟨h4,trivial⟩
 | zD x args=>simp[Bm,bm]at h
 | _ =>
  simp only[Bm]at h;split at h
  ·rename_i ob v hp;exact⟨v,h.2,fun hc=>by simp only[lE,hp];exact⟨h.1 hc,trivial⟩⟩
  ·exact h.elim
theorem Ce{fr fr':List V}{x:O}(h:∀ s∈x.slot,fr.getD s .u=fr'.getD s .u):ev fr x=ev fr' x:=by
 cases x with
 | t n=>exact h n (by simp[O.slot])
 | c v=>rfl
theorem Ry{P:Program}{p:Pi}{K:St→Prop}{fr fr':List V}{σ:ag}(h:∀ x∈p.i.os,ev fr x=ev fr' x)(hs:lE P p K ⟨fr,σ⟩):
  lE P p (fun st'=>∃ r,st'.fr=fu fr' p.d r∧K ⟨fu fr p.d r,st'.σ⟩) ⟨fr',σ⟩:=by
 obtain⟨d,g,i⟩:=p
 by_cases u1:∃ f args,i=.call f args
 ·obtain⟨f,args,rfl⟩:=u1;have e:args.map (ev fr)=args.map (ev fr'):=dE fun x hx=>h x hx;simp only[lE]at hs ⊢;rw[← e];exact hs.mono fun r σ' hk=>⟨r,rfl,hk⟩
 by_cases Tt:∃ x args,i=.zD x args
 ·obtain⟨x,args,rfl⟩:=Tt;have e:args.map (ev fr)=args.map (ev fr'):=dE fun y hy=>h y (by simp[I.os,hy]);have e2:=h x (by simp[I.os]);simp only[lE]at hs ⊢;rw[← e,← e2];split at hs
  ·exact⟨hs.1,hs.2.mono fun r σ' hk=>⟨r,rfl,hk⟩⟩
  ·exact hs.elim
 ·have e1:=A9 (σ:=σ) h;have e2:=IV (σ:=σ) h
  have key:∀ (fr0:List V) (K0:St→Prop),lE P ⟨d,g,i⟩ K0 ⟨fr0,σ⟩=match bm fr0 σ i with
    | some (ob,v)=>ob∧K0 ⟨fu fr0 d v,σ⟩
    | none=>match cE fr0 σ i with
     | some (ob,v,σ')=>ob∧K0 ⟨fu fr0 d v,σ'⟩
     | none=>False:=by
   intro fr0 K0;cases i<;>first | rfl | (exfalso;exact u1 ⟨_,_,rfl⟩) | (exfalso;exact Tt ⟨_,_,rfl⟩)
  simp only at e1 e2;rw[key]at hs ⊢;rw[← e1,← e2];split at hs
  ·exact⟨hs.1,_,rfl,hs.2⟩
  ·split at hs
   ·exact⟨hs.1,_,rfl,hs.2⟩
   ·exact hs.elim
theorem Jn{P:Program}{p:Pi}{K:St→Prop}{fr fr':List V}{σ:ag}(h:∀ s∈p.i.oZ,chainB fr s.2=some true→fr.getD s.1 .u=fr'.getD s.1 .u)(hs:lE P p K ⟨fr,σ⟩):
  lE P p (fun st'=>∃ r,st'.fr=fu fr' p.d r∧K ⟨fu fr p.d r,st'.σ⟩) ⟨fr',σ⟩:=by
 by_cases hp:∃ c a b,p.i=.pick (.t c) a b
 ·obtain⟨c,x,y,hi⟩:=hp;obtain⟨d,g,i⟩:=p;simp only at hi;subst hi;have hc:fr.getD c .u=fr'.getD c .u:=h (c,[]) (by simp[I.oZ]) (by simp[chainB]);have hx:fr.getD c .u=.b true→ev fr x=ev fr' x:=fun hb=>Ce fun s hs'=>h (s,[(c,true)]) (by simp[I.oZ,hs']) (by simp only[chainB,hb];rfl);have hy:fr.getD c .u=.b false→ev fr y=ev fr' y:=fun hb=>Ce fun s hs'=>h (s,[(c,false)]) (by simp[I.oZ,hs']) (by simp only[chainB,hb];rfl);simp only[lE,bm,ev]at hs ⊢;rw[← hc];split at hs
  ·rename_i ob v hq;split at hq
   ·rename_i b hb;simp only[aa,aI]at hq;obtain⟨rfl,rfl⟩:=hq;refine⟨trivial,_,rfl,?_⟩
    have e:(match ev fr x,ev fr y with
      | .b p,.b q=>V.b (bif b then p else q)
      | p,q=>bif b then p else q)=(match ev fr' x,ev fr' y with
      | .b p,.b q=>V.b (bif b then p else q)
      | p,q=>bif b then p else q):=by
     have gen:∀ p q:V,(match p,q with
      | .b p,.b q=>V.b (bif b then p else q)
      | p,q=>bif b then p else q)=bif b then p else q:=by
      intro p q;cases b<;>cases p<;>cases q<;>rfl
     rw[gen,gen];cases b
     ·simp only[cond_false];exact hy hb
     ·simp only[cond_true];exact hx hb
    exact Eq.mp (congrArg (fun v=>K ⟨fu fr d v,σ⟩) e) hs.2
   ·simp at hq
  ·rename_i hq;split at hq
   ·simp at hq
   ·simp only[cE]at hs
 ·refine Ry (fun x hx=>Ce fun s hs'=>h (s,[]) ?_ (by simp[chainB])) hs
  have:p.i.oZ=(p.i.os.flatMap O.slot).map (·,[]):=by
   unfold I.oZ;split
   ·rename_i c a b hi;exact absurd ⟨c,a,b,hi⟩ hp
   ·rfl
  rw[this];exact bK.2 ⟨s,List.mem_flatMap.2 ⟨x,hx,hs'⟩,rfl⟩
def Fo(w:World)(σ:ag)(μ:Mem)(fr:List V)(inf:Nat→Option (List (Nat×Bool)))(a:Act):Prop :=
 a.defers=[]∧a.tmps.size=fr.length∧∀ t x,fr[t]?=some x→∀ ch,inf t=some ch →
  (chainB fr ch=some true→VR w σ μ x (a.tmps.getD t undef))∧(chainB fr ch=some false→a.tmps.getD t undef=undef)
def XQ(inf:Nat→Option (List (Nat×Bool)))(fr:List V):List V:=fr.mapIdx fun t x=>match inf t with
 | some ch=>if chainB fr ch=some true then x else .u
 | none=>.u
theorem Fo.mask{w:World}{σ:ag}{μ:Mem}{fr:List V}{inf:Nat→Option (List (Nat×Bool))}{a:Act}(h:Fo w σ μ fr inf a):FR w σ μ (XQ inf fr) a:=by
 refine⟨h.1,by simp[XQ,h.2.1],fun t x hx=>?_⟩;simp only[XQ,List.getElem?_mapIdx,ar]at hx;obtain⟨y,hy,rfl⟩:=hx;split
 ·rename_i ch Bl;split
  ·rename_i hc;exact(h.2.2 t y hy ch Bl).1 hc
  ·exact .u _
 ·exact .u _
theorem YX{inf:Nat→Option (List (Nat×Bool))}{fr:List V}{t:Nat}{ch:List (Nat×Bool)}(hi:inf t=some ch)(hc:chainB fr ch=some true):(XQ inf fr).getD t .u=fr.getD t .u:=by
 simp only[XQ,List.getD_eq_getElem?_getD,List.getElem?_mapIdx,hi,hc,if_true];cases fr[t]?<;>rfl
structure Lo (inf:Nat→Option (List (Nat×Bool))) (p:Pi):Prop where
 oZ:∀ s∈p.i.oZ,∃ ch,inf s.1=some ch∧ch.isPrefixOf (p.g++s.2)=true
 guard:∀ ch t b,p.g=ch++[(t,b)]→inf t=some ch
 fresh:∀ d,p.d=some d→(∀ q∈p.g,q.1≠d)∧∀ t ch,inf t=some ch→∀ q∈ch,q.1≠d
def tS(inf:Nat→Option (List (Nat×Bool)))(p:Pi):Nat→Option (List (Nat×Bool)):=fun t=>if p.d=some t then some p.g else inf t
theorem Ps{a:Act}{d:Option Nat}{v:Value}{t:Nat}(h:d≠some t):(a.put d v).tmps.getD t undef=a.tmps.getD t undef:=by
 cases d with
 | none=>rfl
 | some n =>
  have hn:n≠t:=fun e=>h (by simp[e]);simp only[Act.put,bN,ei hn]
theorem JN{a:Act}{v:Value}{t:Nat}(h:t<a.tmps.size):(a.put (some t) v).tmps.getD t undef=v:=by
 simp[Act.put,h]
theorem lK{fr:List V}{d:Option Nat}{r:V}{t:Nat}(h:d≠some t):(fu fr d r)[t]?=fr[t]?:=by
 cases d with
 | none=>rfl
 | some n =>
  have hn:n≠t:=fun e=>h (by simp[e]);simp only[fu,bn hn]
theorem pY{fr:List V}{d:Option Nat}{r:V}:(fu fr d r).length=fr.length:=by cases d<;>simp[fu]
theorem JM{a:Act}{d:Option Nat}{v:Value}:(a.put d v).tmps.size=a.tmps.size∧(a.put d v).defers=a.defers:=by
 cases d<;>simp[Act.put]
theorem Fo.wu{w w':World}{σ σ':ag}{μ μ':Mem}{fr:List V}{inf:Nat→Option (List (Nat×Bool))}{a:Act}{p:Pi}{r:V}{v:Value}(h:Fo w σ μ fr inf a)(fD:Lo inf p)(hk:pG w σ μ w' σ' μ')
  (h1:∀ t,p.d=some t→t<fr.length→chainB fr p.g=some true→VR w' σ' μ' r v) (h2:chainB fr p.g=some false→v=undef):Fo w' σ' μ' (fu fr p.d r) (tS inf p) (a.put p.d v):=by
 refine⟨by rw[JM.2];exact h.1,by rw[JM.1,pY];exact h.2.1,fun t x hx ch Bl=>?_⟩
 by_cases hd:p.d=some t
 ·have hf:=fD.fresh t hd;simp only[tS,hd,if_true,aa]at Bl;subst Bl
  have hlen:t<fr.length:=by
   have:=(ae.1 hx).1;rwa [pY]at this
  rw[hd]at hx;simp only[fu,aF hlen,aa]at hx;subst hx;have e:chainB (fu fr p.d r) p.g=chainB fr p.g:=vj fun q hq e=>hf.1 q hq (by rw[hd]at e;exact(dJ e).symm);rw[e,hd,JN (by rw[h.2.1];exact hlen)];exact⟨h1 t hd hlen,h2⟩
 ·simp only[tS,hd,if_false]at Bl;rw[lK hd]at hx;have e:chainB (fu fr p.d r) ch=chainB fr ch:=vj fun q hq e=>(fD.fresh q.1 e).2 t ch Bl q hq rfl;rw[e,Ps hd];have:=h.2.2 t x hx ch Bl;exact⟨fun hc=>hk _ _ (this.1 hc),this.2⟩
def GI(P:Program)(p:Pi)(K:St→Prop)(fr:List V)(σ:ag):Prop :=
 ∃ c,chainB fr p.g=some c∧((c=true∧∃ K':St→Prop,lE P p K' ⟨fr,σ⟩∧∀ st',K' st'→K st')∨(c=false∧∃ r,K ⟨fu fr p.d r,σ⟩))
theorem afg{P:Program}{p:Pi}{K:St→Prop}{fr:List V}{σ:ag}(h:gI P p K ⟨fr,σ⟩):GI P p K fr σ:=by
 unfold gI at h;split at h
 ·rename_i hg;exact⟨true,by rw[hg];rfl,.inl ⟨rfl,K,h,fun _ h=>h⟩⟩
 ·split at h
  ·rename_i c hc
   by_cases u1:∃ f args,p.i=.call f args
   ·obtain⟨f,args,hi⟩:=u1;obtain⟨d,g,i⟩:=p;simp only at hi;subst hi;cases c with
    | true=>exact⟨true,hc,.inl ⟨rfl,K,h.1 rfl,fun _ h=>h⟩⟩
    | false=>exact⟨false,hc,.inr ⟨rfl,h.2 rfl⟩⟩
   obtain⟨r,h1,h2⟩:=DG h fun f args e=>u1 ⟨f,args,e⟩;cases c with
   | true=>exact⟨true,hc,.inl ⟨rfl,_,h2 rfl,fun st' e=>e▸h1⟩⟩
   | false=>exact⟨false,hc,.inr ⟨rfl,r,h1⟩⟩
  ·exact h.elim
theorem YS{P:Program}{ops:Array Oper}{o:Oper}{p:Pi}(hc:cPi P ops o=some p){inf:Nat→Option (List (Nat×Bool))}{B:Nat}{w0 w:World}{fr:List V}{σ:ag}{μ:Mem}{a:Act}{K:St→Prop}
  (hS:jw P B w0 w σ μ) (hF:Fo w σ μ fr inf a) (fD:Lo inf p) (hK:GI P p K fr σ) {R:Act→World→Prop} {Q:Exit→Act→World→Prop}
  (hR:∀ r σ' μ' a' w',K ⟨fu fr p.d r,σ'⟩→jw P B w0 w' σ' μ'→Fo w' σ' μ' (fu fr p.d r) (tS inf p) a'→pG w σ μ w' σ' μ'→R a' w') :
  if Region.wanted o (yielded ops a.tmps)then o.wp P a w R Q∨(o.asks P a w∧LetsOut Q)else R (a.put o.dst undef) w:=by
 unfold cPi at hc;split at hc<;>simp only[aa,reduceCtorEq]at hc;rename_i g hg;obtain⟨i,WB⟩:∃ i,i=(compile P o).getD .stop:=⟨_,rfl⟩;rw[← WB]at hc;subst hc
 have doit:∀ K':St→Prop,chainB fr g=some true→lE P ⟨o.dst,g,i⟩ K' ⟨fr,σ⟩→(∀ st',K' st'→K st')→o.wp P a w R Q:=by
  intro K' Bl hs Qm
  have hi:compile P o=some i:=by
   cases Ra:compile P o with
   | none=>rw[Ra]at WB;simp only[Ut]at WB;subst WB;simp[lE,bm,cE]at hs
   | some j=>rw[Ra]at WB;simp only[oS]at WB;rw[WB]
  have h1:=Jn (fr':=XQ inf fr) (fun s hs' hse=>by
   obtain⟨ch,h2,h3⟩:=fD.oZ s hs';exact(YX h2 (Fi (by rw[rn,Bl,hse];rfl) h3)).symm) hs
  refine Oper.wp_mono ?_ (Jm (p:=⟨o.dst,g,i⟩) hi rfl h1 hS hF.mask);rintro a' w' ⟨st',μ',⟨r,h2,h3⟩,h4,h5,h6,⟨v,rfl⟩,_⟩;have hlen:(XQ inf fr).length=fr.length:=by simp[XQ]
  refine hR r st'.σ μ' _ w' (Qm _ h3) h4 (hF.wu fD h6 (fun t ht hl _=>?_) fun h=>by simp only at h;rw[Bl]at h;simp at h) h6;simp only at ht h2;have h7:=h5.2.2 t r (by rw[h2,ht];simp only[fu];rw[aF (by rw[hlen];exact hl)])
  rwa [ht,JN (by rw[hF.2.1];exact hl)]at h7
 have guard:∀ c,chainB fr g=some c→Region.wanted o (yielded ops a.tmps)=c:=by
  intro c BT;cases Q9:o.guard with
  | none =>
   rw[Q9]at hg;simp only[zC,aa]at hg;subst hg;simp only[chainB,aa]at BT;subst BT;simp[Region.wanted,Q9]
  | some jb =>
   obtain⟨j,b⟩:=jb;rw[Q9]at hg;simp only[zC]at hg;split at hg<;>(try simp only[reduceCtorEq]at hg);rename_i oj hoj;split at hg<;>simp only[aa,reduceCtorEq]at hg;rename_i t ch ht Bl;subst hg;have aiJ:=fD.guard ch t b rfl;rw[rn]at BT;split at BT<;>simp only[aa,reduceCtorEq]at BT;rename_i x y hx hy;simp only[chainB]at hy;split at hy<;>simp only[aa,reduceCtorEq]at hy;rename_i z hz;simp only[gW]at hy
   have hl:t<fr.length:=by
    rcases fV t fr.length with h | h
    ·exact h
    ·rw[List.getD_eq_getElem?_getD,bR h]at hz;simp at hz
   have dY:fr[t]?=some (.b z):=by
    rw[List.getD_eq_getElem?_getD,aw hl]at hz;rw[aw hl];simpa using hz
   have hv:=hF.2.2 t _ dY ch aiJ;have IP:t<a.tmps.size:=by rw[hF.2.1];exact hl
   have ZD:yielded ops a.tmps j=match a.tmps.getD t undef with | .bool q=>some q | _=>none:=by
    unfold yielded;simp only[hoj,jG,ht];rw[Array.getElem?_eq_getElem IP];have:a.tmps.getD t undef=a.tmps[t]:=by simp[IP]
    rw[this];cases a.tmps[t]<;>rfl
   subst BT hy;cases x
   ·rw[hv.2 hx]at ZD;simp only[undef]at ZD;simp[Region.wanted,Q9,ZD]
   ·rw[(hv.1 hx).rT]at ZD;simp[Region.wanted,Q9,ZD]
 obtain⟨c,BT,EZ⟩:=hK;rcases EZ with⟨rfl,K',h1,h2⟩ | ⟨rfl,r,h1⟩
 ·rw[if_pos (guard true BT)];exact .inl (doit K' BT h1 h2)
 ·have hw:=guard false BT;rw[hw];simp only[aD,if_false];exact hR r σ μ _ w h1 hS (hF.wu (p:=⟨o.dst,g,i⟩) fD (pG.refl _ _ _) (fun t _ _ h=>by simp only at h;rw[BT]at h;simp at h) fun _=>rfl) (pG.refl _ _ _)
theorem opG{P:Program}{ops:Array Oper}{o:Oper}{p:Pi}(hc:cPi P ops o=some p){inf:Nat→Option (List (Nat×Bool))}{B:Nat}{w0 w:World}{fr:List V}{σ:ag}{μ:Mem}{a:Act}{K:St→Prop}
  (hS:jw P B w0 w σ μ) (hF:Fo w σ μ fr inf a) (fD:Lo inf p) (hK:gI P p K ⟨fr,σ⟩) {R:Act→World→Prop} {Q:Exit→Act→World→Prop}
  (hR:∀ r σ' μ' a' w',K ⟨fu fr p.d r,σ'⟩→jw P B w0 w' σ' μ'→Fo w' σ' μ' (fu fr p.d r) (tS inf p) a'→pG w σ μ w' σ' μ'→R a' w') :
  if Region.wanted o (yielded ops a.tmps)then o.wp P a w R Q∨(o.asks P a w∧LetsOut Q)else R (a.put o.dst undef) w :=
 YS hc hS hF fD (afg hK) hR
def Xv(gs:List Nat)(fr:List V):List V:=gs.foldl (fun fr s=>fr.set s .u) fr
def kW(P:Program)(gs:List Nat):List Pi→(St→Prop)→St→Prop
 | [],K,st=>K ⟨Xv gs st.fr,st.σ⟩
 | p::ps,K,st=>gI P p (kW P gs ps K) st
def qQ(D:List (Nat×List (Nat×Bool)))(t:Nat):List (Nat×Bool):=(D.lookup t).getD []
def Ur(D:List (Nat×List (Nat×Bool)))(p:Pi):List (Nat×List (Nat×Bool)):=match p.d with
 | some d=>(d,p.g)::D
 | none=>D
def Ka(D:List (Nat×List (Nat×Bool)))(p:Pi):Bool :=
 p.i.oZ.all (fun s=>(qQ D s.1).isPrefixOf (p.g++s.2)) &&
 (match p.g.getLast? with
  | none=>true
  | some q=>qQ D q.1==p.g.dropLast) &&
 (match p.d with
  | none=>true
  | some d=>p.g.all (fun q=>q.1 != d)&&D.all fun e=>e.2.all fun q=>q.1 != d)
def EN:List (Nat×List (Nat×Bool))→List Pi→List Nat→Bool
 | D,[],gs=>D.all fun e=>e.2.isEmpty||gs.contains e.1
 | D,p::ps,gs=>Ka D p&&EN (Ur D p) ps gs
def ze(D:List (Nat×List (Nat×Bool)))(t:Nat):Option (List (Nat×Bool)):=some (qQ D t)
theorem vT{D:List (Nat×List (Nat×Bool))}{t:Nat}:qQ D t=[]∨(t,qQ D t)∈D:=by
 induction D with
 | nil=>exact .inl rfl
 | cons e D ih =>
  obtain⟨s,ch⟩:=e;simp only[qQ,Ux]
  by_cases h:t=s
  ·subst h;right;simp
  ·have:(t==s)=false:=by simpa using h
   rw[this];simp only[qQ]at ih;rcases ih with h | h
   ·exact .inl h
   ·exact .inr (cY _ h)
theorem Db{D:List (Nat×List (Nat×Bool))}{p:Pi}(h:Ka D p=true):Lo (ze D) p:=by
 simp only[Ka,aC,bI]at h;obtain⟨⟨h1,h2⟩,h3⟩:=h;refine⟨fun s hs=>⟨_,rfl,h1 s hs⟩,fun ch t b hg=>?_,fun d hd=>?_⟩
 ·rw[hg]at h2;simp only[iH,gd,ma,List.dropLast_concat,beq_iff_eq]at h2;simp[ze,h2]
 ·rw[hd]at h3;simp only[aC,bI,bne_iff_ne,ne_eq]at h3;refine⟨fun q hq=>h3.1 q hq,fun t ch ht q hq=>?_⟩;simp only[ze,aa]at ht;subst ht;rcases vT (D:=D) (t:=t)with h | h
  ·rw[h]at hq;simp at hq
  ·exact h3.2 _ h q hq
theorem zU{D:List (Nat×List (Nat×Bool))}{p:Pi}:tS (ze D) p=ze (Ur D p):=by
 funext t;simp only[tS,ze,Ur];cases hd:p.d with
 | none=>simp
 | some d =>
  by_cases h:d=t
  ·subst h;simp[qQ]
  ·have h2:(t==d)=false:=by simpa using fun e=>h e.symm
   simp[h,qQ,Ux,h2]
theorem T8:∀ (gs:List Nat) (fr:List V) (t:Nat),(Xv gs fr)[t]?=if t∈gs then(fr[t]?).map (fun _=>V.u)else fr[t]?
 | [],fr,t=>by simp[Xv]
 | s::gs,fr,t=>by
  have ih:=T8 gs (fr.set s .u) t;simp only[Xv,bd]at ih ⊢;rw[ih]
  by_cases hs:s=t
  ·subst hs;simp only[aU,true_or,if_true];rw[af9];split<;>cases fr[s]?<;>rfl
  ·rw[bn hs];have:(t∈s::gs)↔t∈gs:=by simp[IS hs]
   simp only[this]
theorem Fo.ends{w:World}{σ:ag}{μ:Mem}{fr:List V}{D:List (Nat×List (Nat×Bool))}{gs:List Nat}{a:Act}(h:Fo w σ μ fr (ze D) a)(hD:EN D [] gs=true):FR w σ μ (Xv gs fr) a:=by
 refine⟨h.1,?_,fun t x hx=>?_⟩
 ·rw[h.2.1]
  have:∀ (gs:List Nat) (fr:List V),(Xv gs fr).length=fr.length:=by
   intro gs
   induction gs with
   | nil=>intro fr;rfl
   | cons s gs ih=>intro fr;simp only[Xv,bd]at ih ⊢;rw[ih];simp
  rw[this]
 ·rw[T8]at hx;split at hx
  ·rw[ar]at hx;obtain⟨_,_,rfl⟩:=hx;exact .u _
  ·rename_i hgs;refine(h.2.2 t x hx _ rfl).1 ?_
   have:qQ D t=[]:=by
    rcases vT (D:=D) (t:=t)with h | h
    ·exact h
    ·simp only[EN,bI]at hD;have:=hD _ h;simp only[gm,List.isEmpty_iff,List.contains_eq_mem,decide_eq_true_eq]at this;rcases this with h2 | h2
     ·exact h2
     ·exact absurd h2 hgs
   rw[this];simp[chainB]
def afu(P:Program)(n B:Nat)(w0 w:World)(σ:ag)(μ:Mem)(K:Exit→St→Prop)(e:Exit)(a':Act)(w':World):Prop :=
 ∃ st' μ',K e st'∧jw P B w0 w' st'.σ μ'∧FR w' st'.σ μ' st'.fr a'∧fP n w σ μ w' st'.σ μ'
theorem wS{P:Program}{ops:Array Oper}{n B:Nat}{gs:List Nat}{w0 ws:World}{σs:ag}{μs:Mem}{K:St→Prop}{Q:Exit→Act→World→Prop}
  (hQ:∀ st w μ a,K st→jw P B w0 w st.σ μ→FR w st.σ μ st.fr a→fP n ws σs μs w st.σ μ→Q .normal a w) :
  ∀ (l:List Oper) (k:Nat) (ps:List Pi) (D:List (Nat×List (Nat×Bool))) (fr:List V) (σ:ag) (w:World) (μ:Mem) (a:Act),(∀ j,l[j]?=ops[k+j]?)→qH P ops l=some ps→EN D ps gs=true→kW P gs ps K ⟨fr,σ⟩ →
   jw P B w0 w σ μ→Fo w σ μ fr (ze D) a→fP n ws σs μs w σ μ →
   wpOps P ops Q ((List.range l.length).map (k+·)) a w
 | [],k,ps,D,fr,σ,w,μ,a,_,hc,hD,hr,hS,hF,hk=>by
  simp only[qH,aa]at hc;subst hc;exact hQ _ w μ a hr hS (hF.ends hD) hk
 | o::l,k,ps,D,fr,σ,w,μ,a,hl,hc,hD,hr,hS,hF,hk=>by
  simp only[qH]at hc;split at hc<;>simp only[aa,reduceCtorEq]at hc;rename_i p qs hp hqs;subst hc;simp only[EN,aC]at hD;have ho:ops[k]?=some o:=by have:=hl 0;simpa using this.symm
  have e1:(List.range (o::l).length).map (k+·)=k::(List.range l.length).map (k+1+·):=by
   rw[ab,rq,ay,jM];simp only[bC];congr 1;apply dE;intro x _;simp only[Function.comp];omega
  rw[e1];simp only[wpOps,ho];refine opG hp hS hF (Db hD.1) hr ?_;intro r σ' μ' a' w' h1 h2 h3 h4;rw[zU]at h3;exact wS hQ l (k+1) qs _ _ _ w' μ' a' (fun j=>by have:=hl (j+1);rw[bQ]at this;rw[this];congr 1;omega) hqs hD.2 h1 h2 h3 (hk.trans h4.Nv)
theorem FR.toI{w:World}{σ:ag}{μ:Mem}{fr:List V}{a:Act}(h:FR w σ μ fr a):Fo w σ μ fr (ze []) a :=
 ⟨h.1,h.2.1,fun t x hx ch Bl=>by
  simp only[ze,qQ,List.lookup_nil,Ut,aa]at Bl;subst Bl;exact⟨fun _=>h.2.2 t x hx,fun h=>by simp[chainB]at h⟩⟩
def tb(bs:List Nat)(i j:Nat):Bool:=(bs.getD i 0).testBit j
def fv(pis:List Pi)(i:Nat):Pi:=pis.getD i ⟨none,[],.alloc 0 []⟩
def FA(bs ls:List Nat)(i:Nat):Nat:=(ls.filter (tb bs i)).length
def oG(pis:List Pi)(bs:List Nat)(m:Nat)(ls:List Nat)(k:Nat):List Nat:=(List.range m).filter fun i=>(fv pis i).i.dh&&FA bs ls i==k
def Ub(pis:List Pi)(bs:List Nat)(m:Nat)(ls:List Nat)(k L:Nat):List Nat :=
 (List.range m).filter fun i=>(fv pis i).i.dh&&((fv pis i).i.reads&&(decide (FA bs ls i≤k)&&!tb bs L i))
def Ei(pis:List Pi)(bs:List Nat)(m:Nat)(ls:List Nat):Nat→List Nat→List (List Pi×Pi×List Pi)
 | _,[]=>[]
 | k,L::r=>((oG pis bs m ls k).map (fv pis),fv pis L,(Ub pis bs m ls k L).map (fv pis))::Ei pis bs m ls (k+1) r
def D7(p:Pi)(st:St):Prop :=
 match chainB st.fr p.g with
 | some c=>match p.d with
  | some d=>c=true→∃ ob,bm st.fr st.σ p.i=some (ob,st.fr.getD d .u)∧ob
  | none=>c=true→∃ ob r,bm st.fr st.σ p.i=some (ob,r)∧ob
 | none=>False
def tG(P:Program):List (List Pi×Pi×List Pi)→List Pi→(St→Prop)→St→Prop
 | [],last,K,st=>kW P [] last K st
 | (IM,L,chk)::ds,last,K,st=>kW P [] IM (fun st1=>gI P L (fun st2=>(∀ p∈chk,D7 p st2)∧tG P ds last K st2) st1) st
def looks(p:Pi):List Nat:=p.i.oZ.map (·.1)++p.g.map (·.1)
def Fact(p:Pi)(fr:List V)(σ:ag):Prop :=
 ∃ c,chainB fr p.g=some c∧∃ r,fu fr p.d r=fr∧(c=true→∃ ob,bm fr σ p.i=some (ob,r)∧ob)
theorem RH{fr:List V}{t:Nat}{r:V}:fr.set t r=fr↔(t<fr.length→fr[t]?=some r):=by
 constructor
 ·intro h hl;rw[← h,aF hl]
 ·intro h;refine kg fun i=>?_
  by_cases hi:t=i
  ·subst hi;rw[af9];rcases fV t fr.length with hl | hl
   ·rw[h hl];rfl
   ·rw[bR hl];rfl
  ·rw[bn hi]
theorem rE{fr:List V}{d:Option Nat}{r:V}:fu fr d r=fr↔∀ t,d=some t→t<fr.length→fr[t]?=some r:=by
 cases d with
 | none=>simp[fu]
 | some t=>simp only[fu,RH,aa];exact⟨fun h s hs=>hs▸h,fun h=>h t rfl⟩
theorem Sb{i:I}{x:O}(hx:x∈i.os){t:Nat}(ht:t∈x.slot):t∈i.oZ.map (·.1):=by
 unfold I.oZ;split
 ·rename_i c a b;simp only[I.os,aU,bD,or_false]at hx;rcases hx with rfl | rfl | rfl
  ·simp only[O.slot,cv]at ht;simp[ht]
  ·simp[ht]
  ·simp[ht]
 ·simp only[jM,bK,List.mem_flatMap,Function.comp];exact⟨t,⟨x,hx,ht⟩,rfl⟩
theorem nA{fr fr':List V}:∀ {ch:List (Nat×Bool)},(∀ q∈ch,fr'[q.1]?=fr[q.1]?)→chainB fr' ch=chainB fr ch
 | [],_=>rfl
 | (t,b)::ch,h=>by
  have h0:fr'[t]?=fr[t]?:=h (t,b) (by simp);have ih:=nA (fr:=fr) (fr':=fr') (ch:=ch) fun q hq=>h q (by simp[hq]);simp only[chainB,ih,List.getD_eq_getElem?_getD,h0]
theorem Ba{fr fr':List V}{σ:ag}{p:Pi}(h:∀ t∈p.i.oZ.map (·.1),fr'[t]?=fr[t]?):bm fr' σ p.i=bm fr σ p.i :=
 A9 fun x hx=>Ce fun s hs=>by rw[List.getD_eq_getElem?_getD,List.getD_eq_getElem?_getD,h s (Sb hx hs)]
theorem Fact.agree{p:Pi}{fr fr':List V}{σ:ag}(h:Fact p fr σ)(hl:∀ t∈looks p,fr'[t]?=fr[t]?)(hd:∀ t,p.d=some t→fr'[t]?=fr[t]?)(hlen:fr'.length=fr.length):Fact p fr' σ:=by
 obtain⟨c,h1,r,h2,h3⟩:=h;refine⟨c,by rw[nA fun q hq=>hl q.1 (by simp only[looks,List.mem_append,bK];exact .inr ⟨q,hq,rfl⟩)];exact h1,r,?_,fun hc=>?_⟩
 ·rw[rE]at h2 ⊢;intro t ht fk;rw[hd t ht];exact h2 t ht (hlen▸fk)
 ·rw[Ba fun t ht=>hl t (by simp only[looks,List.mem_append];exact .inl ht)];exact h3 hc
theorem Fact.still{p:Pi}{fr:List V}{σ σ':ag}(h:Fact p fr σ)(hr:p.i.reads=false):Fact p fr σ':=by
 obtain⟨c,h1,r,h2,h3⟩:=h;exact⟨c,h1,r,h2,fun hc=>by rw[← JR (σ:=σ) hr];exact h3 hc⟩
theorem D7.fact{p:Pi}{st:St}(h:D7 p st):Fact p st.fr st.σ:=by
 unfold D7 at h;split at h
 ·rename_i c hc;split at h
  ·rename_i d hd;refine⟨c,hc,_,?_,h⟩;rw[rE];intro t ht hl;rw[hd]at ht;simp only[aa]at ht;subst ht;rw[List.getD_eq_getElem?_getD,aw hl];rfl
  ·rename_i hd
   by_cases OD:c=true
   ·obtain⟨ob,r,h1,h2⟩:=h OD;exact⟨c,hc,r,by rw[hd];rfl,fun _=>⟨ob,h1,h2⟩⟩
   ·exact⟨c,hc,.u,by rw[hd];rfl,fun h=>absurd h OD⟩
 ·exact h.elim
theorem Qw{P:Program}{p:Pi}{K:St→Prop}{fr:List V}{σ:ag}(h:gI P p K ⟨fr,σ⟩)(hs:p.i.dh=true):
  ∃ c r,chainB fr p.g=some c∧K ⟨fu fr p.d r,σ⟩∧(c=true→∃ ob,bm fr σ p.i=some (ob,r)∧ob):=by
 have key:∀ K0,lE P p K0 ⟨fr,σ⟩→∃ r,K0 ⟨fu fr p.d r,σ⟩∧∃ ob,bm fr σ p.i=some (ob,r)∧ob:=by
  intro K0 h0;obtain⟨d,g,i⟩:=p;cases i<;>first | (simp[I.dh]at hs;done) | skip
  all_goals
   simp only[lE]at h0;split at h0
   ·rename_i ob v hv;exact⟨v,h0.2,ob,hv,h0.1⟩
   ·rw[yg (by simpa using hs)]at h0;exact h0.elim
 unfold gI at h;split at h
 ·rename_i hg;obtain⟨r,h1,h2⟩:=key _ h;exact⟨true,r,by rw[hg];rfl,h1,fun _=>h2⟩
 ·split at h
  ·rename_i c hc;obtain⟨r,h1,h2⟩:=DG h fun f args e=>by rw[e]at hs;simp[I.dh]at hs
   by_cases OD:c=true
   ·obtain⟨r',h3,h4⟩:=key _ (h2 OD);simp only[St.mk.injEq,and_true]at h3;subst OD;refine⟨true,r',hc,?_,fun _=>h4⟩;rw[h3];exact h1
   ·exact⟨c,r,hc,h1,fun h=>absurd h OD⟩
  ·exact h.elim
theorem z6{P:Program}{pis:List Pi}{K:St→Prop}{σ:ag}:∀ (l:List Nat) (fr:List V),kW P [] (l.map (fv pis)) K ⟨fr,σ⟩→(∀ i∈l,(fv pis i).i.dh=true) →
  l.Pairwise (fun i j=>∀ t,(fv pis j).d=some t→t ∉ looks (fv pis i)∧(fv pis i).d≠some t)→(∀ i∈l,∀ t,(fv pis i).d=some t→t ∉ looks (fv pis i)) →
  ∃ fr',K ⟨fr',σ⟩∧(∀ i∈l,Fact (fv pis i) fr' σ)∧(∀ t,(∀ i∈l,(fv pis i).d≠some t)→fr'[t]?=fr[t]?)∧fr'.length=fr.length
 | [],fr,h,_,_,_=>⟨fr,h,by simp,fun _ _=>rfl,rfl⟩
 | i::l,fr,h,hs,hp,zg=>by
  simp only[ay,kW]at h;obtain⟨c,r,h1,h2,h3⟩:=Qw h (hs i (by simp));rw[ck]at hp;obtain⟨fr',h4,h5,h6,h7⟩:=z6 l _ h2 (fun j hj=>hs j (by simp[hj])) hp.2 fun j hj=>zg j (by simp[hj])
  have KJ:∀ t∈looks (fv pis i),fr'[t]?=fr[t]?:=fun t ht=>by
   rw[h6 t fun j hj e=>(hp.1 j hj t e).1 ht];exact lK fun e=>zg i (by simp) t e ht
  refine⟨fr',h4,fun j hj=>?_,fun t ht=>?_,by rw[h7,pY]⟩
  ·rcases aU.1 hj with rfl | hj
   ·refine⟨c,by rw[nA fun q hq=>KJ q.1 (by simp only[looks,List.mem_append,bK];exact .inr ⟨q,hq,rfl⟩)];exact h1,r,?_,fun hc=>?_⟩
    ·rw[rE];intro t ht fk;rw[h6 t fun k hk e=>(hp.1 k hk t e).2 ht,ht];have:t<fr.length:=by rw[h7,pY]at fk;exact fk
     simp only[fu,aF this]
    ·rw[Ba fun t ht=>KJ t (by simp only[looks,List.mem_append];exact .inl ht)];exact h3 hc
   ·exact h5 j hj
  ·rw[h6 t fun j hj=>ht j (by simp[hj])];exact lK (ht i (by simp))
structure Ch (ops:Array Oper) (pis:List Pi) (bs:List Nat) (m:Nat) (ls fl:List Nat):Prop where
 mn:m≤pis.length
 back:∀ i o,ops[i]?=some o→∀ e∈o.after,Region.binds .any e=true→e.on<i
 Xw:∀ (i j:Nat),i<pis.length→j<pis.length→tb bs i j=true→j<i∧∃ o,ops[i]?=some o∧∃ e∈o.after,Region.binds .any e=true∧(e.on=j∨tb bs e.on j=true)
 tail:∀ (i j:Nat),m≤i→i<pis.length→j<i→tb bs i j=true
 dst:∀ (i j:Nat) (t:Nat),i<m→j<m→(fv pis i).d=some t→(fv pis j).d=some t→i=j
 Kl:∀ (i:Nat),i<m→(fv pis i).i.dh=false→i∈ls∨i∈fl
 UC:∀ L∈ls,L<m∧(fv pis L).i.dh=false
 Vu:∀ (j k L L':Nat),j<k→ls[j]?=some L'→ls[k]?=some L→tb bs L L'=true
 IM:∀ (i k L:Nat),i<m→(fv pis i).i.dh=true→ls[k]?=some L→(tb bs i L=true↔k<FA bs ls i)
 slot:∀ (i:Nat) (s:Nat×List (Nat×Bool)) (j:Nat),i<m→s∈(fv pis i).i.oZ→j<m→(fv pis j).d=some s.1→tb bs i j=true∧(fv pis j).g.isPrefixOf ((fv pis i).g++s.2)=true
 chain:∀ (i:Nat) (q:Nat×Bool),i<m→q∈(fv pis i).g→∃ j,j<m∧(fv pis j).d=some q.1∧tb bs i j=true
 last:∀ (i:Nat) (ch:List (Nat×Bool)) (t:Nat) (b:Bool) (j:Nat),i<m→(fv pis i).g=ch++[(t,b)]→j<m→(fv pis j).d=some t→(fv pis j).g=ch
 mono:∀ (i j t:Nat),i<m→(fv pis i).i.dh=true→j<m→(fv pis j).i.dh=true→(fv pis j).d=some t→t∈looks (fv pis i)→FA bs ls j≤FA bs ls i
theorem pE{P:Program}{ops:Array Oper}:∀ {l:List Oper} {ps:List Pi},qH P ops l=some ps→ps.length=l.length∧∀ (i:Nat) (o:Oper),l[i]?=some o→∃ p,ps[i]?=some p∧cPi P ops o=some p
 | [],ps,h=>by simp only[qH,aa]at h;subst h;simp
 | o::l,ps,h=>by
  simp only[qH]at h;split at h<;>simp only[aa,reduceCtorEq]at h;rename_i p qs hp hqs;subst h;obtain⟨h1,h2⟩:=pE hqs;refine⟨by simp[h1],fun i o' ho=>?_⟩;cases i with
  | zero=>simp only[ao,aa]at ho;subst ho;exact⟨p,rfl,hp⟩
  | succ i=>exact h2 i o' (by simpa using ho)
abbrev lC(listed:Array Bool)(i:Nat):Prop:=listed.getD i false=true
theorem fH{listed:Array Bool}{i j:Nat}(hi:i<listed.size):lC (listed.setIfInBounds i true) j↔j=i∨lC listed j:=by
 simp only[lC,bN]
 by_cases h:i=j
 ·subst h;simp[hi]
 ·rw[ei h];simp[IS h]
theorem ug{ops:Array Oper}{listed:Array Bool}{i:Nat}(hn:listed.size=ops.size)(h:i∈Region.ready .any ops listed):
  i<ops.size∧¬ lC listed i∧∃ o,ops[i]?=some o∧∀ e∈o.after,Region.binds .any e=true→lC listed e.on:=by
 obtain⟨h1,o,h2,h3⟩:=mem_ready.1 h;have hi:i<ops.size:=(cg.1 h2).1;refine⟨hi,?_,o,h2,h3⟩;simp only[lC,bN]at h1 ⊢;rw[Array.getElem?_eq_getElem (by rw[hn];exact hi)]at h1 ⊢;simp at h1 ⊢;exact h1
section
variable {P:Program} {ops:Array Oper} {pis:List Pi} {bs:List Nat} {m:Nat} {ls fl:List Nat}
theorem Ch.ready(hX:Ch ops pis bs m ls fl)(hn:pis.length=ops.size){listed:Array Bool}(gO:listed.size=ops.size)
  (hc:∀ i j,i<pis.length→j<pis.length→lC listed i→tb bs i j=true→lC listed j) {i:Nat} (h:i∈Region.ready .any ops listed) {j:Nat} (hj:j<pis.length) (ht:tb bs i j=true):lC listed j:=by
 obtain⟨h1,h2,o,h3,h4⟩:=ug gO h;obtain⟨h5,o',h6,e,h7,h8,h9⟩:=hX.Xw i j (by omega) hj ht;rw[h3]at h6;simp only[aa]at h6;subst h6;have ML:=h4 e h7 h8;rcases h9 with rfl | h9
 ·exact ML
 ·have:=hX.back i o h3 e h7 h8;exact hc e.on j (by omega) hj ML h9
theorem Ch.first(hX:Ch ops pis bs m ls fl){listed:Array Bool}(gO:listed.size=ops.size)(h:Region.ready .any ops listed=[]):∀ i,i<ops.size→lC listed i:=by
 intro i
 induction i using Nat.strongRecOn with
 | ind i ih =>
  intro hi;refine bo fun hn=>?_
  have:i∈Region.ready .any ops listed:=by
   rw[mem_ready];refine⟨?_,ops[i],by simp[hi],fun e he hb=>?_⟩
   ·simp only[lC,bN]at hn ⊢;rw[Array.getElem?_eq_getElem (by rw[gO];exact hi)]at hn ⊢;simp at hn ⊢;exact hn
   ·have hl:=hX.back i ops[i] (by simp[hi]) e he hb;exact ih e.on hl (by omega)
  rw[h]at this;simp at this
theorem FF{listed:Array Bool}(gO:listed.size=ops.size)(h:∀ i,i<ops.size→lC listed i):Region.ready .any ops listed=[]:=by
 refine cd.2 fun i hi=>?_;obtain⟨h1,h2,_⟩:=ug gO hi;exact h2 (h i h1)
theorem Co(hX:Ch ops pis bs m ls fl)(hp:qH P ops ops.toList=some pis){n B:Nat}{gs:List Nat}{w0 ws:World}{σs:ag}{μs:Mem}{K:St→Prop}{Q:Exit→Act→World→Prop}
  (hQ:∀ st w μ a,K st→jw P B w0 w st.σ μ→FR w st.σ μ st.fr a→fP n ws σs μs w st.σ μ→Q .normal a w) :
  ∀ (fuel q:Nat) (listed:Array Bool) (D:List (Nat×List (Nat×Bool))) (fr:List V) (σ:ag) (w:World) (μ:Mem) (a:Act),m≤q→q≤pis.length→listed.size=ops.size→(∀ i,i<pis.length→(lC listed i↔i<q))→pis.length - q≤fuel →
   EN D (pis.drop q) gs=true→kW P gs (pis.drop q) K ⟨fr,σ⟩→jw P B w0 w σ μ→Fo w σ μ fr (ze D) a→fP n ws σs μs w σ μ→wpAny P .any ops Q fuel listed a w:=by
 have hn:pis.length=ops.size:=by rw[(pE hp).1,aY]
 intro fuel
 induction fuel with
 | zero =>
  intro q listed D fr σ w μ a hmq hq gO hl hf hD hr hS hF hk;have hq':q=pis.length:=by omega
  subst hq';rw[oT]at hD hr;refine wpAny_done (FF gO fun i hi=>(hl i (by omega)).2 (by omega)) ?_ 0;exact hQ _ w μ a hr hS (hF.ends hD) hk
 | succ fuel ih =>
  intro q listed D fr σ w μ a hmq hq gO hl hf hD hr hS hF hk
  by_cases hq':q=pis.length
  ·subst hq';rw[oT]at hD hr;refine wpAny_done (FF gO fun i hi=>(hl i (by omega)).2 (by omega)) ?_ _;exact hQ _ w μ a hr hS (hF.ends hD) hk
  ·have hql:q<pis.length:=by omega
   refine⟨fun h=>?_,fun i hi=>?_⟩
   ·have:=hX.first gO h q (by omega);rw[hl q hql]at this;omega
   ·obtain⟨h1,h2,o,h3,h4⟩:=ug gO hi
    have hiq:i=q:=by
     have h5:¬ i<q:=fun h=>h2 ((hl i (by omega)).2 h);refine bo fun iQ=>?_
     have h6:=hX.ready hn gO (fun i' j hi' hj hli ht=>by
      rw[hl i' hi']at hli;have:=(hX.Xw i' j hi' hj ht).1;exact(hl j hj).2 (by omega)) hi hql (hX.tail i q (by omega) (by omega) (by omega))
     rw[hl q hql]at h6;omega
    subst hiq;obtain⟨p,h5,h6⟩:=(pE hp).2 i o (by simpa using h3)
    have ae4:pis.drop i=p::pis.drop (i+1):=by
     rw[eU hql];congr 1;rw[aw hql]at h5;simpa using h5
    rw[ae4]at hD hr;simp only[EN,aC]at hD;simp only[wpOp,h3];refine opG h6 hS hF (Db hD.1) hr ?_;intro r σ' μ' a' w' k1 k2 k3 k4;rw[zU]at k3;exact ih (i+1) _ _ _ σ' w' μ' a' (by omega) (by omega) (by simpa using gO) (fun j hj=>by rw[fH (by omega),hl j hj];omega) (by omega) hD.2 k1 k2 k3 (hk.trans k4.Nv)
end
def o7(pis:List Pi)(m:Nat)(listed:Array Bool)(t:Nat):Option (List (Nat×Bool)) :=
 match (List.range m).find? (fun i=>(fv pis i).d==some t)with
 | none=>some []
 | some i=>if listed.getD i false then some (fv pis i).g else none
section
variable {P:Program} {ops:Array Oper} {pis:List Pi} {bs:List Nat} {m:Nat} {ls fl:List Nat}
theorem Ch.BZ(hX:Ch ops pis bs m ls fl){listed:Array Bool}{i t:Nat}(hi:i<m)(hd:(fv pis i).d=some t):o7 pis m listed t=if listed.getD i false then some (fv pis i).g else none:=by
 unfold o7;split
 ·rename_i h;rw[qz]at h;exact absurd (h i (dd.2 hi)) (by simp[hd])
 ·rename_i j h;have h1:=vz h;have h2:=dd.1 (oU h);simp only[beq_iff_eq]at h1;rw[hX.dst j i t h2 hi h1 hd]
theorem Ft{listed:Array Bool}{t:Nat}(h:∀ i,i<m→(fv pis i).d≠some t):o7 pis m listed t=some []:=by
 unfold o7;split
 ·rfl
 ·rename_i j hj;have h1:=vz hj;have h2:=dd.1 (oU hj);simp only[beq_iff_eq]at h1;exact absurd h1 (h j h2)
theorem mB{listed:Array Bool}{t:Nat}{ch:List (Nat×Bool)}(h:o7 pis m listed t=some ch):
  (ch=[]∧∀ i,i<m→(fv pis i).d≠some t)∨∃ i,i<m∧(fv pis i).d=some t∧lC listed i∧ch=(fv pis i).g:=by
 unfold o7 at h;split at h
 ·rename_i hf;rw[qz]at hf;simp only[aa]at h;exact .inl ⟨h.symm,fun i hi hd=>hf i (dd.2 hi) (by simp[hd])⟩
 ·rename_i j hj;have h1:=vz hj;have h2:=dd.1 (oU hj);simp only[beq_iff_eq]at h1;split at h<;>simp only[aa,reduceCtorEq]at h;rename_i hl;exact .inr ⟨j,h2,h1,hl,h.symm⟩
theorem Ch.rP(hX:Ch ops pis bs m ls fl){i j t:Nat}(hi:i<m)(hj:j<m)(hd:(fv pis j).d=some t)(ht:t∈looks (fv pis i)):tb bs i j=true:=by
 simp only[looks,List.mem_append,bK]at ht;rcases ht with⟨s,hs,rfl⟩ | ⟨q,hq,rfl⟩
 ·exact(hX.slot i s j hi hs hj hd).1
 ·obtain⟨j',h1,h2,h3⟩:=hX.chain i q hi hq;rw[hX.dst j j' _ hj h1 hd h2];exact h3
theorem Ch.lt(hX:Ch ops pis bs m ls fl){i j:Nat}(hi:i<m)(hj:j<m)(h:tb bs i j=true):j<i :=
 (hX.Xw i j (fF hi hX.mn) (fF hj hX.mn) h).1
theorem Ch.ad9(hX:Ch ops pis bs m ls fl){listed:Array Bool}(hc:∀ i j,i<pis.length→j<pis.length→lC listed i→tb bs i j=true→lC listed j){i:Nat}(hi:i<m)(Qf:¬ lC listed i)
  (js:∀ j,j<pis.length→tb bs i j=true→lC listed j):Lo (o7 pis m listed) (fv pis i):=by
 have hm:=hX.mn;refine⟨fun s hs=>?_,fun ch t b hg=>?_,fun d hd=>⟨fun q hq e=>?_,fun t ch ht q hq e=>?_⟩⟩
 ·by_cases hw:∃ j,j<m∧(fv pis j).d=some s.1
  ·obtain⟨j,hj,hd⟩:=hw;have:=hX.slot i s j hi hs hj hd;have hl:=js j (by omega) this.1;refine⟨(fv pis j).g,?_,this.2⟩;rw[hX.BZ hj hd,hl];rfl
  ·exact⟨[],Ft fun j hj hd=>hw ⟨j,hj,hd⟩,by simp⟩
 ·obtain⟨j,hj,hd,ht⟩:=hX.chain i (t,b) hi (by rw[hg];simp);rw[hX.BZ hj hd,js j (by omega) ht,hX.last i ch t b j hi hg hj hd];rfl
 ·obtain⟨j,hj,hd',ht⟩:=hX.chain i q hi hq;rw[e]at hd';have:=hX.dst i j d hi hj hd hd';subst this;have:=hX.lt hi hi ht;omega
 ·rcases mB ht with⟨rfl,_⟩ | ⟨j,hj,Tr,hlj,rfl⟩
  ·simp at hq
  ·obtain⟨j2,hj2,hd2,ht2⟩:=hX.chain j q hj hq;have IP:=hc j j2 (by omega) (by omega) hlj ht2;rw[e]at hd2;have:=hX.dst i j2 d hi hj2 hd hd2;subst this;exact Qf IP
theorem Ch.tS(hX:Ch ops pis bs m ls fl){listed:Array Bool}{i:Nat}(hi:i<m)(his:i<listed.size):tS (o7 pis m listed) (fv pis i)=o7 pis m (listed.setIfInBounds i true):=by
 funext t;simp only[Pm.tS]
 by_cases hd:(fv pis i).d=some t
 ·have:(listed.setIfInBounds i true).getD i false=true:=(fH his).2 (.inl rfl);rw[if_pos hd,hX.BZ hi hd,this];rfl
 ·rw[if_neg hd];unfold o7;split
  ·rfl
  ·rename_i j hj;have h1:=vz hj;simp only[beq_iff_eq]at h1;have iQ:j≠i:=fun e=>hd (e▸h1)
   have:(listed.setIfInBounds i true).getD j false=listed.getD j false:=by
    have h2:=fH (listed:=listed) (j:=j) his;simp only[iQ,false_or,lC]at h2;cases h3:listed.getD j false<;>simp_all
   rw[this]
def wO(P:Program)(pis:List Pi)(bs:List Nat)(m:Nat)(ls:List Nat)(Kt:St→Prop)(k:Nat)(fr:List V)(σ:ag):Prop :=
 match ls[k]? with
 | some L=>gI P (fv pis L) (fun st2=>(∀ p∈(Ub pis bs m ls k L).map (fv pis),D7 p st2)∧tG P (Ei pis bs m ls (k+1) (ls.drop (k+1))) ((oG pis bs m ls ls.length).map (fv pis)) Kt st2) ⟨fr,σ⟩
 | none=>Kt ⟨fr,σ⟩
theorem eG{k i:Nat}:i∈oG pis bs m ls k↔i<m∧(fv pis i).i.dh=true∧FA bs ls i=k:=by
 simp[oG]
theorem Ch.XN(hX:Ch ops pis bs m ls fl){Kt:St→Prop}{k:Nat}(hk:k≤ls.length){fr:List V}{σ:ag}
  (h:tG P (Ei pis bs m ls k (ls.drop k)) ((oG pis bs m ls ls.length).map (fv pis)) Kt ⟨fr,σ⟩) :
  ∃ fr',wO P pis bs m ls Kt k fr' σ∧(∀ i∈oG pis bs m ls k,Fact (fv pis i) fr' σ)∧(∀ t,(∀ i∈oG pis bs m ls k,(fv pis i).d≠some t)→fr'[t]?=fr[t]?)∧fr'.length=fr.length:=by
 have X1:(oG pis bs m ls k).Pairwise (fun i j=>∀ t,(fv pis j).d=some t→t ∉ looks (fv pis i)∧(fv pis i).d≠some t):=by
  refine afy ?_ (tN _ akV);intro i j hi hj fk t hd
  replace hi:=(eG (k:=k)).1 hi
  replace hj:=(eG (k:=k)).1 hj
  refine⟨fun ht=>?_,fun hd'=>?_⟩
  ·have:=hX.lt hi.1 hj.1 (hX.rP hi.1 hj.1 hd ht);omega
  ·have:=hX.dst i j t hi.1 hj.1 hd' hd;omega
 have zg:∀ i∈oG pis bs m ls k,∀ t,(fv pis i).d=some t→t ∉ looks (fv pis i):=fun i hi t hd ht=>by
  rw[eG]at hi;have:=hX.lt hi.1 hi.1 (hX.rP hi.1 hi.1 hd ht);omega
 have Qg:∀ i∈oG pis bs m ls k,(fv pis i).i.dh=true:=fun i hi=>(eG.1 hi).2.1
 by_cases tJ:k<ls.length
 ·have e:ls.drop k=ls[k]::ls.drop (k+1):=eU tJ;rw[e]at h;simp only[Ei,tG]at h;obtain⟨fr',h1,h2,h3,h4⟩:=z6 _ _ h Qg X1 zg;refine⟨fr',?_,h2,h3,h4⟩;simp only[wO,aw tJ];exact h1
 ·have hk':k=ls.length:=by omega
  subst hk';rw[oT]at h;simp only[Ei,tG]at h;obtain⟨fr',h1,h2,h3,h4⟩:=z6 _ _ h Qg X1 zg;refine⟨fr',?_,h2,h3,h4⟩;have e:ls[ls.length]?=none:=bR (aB _);simp only[wO,e];exact h1
def GB(n:Nat)(listed:Array Bool):Nat:=((List.range n).filter fun i=>!listed.getD i false).length
theorem Jd{n m:Nat}{listed:Array Bool}(hm:m≤n)(h:∀ i,m≤i→i<n→¬ lC listed i):n - m≤GB n listed:=by
 have e:List.range n=List.range m++(List.range (n - m)).map (m+·):=by rw[← List.range_add];congr 1;omega
 unfold GB;rw[e,List.filter_append,List.length_append]
 have:((List.range (n - m)).map (m+·)).filter (fun i=>!listed.getD i false)=(List.range (n - m)).map (m+·):=by
  rw[List.filter_eq_self];intro i hi;simp only[bK,dd]at hi;obtain⟨j,hj,rfl⟩:=hi;have:=h (m+j) (by omega) (by omega);simpa[lC]using this
 rw[this];simp
theorem Nu{n:Nat}{listed:Array Bool}{i:Nat}(hi:i<n)(h:¬ lC listed i):0<GB n listed:=by
 unfold GB;rw[List.length_pos_iff_exists_mem];exact⟨i,by simp only[cV,dd];exact⟨hi,by simpa[lC]using h⟩⟩
theorem Nt{n:Nat}{listed:Array Bool}{i:Nat}(hi:i<n)(his:i<listed.size)(h:¬ lC listed i):GB n (listed.setIfInBounds i true)+1≤GB n listed:=by
 induction n with
 | zero=>omega
 | succ n ih =>
  have ex:∀ l:Array Bool,GB (n+1) l=GB n l+if l.getD n false then 0 else 1:=by
   intro l;unfold GB;rw[vy,List.filter_append,List.length_append];congr 1;rw[fQ];cases hl:l.getD n false<;>rfl
  rw[ex,ex]
  by_cases hn:i=n
  ·subst hn;have h1:(listed.setIfInBounds i true).getD i false=true:=(fH his).2 (.inl rfl);have h2:listed.getD i false=false:=by simpa[lC]using h
   rw[h1,h2]
   have:GB i (listed.setIfInBounds i true)=GB i listed:=by
    unfold GB;congr 1;refine List.filter_congr fun j hj=>?_;rw[dd]at hj;have h2:=fH (listed:=listed) (j:=j) his;have iQ:j≠i:=by omega
    simp only[iQ,false_or,lC]at h2;cases h3:listed.getD j false<;>simp_all
   simp[this]
  ·have h1:=ih (by omega);have h2:=fH (listed:=listed) (j:=n) his;have iQ:n≠i:=fun e=>hn e.symm;simp only[iQ,false_or,lC]at h2;have:(listed.setIfInBounds i true).getD n false=listed.getD n false:=by cases h3:listed.getD n false<;>simp_all
   rw[this];omega
def D0(pis:List Pi)(m:Nat):List (Nat×List (Nat×Bool)):=(List.range m).filterMap fun i=>(fv pis i).d.map fun d=>(d,(fv pis i).g)
theorem Km{t:Nat}{x:List (Nat×Bool)}:∀ {D:List (Nat×List (Nat×Bool))},(∀ v,(t,v)∈D→v=x)→(∃ v,(t,v)∈D)→qQ D t=x
 | [],_,h=>by obtain⟨v,hv⟩:=h;simp at hv
 | (s,v)::D,h,he=>by
  simp only[qQ,Ux]
  by_cases hts:t=s
  ·subst hts;simp[h v (by simp)]
  ·have h2:(t==s)=false:=by simpa using hts
   rw[h2];refine Km (D:=D) (fun v hv=>h v (by simp[hv])) ?_;obtain⟨v',hv'⟩:=he;rcases aU.1 hv' with e | hv'
   ·simp only[aI]at e;exact absurd e.1 hts
   ·exact⟨v',hv'⟩
theorem Ch.all(hX:Ch ops pis bs m ls fl){listed:Array Bool}(h:∀ i,i<m→lC listed i):o7 pis m listed=ze (D0 pis m):=by
 funext t
 have Ay:∀ v,(t,v)∈D0 pis m↔∃ i,i<m∧(fv pis i).d=some t∧v=(fv pis i).g:=by
  intro v;simp only[D0,No,dd,ar,aI];constructor
  ·rintro⟨i,hi,d,hd,rfl,rfl⟩;exact⟨i,hi,hd,rfl⟩
  ·rintro⟨i,hi,hd,rfl⟩;exact⟨i,hi,t,hd,rfl,rfl⟩
 by_cases hw:∃ i,i<m∧(fv pis i).d=some t
 ·obtain⟨i,hi,hd⟩:=hw;rw[hX.BZ hi hd,h i hi];simp only[if_true,ze,aa];refine(Km (fun v hv=>?_) ⟨_,(Ay _).2 ⟨i,hi,hd,rfl⟩⟩).symm;obtain⟨j,hj,Tr,rfl⟩:=(Ay v).1 hv;rw[hX.dst i j t hi hj hd Tr]
 ·rw[Ft fun i hi hd=>hw ⟨i,hi,hd⟩];simp only[ze,aa];rcases vT (D:=D0 pis m) (t:=t)with h1 | h1
  ·exact h1.symm
  ·obtain⟨i,hi,hd,_⟩:=(Ay _).1 h1;exact absurd ⟨i,hi,hd⟩ hw
end
theorem OH{P:Program}{p:Pi}{fr:List V}{σ:ag}(h:Fact p fr σ):GI P p (fun st'=>st'=⟨fr,σ⟩) fr σ:=by
 obtain⟨c,h1,r,h2,h3⟩:=h;cases c with
 | false=>exact⟨false,h1,.inr ⟨rfl,r,by rw[h2]⟩⟩
 | true =>
  obtain⟨ob,h4,h5⟩:=h3 rfl;refine⟨true,h1,.inl ⟨rfl,fun st'=>st'=⟨fr,σ⟩,?_,fun _ h=>h⟩⟩;obtain⟨d,g,i⟩:=p;have hs:=yO h4;cases i<;>first | (simp[I.dh]at hs;done) | skip
  all_goals
   simp only[lE];simp only at h4 h2;rw[h4];exact⟨h5,by rw[h2]⟩
section
variable {P:Program} {ops:Array Oper} {pis:List Pi} {bs:List Nat} {m:Nat} {ls fl:List Nat}
theorem yM(hX:Ch ops pis bs m ls fl)(hp:qH P ops ops.toList=some pis){n B:Nat}{gs:List Nat}{w0 ws:World}{σs:ag}{μs:Mem}{K:St→Prop}{Q:Exit→Act→World→Prop}
  (hQ:∀ st w μ a,K st→jw P B w0 w st.σ μ→FR w st.σ μ st.fr a→fP n ws σs μs w st.σ μ→Q .normal a w) (ht:EN (D0 pis m) (pis.drop m) gs=true) :
  ∀ (fuel k:Nat) (listed:Array Bool) (fr:List V) (σ:ag) (w:World) (μ:Mem) (a:Act),listed.size=ops.size→(∀ f∈fl,lC listed f) →
   (∀ i j,i<pis.length→j<pis.length→lC listed i→tb bs i j=true→lC listed j)→(∀ i,m≤i→i<pis.length→¬ lC listed i)→k≤ls.length →
   (∀ j L,ls[j]?=some L→(lC listed L↔j<k))→(∀ i,i<m→(fv pis i).i.dh=true→FA bs ls i≤k→¬ lC listed i→Fact (fv pis i) fr σ) →
   wO P pis bs m ls (kW P gs (pis.drop m) K) k fr σ→GB pis.length listed≤fuel →
   jw P B w0 w σ μ→Fo w σ μ fr (o7 pis m listed) a→fP n ws σs μs w σ μ→wpAny P .any ops Q fuel listed a w:=by
 have hn:pis.length=ops.size:=by rw[(pE hp).1,aY]
 have hm:=hX.mn;intro fuel
 induction fuel with
 | zero =>
  intro k listed fr σ w μ a gO u0 hc wH hk rB Ij Dz hu hS hF MJ;have Ta:∀ i,i<pis.length→lC listed i:=fun i hi=>bo fun h=>by have:=Nu hi h;omega
  have js:∀ i,i<m→lC listed i:=fun i hi=>Ta i (by omega)
  have tJ:k=ls.length:=by
   refine bo fun iQ=>?_;have fk:k<ls.length:=by omega
   have:=(rB k ls[k] (aw fk)).1 (js _ (hX.UC _ (cK fk)).1);omega
  subst tJ;have e:ls[ls.length]?=none:=bR (aB _);simp only[wO,e]at Dz;rw[hX.all js]at hF
  exact Co hX hp hQ 0 m listed _ fr σ w μ a (aB _) hm gO (fun i hi=>⟨fun h=>bo fun h2=>wH i (by omega) hi h,fun h=>js i h⟩) (by
   have:=Jd hm wH;omega) ht Dz hS hF MJ
 | succ fuel ih =>
  intro k listed fr σ w μ a gO u0 hc wH hk rB Ij Dz hu hS hF MJ
  by_cases js:∀ i,i<m→lC listed i
  ·have tJ:k=ls.length:=by
    refine bo fun iQ=>?_;have fk:k<ls.length:=by omega
    have:=(rB k ls[k] (aw fk)).1 (js _ (hX.UC _ (cK fk)).1);omega
   subst tJ;have e:ls[ls.length]?=none:=bR (aB _);simp only[wO,e]at Dz;rw[hX.all js]at hF
   exact Co hX hp hQ _ m listed _ fr σ w μ a (aB _) hm gO (fun i hi=>⟨fun h=>bo fun h2=>wH i (by omega) hi h,fun h=>js i h⟩) (by
    have:=Jd hm wH;omega) ht Dz hS hF MJ
  ·refine⟨fun h=>absurd (fun i hi=>hX.first gO h i (by omega)) js,fun i hi=>?_⟩;obtain⟨hio,Qf,o,ho,_⟩:=ug gO hi;have F0:i<pis.length:=by omega
   have F3:∀ j,j<pis.length→tb bs i j=true→lC listed j:=fun j hj ht=>hX.ready hn gO hc hi hj ht
   have E3:i<m:=by
    refine bo fun h=>js fun j hj=>?_;exact F3 j (by omega) (hX.tail i j (by omega) F0 (by omega))
   obtain⟨p,hpi,Ra⟩:=(pE hp).2 i o (by simpa using ho);have qF:fv pis i=p:=by simp[fv,List.getD_eq_getElem?_getD,hpi]
   have fD:Lo (o7 pis m listed) p:=qF▸hX.ad9 hc E3 Qf F3
   have hclos':∀ x j,x<pis.length→j<pis.length→lC (listed.setIfInBounds i true) x→tb bs x j=true→lC (listed.setIfInBounds i true) j:=by
    intro x j hx hj hl ht;rw[fH (by omega)]at hl ⊢;rcases hl with rfl | hl
    ·exact .inr (F3 j hj ht)
    ·exact .inr (hc x j hx hj hl ht)
   have htl':∀ x,m≤x→x<pis.length→¬ lC (listed.setIfInBounds i true) x:=by
    intro x hx hxn hl;rw[fH (by omega)]at hl;rcases hl with rfl | hl
    ·omega
    ·exact wH x hx hxn hl
   have hu':GB pis.length (listed.setIfInBounds i true)≤fuel:=by
    have:=Nt F0 (by omega:i<listed.size) Qf;omega
   have ZK:∀ x,x<m→(fv pis x).i.dh=true→(∀ j,j<pis.length→tb bs x j=true→lC listed j)→FA bs ls x≤k:=by
    intro x hx hs hal';refine bo fun fk=>?_;have h1:FA bs ls x≤ls.length:=gS _ _;have h2:k<ls.length:=by omega
    have h3:=(hX.IM x k ls[k] hx hs (aw h2)).2 (by omega);have h4:=hal' ls[k] (by have:=(hX.UC _ (cK h2)).1;omega) h3;have:=(rB k ls[k] (aw h2)).1 h4;omega
   simp only[wpOp,ho]
   by_cases hs:p.i.dh=true
   ·
    have Ih:(fv pis i).i.dh=true:=by rw[qF];exact hs
    have hf:=Ij i E3 Ih (ZK i E3 Ih F3) Qf;rw[qF]at hf;refine YS Ra hS hF fD (OH hf) ?_;intro r σ' μ' a' w' k1 k2 k3 k4;simp only[St.mk.injEq]at k1;obtain⟨k1,rfl⟩:=k1;rw[k1]at k3;have e:tS (o7 pis m listed) p=o7 pis m (listed.setIfInBounds i true):=by rw[← qF];exact hX.tS E3 (by omega)
    rw[e]at k3;refine ih k _ fr σ' w' μ' a' (by simpa using gO) (fun f hf=>(fH (by omega)).2 (.inr (u0 f hf))) hclos' htl' hk (fun j L hL=>?_) (fun x hx Bk Q5 Ca=>Ij x hx Bk Q5 fun h=>Ca ((fH (by omega)).2 (.inr h))) Dz hu' k2 k3 (MJ.trans k4.Nv);rw[fH (by omega),rB j L hL]
    have:L≠i:=fun e=>by
     have:=(hX.UC L (bh hL)).2;rw[e,Ih]at this;simp at this
    simp[this]
   ·
    have Ih:(fv pis i).i.dh=false:=by rw[qF];simpa using hs
    obtain⟨j,hj⟩:=dr.1 ((hX.Kl i E3 Ih).resolve_right fun h=>Qf (u0 i h))
    have hjk:j=k:=by
     have h1:¬ j<k:=fun h=>Qf ((rB j i hj).2 h);refine bo fun iQ=>?_;have xO:=(ae.1 hj).1;have tJ:k<ls.length:=by omega
     have h2:=hX.Vu k j i ls[k] (by omega) (aw tJ) hj;have h3:=F3 ls[k] (by have:=(hX.UC _ (cK tJ)).1;omega) h2;have:=(rB k ls[k] (aw tJ)).1 h3;omega
    subst hjk;have xO:j<ls.length:=(ae.1 hj).1;simp only[wO,hj,qF]at Dz;refine opG Ra hS hF fD Dz ?_;intro r σ' μ' a' w' k1 k2 k3 k4;obtain⟨Z3,eP⟩:=k1;obtain⟨fr',h1,h2,h3,h4⟩:=hX.XN (k:=j+1) (by omega) eP;have e:tS (o7 pis m listed) p=o7 pis m (listed.setIfInBounds i true):=by rw[← qF];exact hX.tS E3 (by omega)
    rw[e]at k3
    have lQ:∀ x∈oG pis bs m ls (j+1),¬ lC (listed.setIfInBounds i true) x:=by
     intro x hx hl;rw[eG]at hx;rw[fH (by omega)]at hl;rcases hl with rfl | hl
     ·rw[Ih]at hx;simp at hx
     ·have:=ZK x hx.1 hx.2.1 fun y hy ht=>hc x y (by omega) hy hl ht;omega
    have DF:∀ t y,y<m→(fv pis y).d=some t→lC (listed.setIfInBounds i true) y→fr'[t]?=(fu fr p.d r)[t]?:=by
     intro t y hy hd hl;refine h3 t fun x hx hxd=>lQ x hx ?_;rw[hX.dst x y t (eG.1 hx).1 hy hxd hd];exact hl
    have hF':Fo w' σ' μ' fr' (o7 pis m (listed.setIfInBounds i true)) a':=by
     refine⟨k3.1,by rw[h4];exact k3.2.1,fun t x hx ch Bl=>?_⟩
     have S1:fr'[t]?=(fu fr p.d r)[t]?:=by
      rcases mB Bl with⟨_,qT⟩ | ⟨y,hy,hd,hl,_⟩
      ·exact h3 t fun x hx=>qT x (eG.1 hx).1
      ·exact DF t y hy hd hl
     have BT:chainB fr' ch=chainB (fu fr p.d r) ch:=by
      refine nA fun q hq=>?_;rcases mB Bl with⟨rfl,_⟩ | ⟨y,hy,hd,hl,rfl⟩
      ·simp at hq
      ·obtain⟨z,hz,hzd,hzt⟩:=hX.chain y q hy hq;exact DF q.1 z hz hzd (hclos' y z (by omega) (by omega) hl hzt)
     rw[BT];rw[S1]at hx;exact k3.2.2 t x hx ch Bl
    refine ih (j+1) _ fr' σ' w' μ' a' (by simpa using gO) (fun f hf=>(fH (by omega)).2 (.inr (u0 f hf))) hclos' htl' (by omega) (fun y L hL=>?_) (fun x hx Bk Q5 Ca=>?_) h1 hu' k2 hF' (MJ.trans k4.Nv)
    ·rw[fH (by omega),rB y L hL];constructor
     ·rintro(rfl | h)
      ·refine bo fun iQ=>?_;have h5:=hX.Vu j y L L (by omega) hj hL;have:=hX.lt E3 E3 h5;omega
      ·omega
     ·intro h;rcases fV y j with h5 | h5
      ·exact .inr h5
      ·have:y=j:=by omega
       subst this;rw[hL]at hj;simp only[aa]at hj;exact .inl hj
    ·by_cases hxj:FA bs ls x=j+1
     ·exact h2 x (eG.2 ⟨hx,Bk,hxj⟩)
     ·have hxj':FA bs ls x≤j:=by omega
      have S0:¬ lC listed x:=fun h=>Ca ((fH (by omega)).2 (.inr h));have ZQ:¬ tb bs i x=true:=fun h=>S0 (F3 x (by omega) h)
      have WD:Fact (fv pis x) (fu fr p.d r) σ':=by
       by_cases hr:(fv pis x).i.reads=true
       ·exact(Z3 (fv pis x) (bK.2 ⟨x,by simp[Ub,hx,Bk,hr,hxj',ZQ],rfl⟩)).fact
       ·have hr':(fv pis x).i.reads=false:=by simpa using hr
        refine Fact.still (Fact.agree (Ij x hx Bk hxj' S0) (fun t ht=>?_) (fun t ht=>?_) pY) hr'
        ·refine lK fun hd=>?_;have h5:=hX.rP hx E3 (qF▸hd) ht;have:=(hX.IM x j i hx Bk hj).1 h5;omega
        ·refine lK fun hd=>?_;have:=hX.dst x i t hx E3 ht (qF▸hd);subst this;rw[Bk]at Ih;simp at Ih
      refine Fact.agree WD (fun t ht=>?_) (fun t ht=>?_) h4
      ·refine h3 t fun y hy Wm=>?_;rw[eG]at hy;have:=hX.mono x y t hx Bk hy.1 hy.2.1 Wm ht;omega
      ·refine h3 t fun y hy Wm=>?_;rw[eG]at hy;have:=hX.dst x y t hx hy.1 ht Wm;subst this;omega
end
def Vl(ops:Array Oper)(pis:List Pi)(bs:List Nat)(m:Nat)(ls fl:List Nat):Bool :=
 decide (m≤pis.length) &&
 (((List.range ops.size).all fun i=>match ops[i]? with
  | some o=>o.after.toList.all fun e=>!Region.binds .any e||decide (e.on<i)
  | none=>true) &&
 (((List.range pis.length).all fun i=>(List.range pis.length).all fun j=>!tb bs i j||(decide (j<i)&&match ops[i]? with
  | some o=>o.after.toList.any fun e=>Region.binds .any e&&(e.on==j||tb bs e.on j)
  | none=>false)) &&
 (((List.range pis.length).all fun i=>decide (i<m)||(List.range i).all fun j=>tb bs i j) &&
 (((List.range m).all fun i=>(List.range i).all fun j=>match (fv pis i).d with
  | none=>true
  | some t=>(fv pis j).d != some t) &&
 (((List.range m).all fun i=>(fv pis i).i.dh||(ls.contains i||fl.contains i)) &&
 ((ls.all fun L=>decide (L<m)&&!(fv pis L).i.dh) &&
 (((List.range ls.length).all fun k=>(List.range k).all fun j=>tb bs (ls.getD k 0) (ls.getD j 0)) &&
 (((List.range m).all fun i=>!(fv pis i).i.dh||(List.range ls.length).all fun k=>tb bs i (ls.getD k 0)==decide (k<FA bs ls i)) &&
 (((List.range m).all fun i=>(fv pis i).i.oZ.all fun s=>(List.range m).all fun j=>(fv pis j).d != some s.1||(tb bs i j&&(fv pis j).g.isPrefixOf ((fv pis i).g++s.2))) &&
 (((List.range m).all fun i=>(fv pis i).g.all fun q=>(List.range m).any fun j=>(fv pis j).d==some q.1&&tb bs i j) &&
 (((List.range m).all fun i=>match (fv pis i).g.getLast? with
  | none=>true
  | some q=>(List.range m).all fun j=>(fv pis j).d != some q.1||(fv pis j).g==(fv pis i).g.dropLast) &&
 ((List.range m).all fun i=>!(fv pis i).i.dh||(List.range m).all fun j=>!(fv pis j).i.dh||match (fv pis j).d with
  | none=>true
  | some t=>!(looks (fv pis i)).contains t||decide (FA bs ls j≤FA bs ls i)))))))))))))
section
variable {P:Program} {ops:Array Oper} {pis:List Pi} {bs:List Nat} {m:Nat} {ls fl:List Nat}
theorem Iv{ls:List Nat}{k L:Nat}(h:ls[k]?=some L):ls.getD k 0=L:=by rw[List.getD_eq_getElem?_getD,h];rfl
theorem Si(h:Vl ops pis bs m ls fl=true)(_hn:pis.length=ops.size):Ch ops pis bs m ls fl:=by
 simp only[Vl,aC,bI,dd,decide_eq_true_eq]at h;obtain⟨h1,h2,h3,h4,h5,h6,h7,h8,h9,ML,Qo,h12,h13⟩:=h;constructor
 ·exact h1
 ·intro i o ho e he hb;have:=h2 i (cg.1 ho).1;rw[ho]at this;simp only[bI,gm,cm,decide_eq_true_eq]at this;rcases this e (Array.mem_toList_iff.2 he)with h | h
  ·rw[hb]at h;simp at h
  ·exact h
 ·intro i j hi hj ht;have:=h3 i hi j hj;rw[ht]at this;simp only[gU,kN,aC,decide_eq_true_eq]at this;refine⟨this.1,?_⟩;have h:=this.2;split at h
  ·rename_i o ho;simp only[List.any_eq_true,aC,gm,beq_iff_eq]at h;obtain⟨e,he,hb,hor⟩:=h;exact⟨o,ho,e,Array.mem_toList_iff.1 he,hb,hor⟩
  ·simp at h
 ·intro i j hmi hi hj;have:=h4 i hi;simp only[gm,decide_eq_true_eq,bI,dd]at this;rcases this with h | h
  ·omega
  ·exact h j hj
 ·intro i j t hi hj OC Tr
  have key:∀ i j,i<m→j<i→(fv pis i).d=some t→(fv pis j).d=some t→False:=by
   intro i j hi hj OC Tr;have:=h5 i hi j hj;rw[OC]at this;simp only[bne_iff_ne,ne_eq]at this;exact this Tr
  rcases Nat.lt_trichotomy i j with h | h | h
  ·exact(key j i hj h Tr OC).elim
  ·exact h
  ·exact(key i j hi h OC Tr).elim
 ·intro i hi hs;have:=h6 i hi;rw[hs]at this;simpa using this
 ·intro L hL;have:=h7 L hL;simpa using this
 ·intro j k L L' hjk hL' hL;have:=h8 k (ae.1 hL).1 j hjk
  rwa [Iv hL,Iv hL']at this
 ·intro i k L hi hs hL;have:=h9 i hi;rw[hs]at this;simp only[gU,kN,bI,dd,beq_iff_eq]at this;have:=this k (ae.1 hL).1;rw[Iv hL]at this;rw[this];simp
 ·intro i s j hi hs hj hd;have:=ML i hi s hs j hj;simp only[gm,bne_iff_ne,ne_eq,aC]at this;rcases this with h | h
  ·exact absurd hd h
  ·exact h
 ·intro i q hi hq;have:=Qo i hi q hq;simp only[List.any_eq_true,dd,aC,beq_iff_eq]at this;obtain⟨j,hj,h⟩:=this;exact⟨j,hj,h⟩
 ·intro i ch t b j hi hg hj hd;have:=h12 i hi;rw[hg]at this;simp only[iH,gd,ma,List.dropLast_concat,bI,dd,gm,bne_iff_ne,ne_eq,beq_iff_eq]at this;rcases this j hj with h | h
  ·exact absurd hd h
  ·exact h
 ·intro i j t hi hs hj hsj hd ht;have:=h13 i hi;rw[hs]at this;simp only[gU,kN,bI,dd]at this;have:=this j hj;rw[hsj,hd]at this;simp only[gU,kN,gm,cm,decide_eq_true_eq]at this;rcases this with h | h
  ·simp at h;exact absurd ht h
  ·exact h
def mX(bs:List Nat):Nat→Nat
 | 0=>0
 | i+1=>if bs.getD i 0==2^i - 1 then mX bs i else i+1
theorem yD{n B:Nat}{gs:List Nat}{K:St→Prop}{Q:Exit→Act→World→Prop}(hp:qH P ops ops.toList=some pis)(fD:Vl ops pis bs m ls []=true)
  (ht:EN (D0 pis m) (pis.drop m) gs=true) {fr:List V} {σ:ag} {w0 w:World} {μ:Mem} {a:Act}
  (h:tG P (Ei pis bs m ls 0 ls) ((oG pis bs m ls ls.length).map (fv pis)) (kW P gs (pis.drop m) K) ⟨fr,σ⟩)
  (hS:jw P B w0 w σ μ) (hF:FR w σ μ fr a)
  (hQ:∀ st' w' μ' a',K st'→jw P B w0 w' st'.σ μ'→FR w' st'.σ μ' st'.fr a'→fP n w σ μ w' st'.σ μ'→Q .normal a' w'):wpAny P .any ops Q ops.size (Array.replicate ops.size false) a { w with drawn:=w.drawn+1 }:=by
 have hn:pis.length=ops.size:=by rw[(pE hp).1,aY]
 have hX:=Si fD hn;obtain⟨hS',KF⟩:=hS.grown (w':={ w with drawn:=w.drawn+1 }) ⟨rfl,rfl,rfl,aB _,fun _ _ _=>rfl⟩;have hF':=hF.bY KF.bY;obtain⟨fr',h1,h2,h3,h4⟩:=hX.XN (k:=0) (iF _) (by simpa using h)
 have vX:∀ i,¬ lC (Array.replicate ops.size false) i:=by
  intro i;simp only[lC,bN,AR];split<;>simp
 refine yM (n:=n) hX hp (fun st' w' μ' a' k1 k2 k3 k4=>hQ st' w' μ' a' k1 k2 k3 (fP.trans KF.bY.Nv k4)) ht ops.size 0 _ fr' σ _ μ a (by simp) (by simp) (fun i j _ _ hl=>absurd hl (vX i)) (fun i _ _=>vX i) (iF _)
  (fun j L hL=>⟨fun hl=>absurd hl (vX L),fun h=>by omega⟩) (fun i hi hs ZK _=>h2 i (eG.2 ⟨hi,hs,by omega⟩)) h1 (by rw[hn];unfold GB;exact bZ (gS _ _) (by simp)) hS' ?_ (fP.refl _ _ _ _)
 refine⟨hF'.1,by rw[h4];exact hF'.2.1,fun t x hx ch Bl=>?_⟩;rcases mB Bl with⟨rfl,qT⟩ | ⟨y,hy,hd,hl,_⟩
 ·rw[h3 t fun i hi=>qT i (eG.1 hi).1]at hx;exact⟨fun _=>hF'.2.2 t x hx,fun h=>by simp[chainB]at h⟩
 ·exact absurd hl (vX y)
theorem JB{id n B:Nat}{gs:List Nat}{K:St→Prop}{Q:Exit→Act→World→Prop}(hm:P.follows .mixedOrders=true)(hp:qH P ops ops.toList=some pis)(fD:Vl ops pis bs m ls []=true)
  (ht:EN (D0 pis m) (pis.drop m) gs=true) {fr:List V} {σ:ag} {w0 w:World} {μ:Mem} {a:Act}
  (h:tG P (Ei pis bs m ls 0 ls) ((oG pis bs m ls ls.length).map (fv pis)) (kW P gs (pis.drop m) K) ⟨fr,σ⟩)
  (hS:jw P B w0 w σ μ) (hF:FR w σ μ fr a)
  (hQ:∀ st' w' μ' a',K st'→jw P B w0 w' st'.σ μ'→FR w' st'.σ μ' st'.fr a'→fP n w σ μ w' st'.σ μ'→Q .normal a' w'):(Code.region id ops true).wp P Q a w :=
 wp_region_any hm (yD hp fD ht h hS hF hQ)
end
def Ii(o:Oper)(j:Nat):Oper:={ o with after:=o.after.push { on:=j,ground:=.data } }
def waitsFor(ops:Array Oper)(i j:Nat):Array Oper:=ops.mapIdx fun k o=>if k=i then Ii o j else o
theorem kh(ops:Array Oper)(i j:Nat):(waitsFor ops i j).size=ops.size:=by simp[waitsFor]
theorem sd(ops:Array Oper)(i j k:Nat):(waitsFor ops i j)[k]?=(ops[k]?).map fun o=>if k=i then Ii o j else o:=by
 simp[waitsFor]
theorem jx{md:Region.Mode}{ops:Array Oper}{listed:Array Bool}{i j x:Nat}:x∈Region.ready md (waitsFor ops i j) listed↔x∈Region.ready md ops listed∧(x=i→listed.getD j false=true):=by
 simp only[Region.ready,cV,dd,kh,sd];rw[and_assoc];refine and_congr_right fun hx=>?_;have ho:ops[x]?=some ops[x]:=Array.getElem?_eq_getElem hx;simp only[ho,cU,oS]
 by_cases Q6:x=i
 ·subst Q6;have hb:Region.binds md { on:=j,ground:=Ground.data }=true:=rfl;simp only[if_true,Ii,Array.all_push,hb,gU,kN,aC,forall_const];constructor
  ·rintro⟨h1,h2,h3⟩;exact⟨⟨h1,h2⟩,h3⟩
  ·rintro⟨⟨h1,h2⟩,h3⟩;exact⟨h1,h2,h3⟩
 ·simp only[Q6,if_false,false_imp_iff,and_true]
theorem Eo(ops:Array Oper)(i j:Nat)(tmps:Array Value):yielded (waitsFor ops i j) tmps=yielded ops tmps:=by
 funext k;simp only[yielded,sd];cases ops[k]? with
 | none=>rfl
 | some o =>
  simp only[cU,jG]
  by_cases h:k=i<;>simp[h,Ii]
section
variable {P:Program} {Q:Exit→Act→World→Prop}
theorem sb{ops:Array Oper}{i j x:Nat}{K:Act→World→Prop}{a:Act}{w:World}:wpOp P (waitsFor ops i j) Q x K a w↔wpOp P ops Q x K a w:=by
 simp only[wpOp,sd,Eo];cases ops[x]? with
 | none=>exact IT
 | some o =>
  simp only[cU]
  by_cases h:x=i
  ·simp only[h,if_true];exact IT
  ·simp only[h,if_false]
def qM:Op→Bool
 | .move _ | .assign _ | .alloc _ | .box _ _ | .load _ _ | .store _ _ _ | .fieldAddr _ _ _=>true
 | _=>false
theorem LO{s:Sem Value}{w w':World}{n:Next}(h:(do pure (Next.value (← s)):Sem Next).run P w=.ok n w'):∃ v,n=.value v:=by
 rw[Sem.run_bind]at h;cases hs:s.run P w with
 | ok v w1 =>
  rw[hs]at h;simp only[Result.andThen_ok,Sem.run_pure,Result.ok.injEq]at h;exact⟨v,h.1.symm⟩
 | halt x w1=>rw[hs]at h;simp[Result.andThen]at h
theorem O5{s:Sem Unit}{w w':World}{n:Next}(h:(do s;pure Next.skip:Sem Next).run P w=.ok n w'):n=.skip:=by
 rw[Sem.run_bind]at h;cases hs:s.run P w with
 | ok v w1 =>
  rw[hs]at h;simp only[Result.andThen_ok,Sem.run_pure,Result.ok.injEq]at h;exact h.1.symm
 | halt x w1=>rw[hs]at h;simp[Result.andThen]at h
theorem MV{o:Oper}{ρ:Operand→Value}{w w':World}{n:Next}(hp:qM o.op=true)(h:(execOp ρ o).run P w=.ok n w'):(∃ v,n=.value v)∨n=.skip:=by
 obtain⟨d,op,t,p,af,g⟩:=o;simp only at hp;cases op<;>simp only[qM,aD]at hp
 all_goals simp only[execOp]at h
 all_goals first
  | exact .inl (LO h)
  | exact .inr (O5 h)
  | (simp only[Sem.run_pure,Result.ok.injEq]at h;exact .inl ⟨_,h.1.symm⟩)
theorem Yt{o:Oper}(hp:qM o.op=true){a:Act}{w:World}{K1 K2:Act→World→Prop}(h1:o.wp P a w K1 Q)(h2:o.wp P a w K2 Q):o.wp P a w (fun a w=>K1 a w∧K2 a w) Q:=by
 unfold Oper.wp at *;generalize hr:(execOp a.eval o).run P w=r at *;cases r with
 | ok n w' =>
  rcases MV hp hr with⟨v,rfl⟩ | rfl
  ·exact⟨h1,h2⟩
  ·exact⟨h1,h2⟩
 | halt x w'=>cases x<;>simp only[Oper.upon]at h1 h2 ⊢<;>exact h1
theorem Rk{ops:Array Oper}{x:Nat}(hp:∀ o,ops[x]?=some o→qM o.op=true){K1 K2:Act→World→Prop}{a:Act}{w:World}(h1:wpOp P ops Q x K1 a w)(h2:wpOp P ops Q x K2 a w):
  wpOp P ops Q x (fun a w=>K1 a w∧K2 a w) a w:=by
 unfold wpOp at *;cases ho:ops[x]? with
 | none=>simp only[ho]at h1 h2 ⊢;exact⟨h1,h2⟩
 | some o =>
  simp only[ho]at h1 h2 ⊢;split
  ·rename_i hw;simp only[hw,if_true]at h1 h2;rcases h1 with h1 | h1
   ·rcases h2 with h2 | h2
    ·exact .inl (Yt (hp o ho) h1 h2)
    ·exact .inr h2
   ·exact .inr h1
  ·rename_i hw;simp only[hw]at h1 h2;exact⟨h1,h2⟩
theorem tj{md:Region.Mode}{ops:Array Oper}{i j:Nat}:∀ (fuel:Nat) (listed:Array Bool) (a:Act) (w:World),listed.getD j false=true→wpAny P md (waitsFor ops i j) Q fuel listed a w→wpAny P md ops Q fuel listed a w:=by
 intro fuel
 induction fuel with
 | zero =>
  intro listed a w hj h;refine⟨?_,h.2⟩;refine cd.2 fun x hx=>?_;exact cd.1 h.1 x (jx.2 ⟨hx,fun _=>hj⟩)
 | succ fuel ih =>
  intro listed a w hj h;refine⟨fun hn=>h.1 (cd.2 fun x hx=>cd.1 hn x (jx.1 hx).1),fun x hx=>?_⟩;have:=h.2 x (jx.2 ⟨hx,fun _=>hj⟩);rw[sb]at this;refine wpOp_mono (fun a w hk=>ih _ a w ?_ hk) this;simp only[bN]at hj ⊢
  by_cases hxj:x=j
  ·subst hxj
   by_cases hs:x<listed.size
   ·simp[vA,hs]
   ·rw[Eg (by omega)]at hj;simp at hj
  ·rw[ei hxj];exact hj
theorem IX{md:Region.Mode}{ops:Array Oper}{i j:Nat}(Lu:i≠j)(hp:∀ x o,x≠i→x≠j→ops[x]?=some o→qM o.op=true):
  ∀ (fuel:Nat) (listed:Array Bool) (a:Act) (w:World),listed.size=ops.size→i<ops.size→j<ops.size→wpAny P md (waitsFor ops i j) Q fuel listed a w→wpAny P md (waitsFor ops j i) Q fuel listed a w→wpAny P md ops Q fuel listed a w:=by
 intro fuel
 induction fuel with
 | zero =>
  intro listed a w gO hi hj h1 h2;refine⟨?_,h1.2⟩;refine cd.2 fun x hx=>?_
  by_cases tC:x=i
  ·exact cd.1 h2.1 x (jx.2 ⟨hx,fun e=>absurd (tC.symm.trans e) Lu⟩)
  ·exact cd.1 h1.1 x (jx.2 ⟨hx,fun e=>absurd e tC⟩)
 | succ fuel ih =>
  intro listed a w gO hi hj h1 h2;refine⟨fun hn=>h1.1 (cd.2 fun x hx=>cd.1 hn x (jx.1 hx).1),fun x hx=>?_⟩
  by_cases tC:x=i
  ·have:=h2.2 x (jx.2 ⟨hx,fun e=>absurd (tC.symm.trans e) Lu⟩);rw[sb]at this;refine wpOp_mono (fun a w hk=>tj fuel _ a w ?_ hk) this;subst tC;simp[bN,vA,gO,hi]
  ·by_cases BR:x=j
   ·have:=h1.2 x (jx.2 ⟨hx,fun e=>absurd e tC⟩);rw[sb]at this;refine wpOp_mono (fun a w hk=>tj fuel _ a w ?_ hk) this;subst BR;simp[bN,vA,gO,hj]
   ·have k1:=h1.2 x (jx.2 ⟨hx,fun e=>absurd e tC⟩);have k2:=h2.2 x (jx.2 ⟨hx,fun e=>absurd e BR⟩);rw[sb]at k1 k2;refine wpOp_mono (fun a w hk=>ih _ a w (by simp[gO]) hi hj hk.1 hk.2) (Rk (fun o ho=>hp x o tC BR ho) k1 k2)
end
def sw(i j k:Nat):Nat:=if k=i then j else if k=j then i else k
theorem Cp(i j k:Nat):sw i j (sw i j k)=k:=by
 simp only[sw]
 (repeat' split)<;>omega
theorem Fy{i j k n:Nat}(hi:i<n)(hj:j<n):sw i j k<n↔k<n:=by
 simp only[sw]
 (repeat' split)<;>omega
def JA(i j:Nat)(o:Oper):Oper:={ o with after:=o.after.map fun e=>{ e with on:=sw i j e.on },guard:=o.guard.map fun g=>(sw i j g.1,g.2) }
def qJ(ops:Array Oper)(i j:Nat):Array Oper:=ops.mapIdx fun k o=>JA i j ((ops[sw i j k]?).getD o)
theorem Cq(ops:Array Oper)(i j:Nat):(qJ ops i j).size=ops.size:=by simp[qJ]
theorem zX{ops:Array Oper}{i j:Nat}(hi:i<ops.size)(hj:j<ops.size)(k:Nat):(qJ ops i j)[k]?=(ops[sw i j k]?).map (JA i j):=by
 simp only[qJ,Array.getElem?_mapIdx]
 by_cases hk:k<ops.size
 ·have tK:=(Fy (k:=k) hi hj).2 hk;simp[Array.getElem?_eq_getElem hk,Array.getElem?_eq_getElem tK]
 ·have tK:¬ sw i j k<ops.size:=fun h=>hk ((Fy hi hj).1 h);rw[Eg (by omega),Eg (by omega)];rfl
theorem Ui(md:Region.Mode)(e:Edge)(n:Nat):Region.binds md { e with on:=n }=Region.binds md e:=rfl
theorem CE{md:Region.Mode}{ops:Array Oper}{listed listed':Array Bool}{i j:Nat}(hi:i<ops.size)(hj:j<ops.size)(hL:∀ k d,listed'.getD k d=listed.getD (sw i j k) d){x:Nat}:
  x∈Region.ready md (qJ ops i j) listed'↔sw i j x∈Region.ready md ops listed:=by
 simp only[Region.ready,cV,dd,Cq,zX hi hj,Fy hi hj,hL];refine and_congr_right fun hx=>?_;have BR:=(Fy (k:=x) hi hj).2 hx;simp only[Array.getElem?_eq_getElem BR,cU,oS,JA,Array.all_map,Function.comp_def,Ui,hL,Cp]
theorem Lw{ops:Array Oper}{i j:Nat}(hi:i<ops.size)(hj:j<ops.size)(tmps:Array Value)(k:Nat):yielded (qJ ops i j) tmps (sw i j k)=yielded ops tmps k:=by
 simp only[yielded,zX hi hj,Cp];cases ops[k]?<;>rfl
section
variable {P:Program} {Q:Exit→Act→World→Prop}
theorem UP{ops:Array Oper}{i j x:Nat}(hi:i<ops.size)(hj:j<ops.size){K:Act→World→Prop}{a:Act}{w:World}:wpOp P (qJ ops i j) Q x K a w↔wpOp P ops Q (sw i j x) K a w:=by
 simp only[wpOp,zX hi hj];cases ops[sw i j x]? with
 | none=>exact IT
 | some o =>
  simp only[cU]
  have hw:Region.wanted (JA i j o) (yielded (qJ ops i j) a.tmps)=Region.wanted o (yielded ops a.tmps):=by
   obtain⟨d,op,t,p,af,g⟩:=o;cases g with
   | none=>rfl
   | some g=>simp only[Region.wanted,JA,cU,Lw hi hj]
  rw[hw];exact IT
theorem Rl{md:Region.Mode}{ops:Array Oper}{i j:Nat}(hi:i<ops.size)(hj:j<ops.size):∀ (fuel:Nat) (listed listed':Array Bool) (a:Act) (w:World),listed.size=ops.size→listed'.size=ops.size→(∀ k d,listed'.getD k d=listed.getD (sw i j k) d) →
  wpAny P md (qJ ops i j) Q fuel listed' a w→wpAny P md ops Q fuel listed a w:=by
 intro fuel
 induction fuel with
 | zero =>
  intro listed listed' a w hs hs' hL h;refine⟨?_,h.2⟩;refine cd.2 fun x hx=>?_;exact cd.1 h.1 (sw i j x) ((CE hi hj hL).2 (by rw[Cp];exact hx))
 | succ fuel ih =>
  intro listed listed' a w hs hs' hL h;refine⟨fun hn=>h.1 (cd.2 fun x hx=>cd.1 hn _ ((CE hi hj hL).1 hx)),fun x hx=>?_⟩;have:=h.2 (sw i j x) ((CE hi hj hL).2 (by rw[Cp];exact hx));rw[UP hi hj,Cp]at this
  have Ca:x<ops.size:=by
   simp only[Region.ready,cV,dd]at hx;exact hx.1
  refine wpOp_mono (fun a w hk=>ih _ _ a w (by simp[hs]) (by simp[hs']) (fun k d=>?_) hk) this;have h1:=hL k d;simp only[bN]at h1 ⊢;have BR:=(Fy (k:=x) hi hj).2 Ca
  by_cases hk:sw i j x=k
  ·subst hk;rw[Cp,Gy (by omega),Gy (by omega)]
  ·have tK:x≠sw i j k:=fun e=>hk (by rw[e,Cp]);rw[ei hk,ei tK];exact h1
theorem GR{ops:Array Oper}{id i j:Nat}{a:Act}{w:World}(hm:P.follows .mixedOrders=true)(Lu:i≠j)(hi:i<ops.size)(hj:j<ops.size)(hp:∀ x o,x≠i→x≠j→ops[x]?=some o→qM o.op=true)
  (h1:wpAny P .any (waitsFor ops j i) Q ops.size (Array.replicate ops.size false) a { w with drawn:=w.drawn+1 })
  (h2:wpAny P .any (qJ (waitsFor ops i j) i j) Q ops.size (Array.replicate ops.size false) a { w with drawn:=w.drawn+1 }):(Code.region id ops true).wp P Q a w:=by
 refine wp_region_any hm (IX Lu hp _ _ _ _ (by simp) hi hj ?_ h1);refine Rl (by rw[kh];exact hi) (by rw[kh];exact hj) _ _ _ _ _ (by simp[kh]) (by simp[kh]) (fun k d=>?_) h2;simp only[bN,AR,Fy hi hj]
end
end Go.Pm

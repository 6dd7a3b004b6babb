/- Part of a proof. -/
import Derived.Orders
import Derived.Test.YtfeddmfijllgmaaGreatDoorZ4
set_option linter.all false
open Option renaming some->S,none->Y
open Bool renaming true->G,false->Z
open List renaming length->X
namespace Go.Pm
open Go Go.RowKit
variable(U:Nat)(M:bl)(N:Nat){F:Mem}{B:Nat}{R:Oper}
structure Pi where
 d:de
 g:fu
 i:I
def zm:Pi:=⟨S U,[],.yk (.t N)⟩
def zl:Pi:=⟨S U,[],.load Y (.t N)⟩
def zL(x:Nat):Pi:=⟨S U,[],.load (S N) (.t x)⟩
def zf(x:Nat):Pi:=⟨S U,[],.Qp N (.t x)⟩
def z(d:Nat)(i:I):Pi:=⟨S d,[],i⟩
def zs(i:I):Pi:=⟨Y,[],i⟩
def BD(ops:Array Oper):Nat->Option (Nat×Bool)->Option (fu)
 |_,Y=>S []
 |0,S _=>Y
 |f+1,S (j,b)=>match ops[j]? with
  |some o=>match o.dst,BD ops f o.guard with
   |some t,S a=>S (a++[(t,b)])
   |_,_=>Y
  |none=>Y
def cPi(ops:Array Oper)(o:Oper):Option Pi :=
 match BD ops 8 o.guard with|some g=>S ⟨o.dst,g,(compile M o).getD .stop⟩|none=>Y
def sU(P:bl)(ops:Array Oper):List Oper->Option (List Pi)
 |[]=>S []
 |o::os=>match cPi P ops o,sU P ops os with
  |some p,S a=>S (p::a)
  |_,_=>Y
def gN(fr:ar):de->V->ar|none,_=>fr|some n,v=>fr.set n v
def Gv(f:Nat):Bool:=match M.funcs[f]? with|some a=>a.body.isSome&&a.name != "runtime.NumGoroutine"|none=>Z
def mV(p:Pi)(K:bU)(st:St):Prop :=
 match p.i with
 |.call f args=>PC M f (args.map (ev st.fr)) st.J (λr J'=>K ⟨gN st.fr p.d r,J'⟩)
 |.tE x args=>match ev st.fr x with
  |.fn f caps=>Gv M f=G/\PC M f (args.map (ev st.fr)++caps) st.J (λr J'=>K ⟨gN st.fr p.d r,J'⟩)
  |_=>False
 |i=>match ca st.fr st.J i with
  |some (a,v)=>a/\K ⟨gN st.fr p.d v,st.J⟩
  |none=>match dY st.fr st.J i with
   |some (a,v,J')=>a/\K ⟨gN st.fr p.d v,J'⟩
   |none=>False
def FR.put{w:bF}{J:ai}{fr:ar}{a:Act}(h:FR w J F fr a)(d:de){x:V}{v:Value}(j:VR w J F x v):FR w J F (gN fr d x) (a.put d v):=by
 cases d with
 |none=>exact h
 |some n =>
 obtain⟨k,f,g⟩:=h;refine⟨k,by simp[Act.put,gN,f],λi y b=>?_⟩;simp only[gN]at b;simp only[Act.put];by_cases c:n=i
 .subst c;by_cases e:n<X fr
  .rw[aN e]at b;simp only[aa]at b;subst b;have:n<a.tmps.size:=by omega
   simpa[this]using j
  rw[cp (by simp;omega)]at b;simp at b
 rw[bD c]at b;have:=g i y b;simp only[cC,fX c]at this |-;exact this
def Tq{P:bl}{a:Act}{w:bF}{args:Array Operand}{e:Array TypeId}{b:Func}(d:R.op=.call { callee:=.value (.func B),args,argTypes:=e })(c:P.funcs[B]?=S b)(j:b.body.isSome=G)(h:b.name ≠ "runtime.NumGoroutine") : (execOp a.eval R).run P w=.ok (.enter B (args.map a.eval)) w:=by
 have g:(b.name == "runtime.NumGoroutine")=Z:=by simpa using h
 have f:b.body.isNone=Z:=by cases i:b.body<;>simp_all
 simp only[execOp,d,resolve,Act.eval,Deferred.ofValue,invoke,callFunc,Sem.run_bind,Sem.run_pure,Result.andThen_ok,run_program,c,g,f,aI,bo,Array.empty_append,TI]
def QK{P:bl}{a:Act}{w:bF}{f:Nat}{args:Array Operand}{h:Array TypeId}{c:Array Value}(e:R.op=.call { callee:=.value (.tmp B),args,argTypes:=h })(j:a.tmps.getD B undef=.func (.func f) #[] c)(b:Gv P f=G): (execOp a.eval R).run P w=.ok (.enter f (args.map a.eval++c)) w:=by
 unfold Gv at b;split at b
 .rename_i d l;simp only[aV,TB,gj]at b;have k:(d.name == "runtime.NumGoroutine")=Z:=by simpa using b.2
  have i:d.body.isNone=Z:=by cases m:d.body<;>simp_all
  have g:a.eval (.tmp B)=.func (.func f) #[] c:=j;simp only[execOp,e,resolve,g,Deferred.ofValue,invoke,callFunc,Sem.run_bind,Sem.run_pure,Result.andThen_ok,run_program,l,k,i,aI,bo,Array.empty_append]
 simp at b
def Oy{P:bl}{p:Pi}{K:bU}{st:St}{V w:bF}{a:Act}(b:compile P R=S p.i)(M:R.dst=p.d)(h:mV P p K st)(U:kN P B V w st.J F)(o:FR w st.J F st.fr a){Q:Exit->Act->bF->Prop}: R.wp P a w (λa' C=>∃l j,K l/\kN P B V C l.J j/\FR C l.J j l.fr a'/\rJ w st.J F C l.J j/\(∃v,a'=a.put R.dst v)/\∃r,l.fr=gN st.fr p.d r) Q:=by
 unfold mV at h;split at h;.
  rename_i f N hi;rw[hi]at b;cases q:R.op with
  |call c =>
   simp only[compile,q]at b;obtain⟨callee,g,argTypes⟩:=c;unfold oW at b;dsimp only at b;split at b;.split at b<;>simp at b
   .split at b<;>simp at b
   .split at b<;>simp at b
   .split at b<;>(try simp at b;done);split at b<;>(try simp at b;done);split at b<;>(try simp at b;done);split at b;.split at b<;>simp at b
    split at b<;>(try simp at b;done)
   . (repeat' split at b)<;>(simp at b;done)
   .rename_i f' e1;split at b<;>(try simp only[reduceCtorEq]at b);rename_i fn XF;split at b<;>(try simp only[reduceCtorEq]at b);rename_i lR;simp only[aH,I.call.injEq]at b;obtain⟨ys,EK,rfl,rfl⟩:=b;have fY:=Tq (P:=P) (a:=a) (w:=w) q XF lR.1 lR.2;unfold Oper.wp;rw[fY];simp only[Oper.upon];obtain⟨H,W⟩:=NO o _ _ EK;refine(h B V w F (g.map a.eval) U ⟨by simp[H],λi y L=>?_⟩).mono ?_;.have:=W i y L;simpa[ax]using this
    rintro e C ⟨r,v,J',j,rfl,s,k,m,O⟩;refine⟨_,j,s,k,?_,O,⟨_,rfl⟩,_,rfl⟩;rw[M];exact(o.dX O).put p.d m
   .simp at b
   simp at b
  |buildSlice T len parts =>exfalso;simp only[compile,q]at b;(repeat' split at b)<;>(try (simp only[reduceCtorEq]at b;done));simp only[aH]at b;obtain⟨xs,_,n⟩:=b;split at n<;>simp at n
  |_ =>exfalso;simp only[compile,q]at b;(repeat' split at b)<;>first|(simp at b;done)|(simp_all;done)
 .
  rename_i x N hi;split at h;rotate_left;.exact h.elim
  rename_i f ac n;obtain⟨gB,h⟩:=h;rw[hi]at b;cases q:R.op with
  |call c =>
   simp only[compile,q]at b;obtain⟨callee,g,argTypes⟩:=c;unfold oW at b;dsimp only at b;split at b;.split at b<;>simp at b
   .split at b<;>simp at b
   .split at b<;>simp at b
   .split at b<;>(try simp at b;done);split at b<;>(try simp at b;done);split at b<;>(try simp at b;done);split at b;.split at b<;>simp at b
    split at b<;>(try simp at b;done)
   . (repeat' split at b)<;>(simp at b;done)
   .split at b<;>(try simp only[reduceCtorEq]at b);split at b<;>simp at b
   .rename_i t;simp only[aH,I.tE.injEq]at b;obtain⟨ys,EK,rfl,rfl⟩:=b;have m:=o.at t;simp only[ev]at n;rw[n]at m;generalize hg:a.tmps.getD t undef=u at m;cases m with
    |fn _ _ vs hl Du =>
    have fY:=QK (P:=P) (a:=a) (w:=w) q hg gB;unfold Oper.wp;rw[fY];simp only[Oper.upon];obtain⟨H,W⟩:=NO o _ _ EK;refine(h B V w F (g.map a.eval++vs) U ⟨by simp[H,hl],λi y L=>?_⟩).mono ?_
    .rcases jt i (ys.map (ev st.fr)).length with eX|SP
     .rw[bc eX]at L;have h3:=W i y L;have z:i<g.size:=by simpa[H]using eX
      simpa[cC,kP,z,ax]using h3
     rw[bB SP]at L;have h3:=Du _ y L;have z:g.size<=i:=by simpa[H]using SP
     simpa[cC,Array.getElem?_append_right,z,H]using h3
    rintro e C ⟨r,v,J',j,rfl,s,k,m,O⟩;refine⟨_,j,s,k,?_,O,⟨_,rfl⟩,_,rfl⟩;rw[M];exact(o.dX O).put p.d m
   simp at b
  |buildSlice T len parts =>exfalso;simp only[compile,q]at b;(repeat' split at b)<;>(try (simp only[reduceCtorEq]at b;done));simp only[aH]at b;obtain⟨xs,_,n⟩:=b;split at n<;>simp at n
  |_ =>exfalso;simp only[compile,q]at b;(repeat' split at b)<;>first|(simp at b;done)|(simp_all;done)
 rename_i i iV ad;split at h;.rename_i ob v hp;obtain⟨gE,s⟩:=h;obtain⟨u,C,E,hg,m⟩:=Pp b o U hp gE;obtain⟨k,D⟩:=U.grown hg;unfold Oper.wp;rw[E];simp only[Oper.upon];exact⟨_,F,s,k,by rw[M];exact(o.dX D.dX).put p.d m,D.dX,⟨_,rfl⟩,_,rfl⟩
 split at h
 .rename_i ob v J' n;obtain⟨gE,s⟩:=h;obtain⟨u,C,j,E,k,m,D⟩:=N1 b o U n gE;unfold Oper.wp;rcases E with E|⟨E,rfl⟩;.rw[E];simp only[Oper.upon];exact⟨_,j,s,k,by rw[M];exact(o.dX D.dX).put p.d m,D.dX,⟨_,rfl⟩,_,rfl⟩
  rw[E];simp only[Oper.upon];exact⟨_,j,s,k,by rw[M];exact(o.dX D.dX).put p.d (.u _),D.dX,⟨_,rfl⟩,_,rfl⟩
 exact h.elim
def I.os:I->List O|.yk x=>[x]|.pick c a b=>[c,a,b]|.box _ x=>[x]|.alloc _ _=>[]|.build _ parts=>parts.map (·.2.2)|.fT _ _ xs=>xs|.Tr _ _ _ _ xs=>xs|.load _ a=>[a]|.store _ _ a x=>[a,x]|.zo x=>[x]|.bin _ x y=>[x,y]|.beq _ _ x y=>[x,y]|.bbq _ x y=>[x,y]|.un _ x=>[x]|.cvi _ x=>[x]|.b2s x=>[x]|.slice _ x lo hi=>x::(lo.toList++hi.toList)|.u4 x lo hi=>x::(lo.toList++hi.toList)|.Qp _ x=>[x]|.idx _ x i=>[x,i]|.OE x i=>[x,i]|.QW _ _ x i=>[x,i]|.asl _ x=>[x]|.ext _ x=>[x]|.len _ x=>[x]|.max2 x y=>[x,y]|.min2 x y=>[x,y]|.app _ _ _ x y=>[x,y]|.apps _ x y=>[x,y]|.mk _ _ _ _ l c=>[l,c]|.GK _ _=>[]|.look _ _ _ m k=>[m,k]|.Sm _ _ m k x=>[m,k,x]|.IL x=>[x]|.call _ args=>args|.tE x args=>x::args|.clo _ xs=>xs|.QG _ _ x=>[x]|.stop=>[]
def O.slot:O->ed|.t n=>[n]|.c _=>[]
def I.q8:I->List (Nat×fu)|.pick (.t c) a b=>(c,[])::(a.slot.map (·,[(c,G)])++b.slot.map (·,[(c,Z)]))|i=>(i.os.flatMap O.slot).map (·,[])
def I.eV:I->Bool
 |.box _ _|.alloc _ _|.store _ _ _ _|.app _ _ _ _ _|.apps _ _ _|.mk _ _ _ _ _ _|.Tr _ _ _ _ _|.GK _ _|.Sm _ _ _ _ _|.QG _ _ _|.call _ _|.tE _ _|.stop=>Z
 |_=>true
def I.reads:I->Bool
 |.build _ _|.fT _ _ _|.load _ _|.zo _|.b2s _|.slice _ _ _ _|.Qp _ _|.idx _ _ _|.len _ _|.IL _|.look _ _ _ _ _=>G
 |_=>Z
section
variable {fr fr':ar} {J:ai}
def Dg{i:I}(h:∀x∈i.os,ev fr x=ev fr' x):ca fr J i=ca fr' J i:=by
 cases i with
 |build zs parts =>
  have g:∀p∈parts,ev fr p.2.2=ev fr' p.2.2:=λp d=>h _ (cP.2 ⟨p,d,rfl⟩);have s:(parts.map λ(e,j,x)=>(e,j,iE (ev fr x)))=parts.map λ(e,j,x)=>(e,j,iE (ev fr' x)) :=
   eH λp d=>by have u:=g p d;obtain⟨a,b,c⟩:=p;simp only at u |-;rw[u]
  have t:(∀p∈parts,jQ J (ev fr p.2.2)=G)=(∀p∈parts,jQ J (ev fr' p.2.2)=G) :=propext ⟨λk p d=>g p d▸k p d,λk p d=>(g p d).symm▸k p d⟩;simp only[ca,s,t]
 |fT j o l =>
  have g:∀p∈l,ev fr p=ev fr' p:=λp d=>h _ d;have s:(l.map λx=>eK o (iE (ev fr x)))=l.map λx=>eK o (iE (ev fr' x)) :=
   eH λp d=>by rw[g p d]
  have t:(∀p∈l,jQ J (ev fr p)=G)=(∀p∈l,jQ J (ev fr' p)=G) :=propext ⟨λk p d=>g p d▸k p d,λk p d=>(g p d).symm▸k p d⟩;simp only[ca,s,t]
 |slice j x n m =>have r:=h x (by simp[I.os]);have v:∀y,n=S y->ev fr y=ev fr' y:=λy f=>h y (by simp[I.os,f]);have w:∀y,m=S y->ev fr y=ev fr' y:=λy f=>h y (by simp[I.os,f]);cases n<;>cases m<;>simp_all [ca]
 |u4 x n m =>have r:=h x (by simp[I.os]);have v:∀y,n=S y->ev fr y=ev fr' y:=λy f=>h y (by simp[I.os,f]);have w:∀y,m=S y->ev fr y=ev fr' y:=λy f=>h y (by simp[I.os,f]);cases n<;>cases m<;>simp_all [ca]
 |len q x =>have r:=h x (by simp[I.os]);cases q<;>simp only[ca,r]
 |_=>simp_all [ca,I.os]
def N2{i:I}(h:∀x∈i.os,ev fr x=ev fr' x):dY fr J i=dY fr' J i:=by cases i<;>simp_all [dY,I.os]
def Po{J':ai}{i:I}(h:i.reads=Z):ca fr J i=ca fr J' i:=by cases i<;>simp_all [ca,I.reads]
def A4{i:I}{r:Prop×V}(h:ca fr J i=S r):i.eV=G:=by cases i<;>simp_all [ca,I.eV]
def Al{i:I}(h:i.eV=G):dY fr J i=Y:=by cases i<;>simp_all [dY,I.eV]
end
variable(E:Pi)(D:List (Nat×fu))(N:Nat->Option (fu)){F:Act}{v:Array Oper}{B:Nat}{R:Nat->Option (fu)}{M:Pi}{H:ai}{U:ar}
def chainB(fr:ar):fu->Option Bool
 |[]=>S G
 |(t,b)::r=>match fr.getD t .u with
  |.b x=>match chainB fr r with
   |some y=>S ((x==b)&&y)
   |none=>Y
  |_=>Y
def DO{fr:ar}:∀{ch:fu},chainB fr ch=S G<->∀p∈ch,fr.getD p.1 .u=.b p.2
 |[]=>by simp[chainB]
 |(t,b)::r=>by
  have ih:=DO (fr:=fr) (ch:=r);simp only[chainB,bw,Ew];rw[<- ih];split
  .rename_i x c;split;.rename_i y a;rw[c,a];cases x<;>cases b<;>cases y<;>simp
   rename_i a;simp[a]
  rename_i c;simp only[reduceCtorEq,false_iff,not_and];intro h;exact absurd h (c b)
def Jb{a b:fu}(h:chainB U b=S G)(d:a.isPrefixOf b=G):chainB U a=S G:=by rw[DO]at *;exact λp c=>h p ((List.isPrefixOf_iff_prefix.1 d).subset c)
def tU{fr:ar}:∀{a b:fu},chainB fr (a++b)=match chainB fr a,chainB fr b with
  |some x,S y=>S (x&&y)
  |_,_=>Y
 |[],b=>by simp only[aw,chainB];cases chainB fr b<;>simp
 |(t,w)::r,b=>by simp only[aF,chainB,tU (a:=r) (b:=b)];cases fr.getD t .u<;>simp;cases chainB fr r<;>cases chainB fr b<;>simp[Bool.and_assoc]
def abR{m:Nat}{x y:V}(h:B≠m):(U.set B x).getD m y=U.getD m y:=by simp[ax,bD h]
def xG{fr:ar}{d:de}{r:V}:∀{ch:fu},(∀p∈ch,d≠S p.1)->chainB (gN fr d r) ch=chainB fr ch
 |[],_=>by simp[chainB]
 |(t,b)::ch,h=>by have ih:=xG (fr:=fr) (d:=d) (r:=r) (ch:=ch) λp a=>h p (by simp[a]);have c:=h (t,b) (by simp);simp only[chainB,ih];cases d with|none=>rfl|some n =>have:n≠t:=λe=>c (by simp[e]);simp only[gN,abR this]
def DD(P:bl)(p:Pi)(c:Bool)(K:bU)(st:St):Prop :=
 match p.i with
 |.call f args=>(c=G->PC P f (args.map (ev st.fr)) st.J (λe J'=>K ⟨gN st.fr p.d e,J'⟩))/\(c=Z->∃r,K ⟨gN st.fr p.d r,st.J⟩)
 |.tE x args=>(c=G->match ev st.fr x with
  |.fn f caps=>Gv P f=G/\PC P f (args.map (ev st.fr)++caps) st.J (λe J'=>K ⟨gN st.fr p.d e,J'⟩)
  |_=>False)/\(c=Z->∃r,K ⟨gN st.fr p.d r,st.J⟩)
 |.load k a=>match ev st.fr a with
  |.ptr _ _=>match ca st.fr st.J (.load k a)with
   |some (b,v)=>(c=G->b)/\K ⟨gN st.fr p.d v,st.J⟩
   |none=>False
  |_=>∃v,(c=G->∃b,ca st.fr st.J (.load k a)=S (b,v)/\b)/\K ⟨gN st.fr p.d v,st.J⟩
 |i=>match ca st.fr st.J i with
  |some (b,v)=>(c=G->b)/\K ⟨gN st.fr p.d v,st.J⟩
  |none=>False
def gI(P:bl)(p:Pi)(K:bU)(st:St):Prop :=
 match p.g with
 |[]=>mV P p K st
 |_::_=>match chainB st.fr p.g with
  |some c=>DD P p c K st
  |none=>False
def Hl{P:bl}{c:Bool}{K:bU}{st:St}(h:DD P M c K st)(p:∀f b,M.i≠.call f b)(q:∀x b,M.i≠.tE x b): ∃r,K ⟨gN st.fr M.d r,st.J⟩/\(c=G->mV P M (λl=>l=⟨gN st.fr M.d r,st.J⟩) st):=by
 obtain⟨d,g,i⟩:=M;cases i with
 |call f b=>exact absurd rfl (p f b)
 |load k a =>
  simp only[DD]at h;split at h
  .split at h;.rename_i m v j;exact⟨v,h.2,λe=>by simp only[mV,j];exact⟨h.1 e,trivial⟩⟩
   exact h.elim
  obtain⟨v,t,n⟩:=h;refine⟨v,n,λe=>?_⟩;obtain⟨m,o,s⟩:=t e;simp only[mV,o];exact⟨s,trivial⟩
 |tE x b=>exact absurd rfl (q x b)
 |_ =>
 simp only[DD]at h;split at h;.rename_i m v j;exact⟨v,h.2,λe=>by simp only[mV,j];exact⟨h.1 e,trivial⟩⟩
 exact h.elim
def ER{fr':ar}{x:O}(h:∀s∈x.slot,U.getD s .u=fr'.getD s .u):ev U x=ev fr' x:=by cases x with|t n=>exact h n (by simp[O.slot])|c v=>rfl
def Y3{P:bl}{K:bU}{fr':ar}{J:ai}(h:∀x∈M.i.os,ev U x=ev fr' x)(b:mV P M K ⟨U,J⟩): mV P M (λj=>∃r,j.fr=gN fr' M.d r/\K ⟨gN U M.d r,j.J⟩) ⟨fr',J⟩:=by
 obtain⟨d,g,i⟩:=M;by_cases p:∃f a,i=.call f a;.obtain⟨f,a,rfl⟩:=p;have e:a.map (ev U)=a.map (ev fr'):=eH λx u=>h x u;simp only[mV]at b |-;rw[<- e];exact b.mono λr J' m=>⟨r,rfl,m⟩
 by_cases s:∃x a,i=.tE x a
 .obtain⟨x,a,rfl⟩:=s;have e:a.map (ev U)=a.map (ev fr'):=eH λy t=>h y (by simp[I.os,t]);have l:=h x (by simp[I.os]);simp only[mV]at b |-;rw[<- e,<- l];split at b;.exact⟨b.1,b.2.mono λr J' m=>⟨r,rfl,m⟩⟩
  exact b.elim
 have q:=Dg (J:=J) h;have l:=N2 (J:=J) h;have o:∀(c:ar) (k:bU),mV P ⟨d,g,i⟩ k ⟨c,J⟩=match ca c J i with
   |some (n,v)=>n/\k ⟨gN c d v,J⟩
   |none=>match dY c J i with
    |some (n,v,J')=>n/\k ⟨gN c d v,J'⟩
    |none=>False:=by intro c k;cases i<;>first|rfl|(exfalso;exact p ⟨_,_,rfl⟩)|(exfalso;exact s ⟨_,_,rfl⟩)
 simp only at q l;rw[o]at b |-;rw[<- q,<- l];split at b;.exact⟨b.1,_,rfl,b.2⟩
 split at b;.exact⟨b.1,_,rfl,b.2⟩
 exact b.elim
def Oz{P:bl}{p:Pi}{K:bU}{fr fr':ar}(h:∀s∈p.i.q8,chainB fr s.2=S G->fr.getD s.1 .u=fr'.getD s.1 .u)(m:mV P p K ⟨fr,H⟩): mV P p (λl=>∃r,l.fr=gN fr' p.d r/\K ⟨gN fr p.d r,l.J⟩) ⟨fr',H⟩:=by
 by_cases w:∃c a b,p.i=.pick (.t c) a b
 .obtain⟨c,x,y,n⟩:=w;obtain⟨d,g,i⟩:=p;simp only at n;subst n;have B:fr.getD c .u=fr'.getD c .u:=h (c,[]) (by simp[I.q8]) (by simp[chainB]);have o:fr.getD c .u=.b G->ev fr x=ev fr' x:=λk=>ER λs f=>h (s,[(c,G)]) (by simp[I.q8,f]) (by simp only[chainB,k];rfl);have z:fr.getD c .u=.b Z->ev fr y=ev fr' y:=λk=>ER λs f=>h (s,[(c,Z)]) (by simp[I.q8,f]) (by simp only[chainB,k];rfl);simp only[mV,ca,ev]at m |-;rw[<- B];split at m
  .rename_i C v j;split at j
   .rename_i b k;simp only[aa,aY]at j;obtain⟨rfl,rfl⟩:=j;refine⟨trivial,_,rfl,?_⟩;have e:(match ev fr x,ev fr y with
      |.b p,.b q=>V.b (bif b then p else q)
      |p,q=>bif b then p else q)=(match ev fr' x,ev fr' y with
      |.b p,.b q=>V.b (bif b then p else q)
      |p,q=>bif b then p else q):=by
     have gen:∀p q:V,(match p,q with|.b p,.b q=>V.b (bif b then p else q)|p,q=>bif b then p else q)=bif b then p else q:=by intro p q;cases b<;>cases p<;>cases q<;>rfl
     rw[gen,gen];cases b;.simp only[TA];exact z k
     simp only[cond_true];exact o k
    exact Eq.mp (congrArg (λv=>K ⟨gN fr d v,H⟩) e) m.2
   simp at j
  rename_i j;split at j;.simp at j
  simp only[dY]at m
 refine Y3 (λx o=>ER λs f=>h (s,[]) ?_ (by simp[chainB])) m;have:p.i.q8=(p.i.os.flatMap O.slot).map (·,[]):=by
  unfold I.q8;split;.rename_i c a b n;exact absurd ⟨c,a,b,n⟩ w
  rfl
 rw[this];exact cP.2 ⟨s,Ex.2 ⟨x,o,f⟩,rfl⟩
def Jf(w:bF)(J:ai)(d:Mem)(fr:ar)(c:Nat->Option (fu))(a:Act):Prop :=a.defers=[]/\a.tmps.size=X fr/\∀t x,fr[t]?=S x->∀b,c t=S b ->(chainB fr b=S G->VR w J d x (a.tmps.getD t undef))/\(chainB fr b=S Z->a.tmps.getD t undef=undef)
def mkF(fr:ar):ar:=fr.mapIdx λt x=>match N t with|some a=>if chainB fr a=S G then x else .u|none=>.u
def Jf.mask{w:bF}{a:Mem}(h:Jf w H a U R F):FR w H a (mkF R U) F:=by
 refine⟨h.1,by simp[mkF,h.2.1],λt x b=>?_⟩;simp only[mkF,List.getElem?_mapIdx,aH]at b;obtain⟨y,c,rfl⟩:=b;split
 .rename_i d e;split;.rename_i f;exact(h.2.2 t y c d e).1 f
  exact .u _
 exact .u _
def aij{a:fu}(b:R B=S a)(c:chainB U a=S G):(mkF R U).getD B .u=U.getD B .u:=by simp only[mkF,ax,List.getElem?_mapIdx,b,c,aR];cases U[B]?<;>rfl
structure Q3 (inf:Nat->Option (fu)) (p:Pi):Prop where
 q8:∀s∈p.i.q8,∃ch,inf s.1=some ch/\ch.isPrefixOf (p.g++s.2)=true
 guard:∀ch t b,p.g=ch++[(t,b)]->inf t=some ch
 fresh:∀d,p.d=some d->(∀q∈p.g,q.1≠d)/\∀t ch,inf t=some ch->∀q∈ch,q.1≠d
def wj(p:Pi):Nat->Option (fu):=λt=>if p.d=S t then S p.g else N t
def WE{d:de}{v:Value}(h:d≠S B):(F.put d v).tmps.getD B undef=F.tmps.getD B undef:=by cases d with|none=>rfl|some n =>have a:n≠B:=λe=>h (by simp[e]);simp only[Act.put,cC,fX a]
def Ph{v:Value}(h:B<F.tmps.size):(F.put (S B) v).tmps.getD B undef=v:=by simp[Act.put,h]
def nh{d:de}{r:V}(h:d≠S B):(gN U d r)[B]?=U[B]?:=by cases d with|none=>rfl|some n =>have a:n≠B:=λe=>h (by simp[e]);simp only[gN,bD a]
def r6{d:de}{r:V}:X (gN U d r)=X U:=by cases d<;>simp[gN]
def Pg{d:de}{v:Value}:(F.put d v).tmps.size=F.tmps.size/\(F.put d v).defers=F.defers:=by cases d<;>simp[Act.put]
def Jf.xX{w k:bF}{J':ai}{m c:Mem}{p:Pi}{r:V}{v:Value}(h:Jf w H m U R F)(n:Q3 R p)(u:rJ w H m k J' c) (h1:∀t,p.d=S t->t<U.length->chainB U p.g=S G->VR k J' c r v) (s:chainB U p.g=S Z->v=undef):Jf k J' c (gN U p.d r) (wj R p) (F.put p.d v):=by
 refine⟨by rw[Pg.2];exact h.1,by rw[Pg.1,r6];exact h.2.1,λt x f j i=>?_⟩;by_cases b:p.d=S t
 .have o:=n.fresh t b;simp only[wj,b,aR,aa]at i;subst i;have a:t<U.length:=by have:=(ag.1 f).1;rwa [r6]at this
  rw[b]at f;simp only[gN,aN a,aa]at f;subst f;have e:chainB (gN U p.d r) p.g=chainB U p.g:=xG λq l e=>o.1 q l (by rw[b]at e;exact(kW e).symm);rw[e,b,Ph (by rw[h.2.1];exact a)];exact⟨h1 t b a,s⟩
 simp only[wj,b,bo]at i;rw[nh b]at f;have e:chainB (gN U p.d r) j=chainB U j:=xG λq l e=>(n.fresh q.1 e).2 t j i q l rfl;rw[e,WE b];have:=h.2.2 t x f j i;exact⟨λy=>u _ _ (this.1 y),this.2⟩
def GI(P:bl)(p:Pi)(K:bU)(fr:ar)(J:ai):Prop :=∃c,chainB fr p.g=S c/\((c=G/\∃b:bU,mV P p b ⟨fr,J⟩/\∀a,b a->K a)\/(c=Z/\∃r,K ⟨gN fr p.d r,J⟩))
def apA{P:bl}{K:bU}(h:gI P M K ⟨U,H⟩):GI P M K U H:=by
 unfold gI at h;split at h;.rename_i o;exact⟨G,by rw[o];rfl,.inl ⟨rfl,K,h,λ_ h=>h⟩⟩
 split at h
 .rename_i c b;by_cases l:∃f a,M.i=.call f a
  .obtain⟨f,a,j⟩:=l;obtain⟨d,g,i⟩:=M;simp only at j;subst j;cases c with
   |true=>exact⟨G,b,.inl ⟨rfl,K,h.1 rfl,λ_ h=>h⟩⟩
   |false=>exact⟨Z,b,.inr ⟨rfl,h.2 rfl⟩⟩
  by_cases m:∃x a,M.i=.tE x a
  .obtain⟨x,a,j⟩:=m;obtain⟨d,g,i⟩:=M;simp only at j;subst j;cases c with
   |true=>exact⟨G,b,.inl ⟨rfl,K,h.1 rfl,λ_ h=>h⟩⟩
   |false=>exact⟨Z,b,.inr ⟨rfl,h.2 rfl⟩⟩
  obtain⟨r,k,n⟩:=Hl h (λf a e=>l ⟨f,a,e⟩) λx a e=>m ⟨x,a,e⟩;cases c with
  |true=>exact⟨G,b,.inl ⟨rfl,_,n rfl,λp e=>e▸k⟩⟩
  |false=>exact⟨Z,b,.inr ⟨rfl,r,k⟩⟩
 exact h.elim
def aia{P:bl}{o:Oper}{p:Pi}(O:cPi P v o=S p){w0 w:bF}{μ:Mem}{K:bU} (hS:kN P B w0 w H μ) (L:Jf w H μ U R F) (gB:Q3 R p) (hK:GI P p K U H) {a:Act->bF->Prop} {Q:Exit->Act->bF->Prop} (hR:∀r J' m a' I,K ⟨gN U p.d r,J'⟩->kN P B w0 I J' m->Jf I J' m (gN U p.d r) (wj R p) a'->rJ w H μ I J' m->a a' I) : if Region.wanted o (yielded v F.tmps)then o.wp P F w a Q\/(o.asks P F w/\LetsOut Q)else a (F.put o.dst undef) w:=by
 unfold cPi at O;split at O<;>simp only[aa,reduceCtorEq]at O;rename_i g n;obtain⟨i,C⟩:∃i,i=(compile P o).getD .stop:=⟨_,rfl⟩;rw[<- C]at O;subst O;have W:∀K':bU,chainB U g=S G->mV P ⟨o.dst,g,i⟩ K' ⟨U,H⟩->(∀u,K' u->K u)->o.wp P F w a Q:=by
  intro K' DC hs Q9;have hi:compile P o=S i:=by cases SV:compile P o with|none=>rw[SV]at C;simp only[ac1]at C;subst C;simp[mV,ca,dY]at hs|some j=>rw[SV]at C;simp only[nS]at C;rw[C]
  have T:=Oz (fr':=mkF R U) (λs ac af=>by obtain⟨ch,D,h3⟩:=gB.q8 s ac;exact(aij D (Jb (by rw[tU,DC,af];rfl) h3)).symm) hs;refine Oper.wp_mono ?_ (Oy (p:=⟨o.dst,g,i⟩) hi rfl T hS L.mask);rintro a' I ⟨u,m,⟨r,D,h3⟩,h4,h5,h6,⟨e,rfl⟩,_⟩;have N:(mkF R U).length=U.length:=by simp[mkF]
  refine hR r u.J m _ I (Q9 _ h3) h4 (L.xX gB h6 (λt M E _=>?_) λh=>by simp only at h;rw[DC]at h;simp at h) h6;simp only at M D;have h7:=h5.2.2 t r (by rw[D,M];simp only[gN];rw[aN (by rw[N];exact E)]);rwa [M,Ph (by rw[L.2.1];exact E)]at h7
 have guard:∀c,chainB U g=S c->Region.wanted o (yielded v F.tmps)=c:=by
  intro c k;cases f:o.guard with
  |none =>rw[f]at n;simp only[BD,aa]at n;subst n;simp only[chainB,aa]at k;subst k;simp[Region.wanted,f]
  |some jb =>
  obtain⟨j,b⟩:=jb;rw[f]at n;simp only[BD]at n;split at n<;>(try simp only[reduceCtorEq]at n);rename_i oj XC;split at n<;>simp only[aa,reduceCtorEq]at n;rename_i t ch M DC;subst n;have ad:=gB.guard ch t b rfl;rw[tU]at k;split at k<;>simp only[aa,reduceCtorEq]at k;rename_i x y hx V;simp only[chainB]at V;split at V<;>simp only[aa,reduceCtorEq]at V;rename_i z hz;simp only[db]at V;have E:t<U.length:=by
   rcases jt t U.length with h|h;.exact h
   rw[ax,cp h]at hz;simp at hz
  have dP:U[t]?=S (.b z):=by rw[ax,aA E]at hz;rw[aA E];simpa using hz
  have hv:=L.2.2 t _ dP ch ad;have Dx:t<F.tmps.size:=by rw[L.2.1];exact E
  have l:yielded v F.tmps j=match F.tmps.getD t undef with|.bool q=>S q|_=>Y:=by
   unfold yielded;simp only[XC,js,M];rw[bZ Dx];have:F.tmps.getD t undef=F.tmps[t]:=by simp[Dx]
   rw[this];cases F.tmps[t]<;>rfl
  subst k V;cases x;.rw[hv.2 hx]at l;simp only[undef]at l;simp[Region.wanted,f,l]
  rw[(hv.1 hx).uI]at l;simp[Region.wanted,f,l]
 obtain⟨c,k,nI⟩:=hK;rcases nI with⟨rfl,K',T,D⟩|⟨rfl,r,T⟩;.rw[aO (guard G k)];exact .inl (W K' k T D)
 have hw:=guard Z k;rw[hw];simp only[aI,bo];exact hR r H μ _ w T hS (L.xX (p:=⟨o.dst,g,i⟩) gB (rJ.refl _ _ _) (λt _ _ h=>by simp only at h;rw[k]at h;simp at h) λ_=>rfl) (rJ.refl _ _ _)
def opG{P:bl}{o:Oper}(l:cPi P v o=S M){f w:bF}{e:Mem}{K:bU} (h:kN P B f w H e) (m:Jf w H e U R F) (k:Q3 R M) (j:gI P M K ⟨U,H⟩) {a:Act->bF->Prop} {Q:Exit->Act->bF->Prop} (i:∀r J' b g c,K ⟨gN U M.d r,J'⟩->kN P B f c J' b->Jf c J' b (gN U M.d r) (wj R M) g->rJ w H e c J' b->a g c) : if Region.wanted o (yielded v F.tmps)then o.wp P F w a Q\/(o.asks P F w/\LetsOut Q)else a (F.put o.dst undef) w :=
 aia l h m k (apA j) i
def QG(a:ed)(fr:ar):ar:=a.foldl (λfr s=>fr.set s .u) fr
def mG(P:bl)(a:ed):List Pi->(bU)->bU|[],K,st=>K ⟨QG a st.fr,st.J⟩|p::ps,K,st=>gI P p (mG P a ps K) st
def tf(t:Nat):fu:=(D.lookup t).getD []
def acU(p:Pi):List (Nat×fu):=match p.d with|some d=>(d,p.g)::D|none=>D
def PE(p:Pi):Bool :=p.i.q8.all (λs=>(tf D s.1).isPrefixOf (p.g++s.2)) &&
 (match p.g.getLast? with
  |none=>G
  |some q=>tf D q.1==p.g.dropLast) &&
 (match p.d with|none=>G|some d=>p.g.all (λq=>q.1 != d)&&D.all λe=>e.2.all λq=>q.1 != d)
def IF:List (Nat×fu)->List Pi->ed->Bool
 |D,[],gs=>D.all λe=>e.2.isEmpty||gs.contains e.1
 |D,p::ps,gs=>PE D p&&IF (acU D p) ps gs
def Bh(t:Nat):Option (fu):=S (tf D t)
def yp{D:List (Nat×fu)}{t:Nat}:tf D t=[]\/(t,tf D t)∈D:=by
 induction D with
 |nil=>exact .inl rfl
 |cons e D ih =>
 obtain⟨s,a⟩:=e;simp only[tf,ac4];by_cases h:t=s;.subst h;right;simp
 have:(t==s)=Z:=by simpa using h
 rw[this];simp only[tf]at ih;rcases ih with h|h;.exact .inl h
 exact .inr (cd _ h)
def Gu{D:List (Nat×fu)}(h:PE D M=G):Q3 (Bh D) M:=by
 simp only[PE,aV,dd]at h;obtain⟨⟨i,e⟩,c⟩:=h;refine⟨λs k=>⟨_,rfl,i s k⟩,λj t b l=>?_,λd g=>?_⟩;.rw[l]at e;simp only[kj,iZ,nR,List.dropLast_concat,dM]at e;simp[Bh,e]
 rw[g]at c;simp only[aV,dd,TB,gj]at c;refine⟨λq a=>c.1 q a,λt j f q a=>?_⟩;simp only[Bh,aa]at f;subst f;rcases yp (D:=D) (t:=t)with h|h;.rw[h]at a;simp at a
 exact c.2 _ h q a
def BQ{D:List (Nat×fu)}:wj (Bh D) M=Bh (acU D M):=by
 funext t;simp only[wj,Bh,acU];cases b:M.d with
 |none=>simp
 |some d =>
 by_cases h:d=t;.subst h;simp[tf]
 have a:(t==d)=Z:=by simpa using λe=>h e.symm
 simp[h,tf,ac4,a]
def acw:∀(a:ed) (fr:ar) (t:Nat),(QG a fr)[t]?=if t∈a then(fr[t]?).map (λ_=>V.u)else fr[t]?
 |[],fr,t=>by simp[QG]
 |s::a,fr,t=>by
  have ih:=acw a (fr.set s .u) t;simp only[QG,bT]at ih |-;rw[ih];by_cases b:s=t;.subst b;simp only[bw,true_or,aR];rw[aqE];split<;>cases fr[s]?<;>rfl
  rw[bD b];have:(t∈s::a)<->t∈a:=by simp[BM b]
  simp only[this]
def Jf.ends{w:bF}{d:Mem}{D:List (Nat×fu)}{gs:ed}(h:Jf w H d U (Bh D) F)(e:IF D [] gs=G):FR w H d (QG gs U) F:=by
 refine⟨h.1,?_,λt x a=>?_⟩
 .rw[h.2.1];have:∀(gs:ed) (U:ar),X (QG gs U)=X U:=by intro gs;induction gs with|nil=>intro U;rfl|cons s gs ih=>intro U;simp only[QG,bT]at ih |-;rw[ih];simp
  rw[this]
 rw[acw]at a;split at a;.rw[aH]at a;obtain⟨_,_,rfl⟩:=a;exact .u _
 rename_i c;refine(h.2.2 t x a _ rfl).1 ?_;have:tf D t=[]:=by
  rcases yp (D:=D) (t:=t)with h|h;.exact h
  simp only[IF,dd]at e;have:=e _ h;simp only[iG,List.isEmpty_iff,List.contains_eq_mem,bz]at this;rcases this with b|b;.exact b
  exact absurd b c
 rw[this];simp[chainB]
def apP(P:bl)(n B:Nat)(g w:bF)(J:ai)(d:Mem)(K:bG)(e:Exit)(f:Act)(c:bF):Prop :=∃a b,K e a/\kN P B g c a.J b/\FR c a.J b a.fr f/\iL n w J d c a.J b
def zH{P:bl}{ops:Array Oper}{n B:Nat}{gs:ed}{w0 ws:bF}{σs:ai}{μs:Mem}{K:bU}{Q:Exit->Act->bF->Prop} (f:∀st w b a,K st->kN P B w0 w st.J b->FR w st.J b st.fr a->iL n ws σs μs w st.J b->Q .normal a w) : ∀(l:List Oper) (k:Nat) (c:List Pi) (D:List (Nat×fu)) (fr:ar) (J:ai) (w:bF) (b:Mem) (a:Act),(∀j,l[j]?=ops[k+j]?)->sU P ops l=S c->IF D c gs=G->mG P gs c K ⟨fr,J⟩ ->kN P B w0 w J b->Jf w J b fr (Bh D) a->iL n ws σs μs w J b ->wpOps P ops Q ((List.range (X l)).map (k+·)) a w
 |[],k,c,D,fr,J,w,b,a,_,hc,hD,hr,hS,hF,hk=>by simp only[sU,aa]at hc;subst hc;exact f _ w b a hr hS (hF.ends hD) hk
 |o::l,k,c,D,fr,J,w,b,a,hl,hc,hD,hr,hS,hF,hk=>by
  simp only[sU]at hc;split at hc<;>simp only[aa,reduceCtorEq]at hc;rename_i p v t e;subst hc;simp only[IF,aV]at hD;have u:ops[k]?=S o:=by have:=hl 0;simpa using this.symm
  have y:(List.range (X (o::l))).map (k+·)=k::(List.range (X l)).map (k+1+·):=by rw[ah,tV,az,kO];simp only[cg];congr 1;apply eH;intro x _;simp only[Function.comp];omega
  rw[y];simp only[wpOps,u];refine opG t hS hF (Gu hD.1) hr ?_;intro r J' d m h s i g q;rw[BQ]at g;exact zH f l (k+1) v _ _ _ h d m (λj=>by have:=hl (j+1);rw[cA]at this;rw[this];congr 1;omega) e hD.2 s i g (hk.trans q.Rp)
def FR.toI{w:bF}{a:Mem}(h:FR w H a U F):Jf w H a U (Bh []) F :=⟨h.1,h.2.1,λt x c d b=>by simp only[Bh,tf,List.lookup_nil,ac1,aa]at b;subst b;exact⟨λ_=>h.2.2 t x c,λh=>by simp[chainB]at h⟩⟩
def tb(bs:ed)(i j:Nat):Bool:=(bs.getD i 0).testBit j
def iq(pis:List Pi)(i:Nat):Pi:=pis.getD i ⟨Y,[],.alloc 0 []⟩
def Jq(bs ls:ed)(i:Nat):Nat:=X (ls.filter (tb bs i))
def qv(pis:List Pi)(bs:ed)(m:Nat)(ls:ed)(k:Nat):ed:=(List.range m).filter λi=>(iq pis i).i.eV&&Jq bs ls i==k
def acz(pis:List Pi)(bs:ed)(m:Nat)(ls:ed)(k L:Nat):ed :=(List.range m).filter λi=>(iq pis i).i.eV&&((iq pis i).i.reads&&(decide (Jq bs ls i<=k)&&!tb bs L i))
def H8(pis:List Pi)(bs:ed)(m:Nat)(ls:ed):Nat->ed->List (List Pi×Pi×List Pi)|_,[]=>[]|k,L::r=>((qv pis bs m ls k).map (iq pis),iq pis L,(acz pis bs m ls k L).map (iq pis))::H8 pis bs m ls (k+1) r
def HQ(st:St):Prop :=
 match chainB st.fr E.g with
 |some c=>match E.d with
  |some d=>c=G->∃a,ca st.fr st.J E.i=S (a,st.fr.getD d .u)/\a
  |none=>c=G->∃a r,ca st.fr st.J E.i=S (a,r)/\a
 |none=>False
def vX(P:bl):List (List Pi×Pi×List Pi)->List Pi->(bU)->bU|[],last,K,st=>mG P [] last K st|(NW,L,chk)::ds,last,K,st=>mG P [] NW (λa=>gI P L (λst2=>(∀p∈chk,HQ p st2)/\vX P ds last K st2) a) st
def looks:ed:=E.i.q8.map (·.1)++E.g.map (·.1)
def Fact(fr:ar)(J:ai):Prop :=∃c,chainB fr E.g=S c/\∃r,gN fr E.d r=fr/\(c=G->∃a,ca fr J E.i=S (a,r)/\a)
def OF{r:V}:U.set B r=U<->(B<X U->U[B]?=S r):=by
 constructor;.intro h a;rw[<- h,aN a]
 intro h;refine jF λi=>?_;by_cases b:B=i
 .subst b;rw[aqE];rcases jt B (X U) with a|a;.rw[h a];rfl
  rw[cp a];rfl
 rw[bD b]
def uh{d:de}{r:V}:gN U d r=U<->∀t,d=S t->t<X U->U[t]?=S r:=by cases d with|none=>simp[gN]|some t=>simp only[gN,OF,aa];exact⟨λh s a=>a▸h,λh=>h t rfl⟩
def Z1{i:I}{x:O}(e:x∈i.os)(d:B∈x.slot):B∈i.q8.map (·.1):=by
 unfold I.q8;split
 .rename_i c a b;simp only[I.os,bw,bM,mg]at e;rcases e with rfl|rfl|rfl;.simp only[O.slot,cQ]at d;simp[d]
  .simp[d]
  simp[d]
 simp only[kO,cP,Ex,Function.comp];exact⟨B,⟨x,e,d⟩,rfl⟩
def pz{fr fr':ar}:∀{ch:fu},(∀q∈ch,fr'[q.1]?=fr[q.1]?)->chainB fr' ch=chainB fr ch|[],_=>rfl|(t,b)::ch,h=>by have a:fr'[t]?=fr[t]?:=h (t,b) (by simp);have ih:=pz (fr:=fr) (fr':=fr') (ch:=ch) λq c=>h q (by simp[c]);simp only[chainB,ih,ax,a]
def Dh{fr':ar}(h:∀t∈M.i.q8.map (·.1),fr'[t]?=U[t]?):ca fr' H M.i=ca U H M.i :=Dg λx b=>ER λs a=>by rw[ax,ax,h s (Z1 b a)]
def Fact.agree{fr':ar}(h:Fact M U H)(e:∀t∈looks M,fr'[t]?=U[t]?)(g:∀t,M.d=S t->fr'[t]?=U[t]?)(a:X fr'=X U):Fact M fr' H:=by
 obtain⟨c,l,r,f,i⟩:=h;refine⟨c,by rw[pz λq k=>e q.1 (by simp only[looks,bJ,cP];exact .inr ⟨q,k,rfl⟩)];exact l,r,?_,λm=>?_⟩;.rw[uh]at f |-;intro t b j;rw[g t b];exact f t b (a▸j)
 rw[Dh λt b=>e t (by simp only[looks,bJ];exact .inl b)];exact i m
def Fact.still{J J':ai}(h:Fact M U J)(b:M.i.reads=Z):Fact M U J':=by obtain⟨c,d,r,a,e⟩:=h;exact⟨c,d,r,a,λf=>by rw[<- Po (J:=J) b];exact e f⟩
def HQ.fact{st:St}(h:HQ M st):Fact M st.fr st.J:=by
 unfold HQ at h;split at h
 .rename_i c e;split at h;.rename_i d a;refine⟨c,e,_,?_,h⟩;rw[uh];intro t b g;rw[a]at b;simp only[aa]at b;subst b;rw[ax,aA g];rfl
  rename_i a;by_cases f:c=G;.obtain⟨k,r,j,i⟩:=h f;exact⟨c,e,r,by rw[a];rfl,λ_=>⟨k,j,i⟩⟩
  exact⟨c,e,.u,by rw[a];rfl,λh=>absurd h f⟩
 exact h.elim
def XP{P:bl}{K:bU}(h:gI P M K ⟨U,H⟩)(j:M.i.eV=G): ∃c r,chainB U M.g=S c/\K ⟨gN U M.d r,H⟩/\(c=G->∃a,ca U H M.i=S (a,r)/\a):=by
 have l:∀p,mV P M p ⟨U,H⟩->∃r,p ⟨gN U M.d r,H⟩/\∃a,ca U H M.i=S (a,r)/\a:=by
  intro p b;obtain⟨d,g,i⟩:=M;cases i<;>first|(simp[I.eV]at j;done)|skip
  all_goals
   simp only[mV]at b;split at b;.rename_i a v y;exact⟨v,b.2,a,y,b.1⟩
   rw[Al (by simpa using j)]at b;exact b.elim
 unfold gI at h;split at h;.rename_i u;obtain⟨r,m,n⟩:=l _ h;exact⟨G,r,by rw[u];rfl,m,λ_=>n⟩
 split at h
 .rename_i c s;obtain⟨r,m,n⟩:=Hl h (λf k e=>by rw[e]at j;simp[I.eV]at j) λx k e=>by rw[e]at j;simp[I.eV]at j
  by_cases o:c=G;.obtain⟨t,q,w⟩:=l _ (n o);simp only[St.mk.injEq,dm]at q;subst o;refine⟨G,t,s,?_,λ_=>w⟩;rw[q];exact m
  exact⟨c,r,s,m,λh=>absurd h o⟩
 exact h.elim
def BV{P:bl}{pis:List Pi}{K:bU}{J:ai}:∀(l:ed) (fr:ar),mG P [] (l.map (iq pis)) K ⟨fr,J⟩->(∀i∈l,(iq pis i).i.eV=G) ->l.Pairwise (λi j=>∀t,(iq pis j).d=S t->t ∉ looks (iq pis i)/\(iq pis i).d≠S t)->(∀i∈l,∀t,(iq pis i).d=S t->t ∉ looks (iq pis i)) ->∃fr',K ⟨fr',J⟩/\(∀i∈l,Fact (iq pis i) fr' J)/\(∀t,(∀i∈l,(iq pis i).d≠S t)->fr'[t]?=fr[t]?)/\X fr'=X fr
 |[],fr,h,_,_,_=>⟨fr,h,by simp,λ_ _=>rfl,rfl⟩
 |i::l,fr,h,hs,hp,xl=>by
  simp only[az,mG]at h;obtain⟨c,r,v,o,x⟩:=XP h (hs i (by simp));rw[cX]at hp;obtain⟨fr',u,w,f,g⟩:=BV l _ o (λj a=>hs j (by simp[a])) hp.2 λj a=>xl j (by simp[a]);have m:∀t∈looks (iq pis i),fr'[t]?=fr[t]?:=λt b=>by rw[f t λj a e=>(hp.1 j a t e).1 b];exact nh λe=>xl i (by simp) t e b
  refine⟨fr',u,λj a=>?_,λt b=>?_,by rw[g,r6]⟩
  .rcases bw.1 a with rfl|a
   .refine⟨c,by rw[pz λq s=>m q.1 (by simp only[looks,bJ,cP];exact .inr ⟨q,s,rfl⟩)];exact v,r,?_,λy=>?_⟩
    .rw[uh];intro t b n;rw[f t λk p e=>(hp.1 k p t e).2 b,b];have:t<X fr:=by rw[g,r6]at n;exact n
     simp only[gN,aN this]
    rw[Dh λt b=>m t (by simp only[looks,bJ];exact .inl b)];exact x y
   exact w j a
  rw[f t λj a=>b j (by simp[a])];exact nh (b i (by simp))
structure EU (ops:Array Oper) (pis:List Pi) (bs:ed) (m:Nat) (ls fl:ed):Prop where
 mn:m<=pis.length
 back:∀i o,ops[i]?=some o->∀e∈o.after,Region.binds .any e=true->e.on<i
 clo:∀(i j:Nat),i<pis.length->j<pis.length->tb bs i j=true->j<i/\∃o,ops[i]?=some o/\∃e∈o.after,Region.binds .any e=true/\(e.on=j\/tb bs e.on j=true)
 tail:∀(i j:Nat),m<=i->i<pis.length->j<i->tb bs i j=true
 dst:∀(i j:Nat) (t:Nat),i<m->j<m->(iq pis i).d=some t->(iq pis j).d=some t->i=j
 PN:∀(i:Nat),i<m->(iq pis i).i.eV=false->i∈ls\/i∈fl
 lsm:∀L∈ls,L<m/\(iq pis L).i.eV=false
 aes:∀(j k L L':Nat),j<k->ls[j]?=some L'->ls[k]?=some L->tb bs L L'=true
 NW:∀(i k L:Nat),i<m->(iq pis i).i.eV=true->ls[k]?=some L->(tb bs i L=true<->k<Jq bs ls i)
 slot:∀(i:Nat) (s:Nat×fu) (j:Nat),i<m->s∈(iq pis i).i.q8->j<m->(iq pis j).d=some s.1->tb bs i j=true/\(iq pis j).g.isPrefixOf ((iq pis i).g++s.2)=true
 chain:∀(i:Nat) (q:Nat×Bool),i<m->q∈(iq pis i).g->∃j,j<m/\(iq pis j).d=some q.1/\tb bs i j=true
 last:∀(i:Nat) (ch:fu) (t:Nat) (b:Bool) (j:Nat),i<m->(iq pis i).g=ch++[(t,b)]->j<m->(iq pis j).d=some t->(iq pis j).g=ch
 mono:∀(i j t:Nat),i<m->(iq pis i).i.eV=true->j<m->(iq pis j).i.eV=true->(iq pis j).d=some t->t∈looks (iq pis i)->Jq bs ls j<=Jq bs ls i
def rI{P:bl}{ops:Array Oper}:∀{l:List Oper} {a:List Pi},sU P ops l=S a->X a=X l/\∀(i:Nat) (o:Oper),l[i]?=S o->∃p,a[i]?=S p/\cPi P ops o=S p
 |[],a,h=>by simp only[sU,aa]at h;subst h;simp
 |o::l,a,h=>by simp only[sU]at h;split at h<;>simp only[aa,reduceCtorEq]at h;rename_i p j d c;subst h;obtain⟨g,e⟩:=rI c;refine⟨by simp[g],λi f b=>?_⟩;cases i with|zero=>simp only[aG,aa]at b;subst b;exact⟨p,rfl,d⟩|succ i=>exact e i f (by simpa using b)
abbrev mU(listed:Array Bool)(i:Nat):Prop:=listed.getD i Z=G
def iD{listed:Array Bool}{i j:Nat}(a:i<listed.size):mU (listed.setIfInBounds i G) j<->j=i\/mU listed j:=by
 simp only[mU,cC];by_cases h:i=j;.subst h;simp[a]
 rw[fX h];simp[BM h]
def wG{listed:Array Bool}(f:listed.size=v.size)(h:B∈Region.ready .any v listed):
  B<v.size/\¬mU listed B/\∃o,v[B]?=S o/\∀e∈o.after,Region.binds .any e=G->mU listed e.on:=by obtain⟨a,o,b,d⟩:=mem_ready.1 h;have c:B<v.size:=(cB.1 b).1;refine⟨c,?_,o,b,d⟩;simp only[mU,cC]at a |-;rw[bZ (by rw[f];exact c)]at a |-;simp at a |-;exact a
section
variable {P:bl} {ops:Array Oper} {pis:List Pi} {bs:ed} {m:Nat} {ls fl:ed}
def EU.ready(f:EU ops pis bs m ls fl)(u:X pis=ops.size){listed:Array Bool}(r:listed.size=ops.size) (q:∀i j,i<X pis->j<X pis->mU listed i->tb bs i j=G->mU listed j) {i:Nat} (h:i∈Region.ready .any ops listed) {j:Nat} (g:j<X pis) (n:tb bs i j=G):mU listed j:=by
 obtain⟨v,s,o,d,p⟩:=wG r h;obtain⟨w,t,a,e,k,c,b⟩:=f.clo i j (by omega) g n;rw[d]at a;simp only[aa]at a;subst a;have l:=p e k c;rcases b with rfl|b;.exact l
 have:=f.back i o d e k c;exact q e.on j (by omega) g l b
def EU.first(f:EU ops pis bs m ls fl){listed:Array Bool}(j:listed.size=ops.size)(h:Region.ready .any ops listed=[]):∀i,i<ops.size->mU listed i:=by
 intro i;induction i using Nat.strongRecOn with
 |ind i ih =>
 intro b;refine bY λa=>?_;have:i∈Region.ready .any ops listed:=by
  rw[mem_ready];refine⟨?_,ops[i],by simp[b],λe g d=>?_⟩;.simp only[mU,cC]at a |-;rw[bZ (by rw[j];exact b)]at a |-;simp at a |-;exact a
  have c:=f.back i ops[i] (by simp[b]) e g d;exact ih e.on c (by omega)
 rw[h]at this;simp at this
def JA{listed:Array Bool}(d:listed.size=ops.size)(h:∀i,i<ops.size->mU listed i):Region.ready .any ops listed=[]:=by refine dv.2 λi c=>?_;obtain⟨b,a,_⟩:=wG d c;exact a (h i b)
def E3(v:EU ops pis bs m ls fl)(W:sU P ops ops.toList=S pis){n B:Nat}{U:ed}{w0 V:bF}{s:ai}{u:Mem}{K:bU}{Q:Exit->Act->bF->Prop} (R:∀st w c a,K st->kN P B w0 w st.J c->FR w st.J c st.fr a->iL n V s u w st.J c->Q .normal a w) : ∀(b q:Nat) (listed:Array Bool) (D:List (Nat×fu)) (fr:ar) (J:ai) (w:bF) (c:Mem) (a:Act),m<=q->q<=X pis->listed.size=ops.size->(∀i,i<X pis->(mU listed i<->i<q))->X pis - q<=b ->IF D (pis.drop q) U=G->mG P U (pis.drop q) K ⟨fr,J⟩->kN P B w0 w J c->Jf w J c fr (Bh D) a->iL n V s u w J c->wpAny P .any ops Q b listed a w:=by
 have hn:X pis=ops.size:=by rw[(rI W).1,aU]
 intro b;induction b with
 |zero =>
  intro q listed D fr J w c a L hq g f hf e k E y x;have l:q=X pis:=by omega
  subst l;rw[qO]at e k;refine wpAny_done (JA g λi z=>(f i (by omega)).2 (by omega)) ?_ 0;exact R _ w c a k E (y.ends e) x
 |succ b ih =>
 intro q listed D fr J w c a L hq g f hf e k E y x;by_cases l:q=X pis;.subst l;rw[qO]at e k;refine wpAny_done (JA g λi z=>(f i (by omega)).2 (by omega)) ?_ _;exact R _ w c a k E (y.ends e) x
 have d:q<X pis:=by omega
 refine⟨λh=>?_,λi z=>?_⟩;.have:=v.first g h q (by omega);rw[f q d]at this;omega
 obtain⟨h1,h2,o,h3,h4⟩:=wG g z;have H:i=q:=by have F:¬i<q:=λh=>h2 ((f i (by omega)).2 h);refine bY λiV=>?_;have M:=v.ready hn g (λi' j t C O ht=>by rw[f i' t]at O;have:=(v.clo i' j t C ht).1;exact(f j C).2 (by omega)) z d (v.tail i q (by omega) (by omega) (by omega));rw[f q d]at M;omega
 subst H;obtain⟨p,F,M⟩:=(rI W).2 i o (by simpa using h3);have N:pis.drop i=p::pis.drop (i+1):=by rw[fO d];congr 1;rw[aA d]at F;simpa using F
 rw[N]at e k;simp only[IF,aV]at e;simp only[wpOp,h3];refine opG M E y (Gu e.1) k ?_;intro r J' I a' w' k1 k2 T k4;rw[BQ]at T;exact ih (i+1) _ _ _ J' w' I a' (by omega) (by omega) (by simpa using g) (λj C=>by rw[iD (by omega),f j C];omega) (by omega) e.2 k1 k2 T (x.trans k4.Rp)
end
variable(U:List Pi)
def rk(m:Nat)(listed:Array Bool)(t:Nat):Option (fu) :=
 match (List.range m).find? (λi=>(iq U i).d==S t)with|none=>S []|some i=>if listed.getD i Z then S (iq U i).g else Y
section
variable {P:bl} {ops:Array Oper} {pis:List Pi} {bs:ed} {m:Nat} {ls fl:ed}
def EU.EB(f:EU ops pis bs m ls fl){listed:Array Bool}{i t:Nat}(c:i<m)(a:(iq pis i).d=S t):rk pis m listed t=if listed.getD i Z then S (iq pis i).g else Y:=by
 unfold rk;split;.rename_i h;rw[Ag]at h;exact absurd (h i (eD.2 c)) (by simp[a])
 rename_i j h;have b:=xR h;have e:=eD.1 (qQ h);simp only[dM]at b;rw[f.dst j i t e c b a]
def Jk{listed:Array Bool}{t:Nat}(h:∀i,i<m->(iq pis i).d≠S t):rk pis m listed t=S []:=by
 unfold rk;split;.rfl
 rename_i j a;have b:=xR a;have c:=eD.1 (qQ a);simp only[dM]at b;exact absurd b (h j c)
def ou{listed:Array Bool}{t:Nat}{a:fu}(h:rk pis m listed t=S a): (a=[]/\∀i,i<m->(iq pis i).d≠S t)\/∃i,i<m/\(iq pis i).d=S t/\mU listed i/\a=(iq pis i).g:=by
 unfold rk at h;split at h;.rename_i b;rw[Ag]at b;simp only[aa]at h;exact .inl ⟨h.symm,λi n f=>b i (eD.2 n) (by simp[f])⟩
 rename_i j c;have e:=xR c;have l:=eD.1 (qQ c);simp only[dM]at e;split at h<;>simp only[aa,reduceCtorEq]at h;rename_i k;exact .inr ⟨j,l,e,k,h.symm⟩
def EU.uG(a:EU ops pis bs m ls fl){i j t:Nat}(e:i<m)(f:j<m)(b:(iq pis j).d=S t)(c:t∈looks (iq pis i)):tb bs i j=true:=by
 simp only[looks,bJ,cP]at c;rcases c with⟨s,l,rfl⟩|⟨q,n,rfl⟩;.exact(a.slot i s j e l f b).1
 obtain⟨g,o,h,k⟩:=a.chain i q e n;rw[a.dst j g _ f o b h];exact k
def EU.lt(a:EU ops pis bs m ls fl){i j:Nat}(c:i<m)(b:j<m)(h:tb bs i j=G):j<i :=(a.clo i j (gu c a.mn) (gu b a.mn) h).1
def EU.aos(a:EU ops pis bs m ls fl){listed:Array Bool}(F:∀i j,i<X pis->j<X pis->mU listed i->tb bs i j=G->mU listed j){i:Nat}(h:i<m)(E:¬mU listed i) (y:∀j,j<X pis->tb bs i j=G->mU listed j):Q3 (rk pis m listed) (iq pis i):=by
 have I:=a.mn;refine⟨λs D=>?_,λw t b x=>?_,λd f=>⟨λq o e=>?_,λt w l q o e=>?_⟩⟩
 .by_cases v:∃j,j<m/\(iq pis j).d=S s.1;.obtain⟨j,c,f⟩:=v;have:=a.slot i s j h D c f;have C:=y j (by omega) this.1;refine⟨(iq pis j).g,?_,this.2⟩;rw[a.EB c f,C];rfl
  exact⟨[],Jk λj c f=>v ⟨j,c,f⟩,by simp⟩
 .obtain⟨j,c,f,l⟩:=a.chain i (t,b) h (by rw[x];simp);rw[a.EB c f,y j (by omega) l,a.last i w t b j h x c f];rfl
 .obtain⟨j,c,n,l⟩:=a.chain i q h o;rw[e]at n;have:=a.dst i j d h c f n;subst this;have:=a.lt h h l;omega
 rcases ou l with⟨rfl,_⟩|⟨j,c,H,r,rfl⟩;.simp at o
 obtain⟨z,u,k,p⟩:=a.chain j q c o;have B:=F j z (by omega) (by omega) r p;rw[e]at k;have:=a.dst i z d h u f k;subst this;exact E B
def EU.wj(f:EU ops pis bs m ls fl){listed:Array Bool}{i:Nat}(k:i<m)(a:i<listed.size):wj (rk pis m listed) (iq pis i)=rk pis m (listed.setIfInBounds i G):=by
 funext t;simp only[Pm.wj];by_cases b:(iq pis i).d=S t;.have:(listed.setIfInBounds i G).getD i Z=G:=(iD a).2 (.inl rfl);rw[aO b,f.EB k b,this];rfl
 rw[ao b];unfold rk;split;.rfl
 rename_i j g;have c:=xR g;simp only[dM]at c;have l:j≠i:=λe=>b (e▸c);have:(listed.setIfInBounds i G).getD j Z=listed.getD j Z:=by have h:=iD (listed:=listed) (j:=j) a;simp only[l,nQ,mU]at h;cases n:listed.getD j Z<;>simp_all
 rw[this]
def zD(P:bl)(pis:List Pi)(bs:ed)(m:Nat)(ls:ed)(a:bU)(k:Nat)(fr:ar)(J:ai):Prop :=
 match ls[k]? with
 |some L=>gI P (iq pis L) (λst2=>(∀p∈(acz pis bs m ls k L).map (iq pis),HQ p st2)/\vX P (H8 pis bs m ls (k+1) (ls.drop (k+1))) ((qv pis bs m ls (X ls)).map (iq pis)) a st2) ⟨fr,J⟩
 |none=>a ⟨fr,J⟩
def gv{k i:Nat}:i∈qv pis bs m ls k<->i<m/\(iq pis i).i.eV=G/\Jq bs ls i=k:=by simp[qv]
def EU.ahd(b:EU ops pis bs m ls fl){u:bU}{k:Nat}(y:k<=X ls){fr:ar}{J:ai} (h:vX P (H8 pis bs m ls k (ls.drop k)) ((qv pis bs m ls (X ls)).map (iq pis)) u ⟨fr,J⟩) : ∃fr',zD P pis bs m ls u k fr' J/\(∀i∈qv pis bs m ls k,Fact (iq pis i) fr' J)/\(∀t,(∀i∈qv pis bs m ls k,(iq pis i).d≠S t)->fr'[t]?=fr[t]?)/\X fr'=X fr:=by
 have v:(qv pis bs m ls k).Pairwise (λi j=>∀t,(iq pis j).d=S t->t ∉ looks (iq pis i)/\(iq pis i).d≠S t):=by
  refine apW ?_ (NU _ as2);intro i j a c z t f;replace a:=(gv (k:=k)).1 a;replace c:=(gv (k:=k)).1 c;refine⟨λl=>?_,λr=>?_⟩;.have:=b.lt a.1 c.1 (b.uG a.1 c.1 f l);omega
  have:=b.dst i j t a.1 c.1 r f;omega
 have w:∀i∈qv pis bs m ls k,∀t,(iq pis i).d=S t->t ∉ looks (iq pis i):=λi a t f l=>by rw[gv]at a;have:=b.lt a.1 a.1 (b.uG a.1 a.1 f l);omega
 have s:∀i∈qv pis bs m ls k,(iq pis i).i.eV=true:=λi a=>(gv.1 a).2.1;by_cases x:k<X ls;.have e:ls.drop k=ls[k]::ls.drop (k+1):=fO x;rw[e]at h;simp only[H8,vX]at h;obtain⟨fr',p,g,q,o⟩:=BV _ _ h s v w;refine⟨fr',?_,g,q,o⟩;simp only[zD,aA x];exact p
 have n:k=X ls:=by omega
 subst n;rw[qO]at h;simp only[H8,vX]at h;obtain⟨fr',p,g,q,o⟩:=BV _ _ h s v w;refine⟨fr',?_,g,q,o⟩;have e:ls[X ls]?=Y:=cp (aB _);simp only[zD,e];exact p
def KY(n:Nat)(listed:Array Bool):Nat:=X ((List.range n).filter λi=>!listed.getD i Z)
def Om{n m:Nat}{listed:Array Bool}(b:m<=n)(h:∀i,m<=i->i<n->¬mU listed i):n - m<=KY n listed:=by
 have e:List.range n=List.range m++(List.range (n - m)).map (m+·):=by rw[<- List.range_add];congr 1;omega
 unfold KY;rw[e,je,ae];have:((List.range (n - m)).map (m+·)).filter (λi=>!listed.getD i Z)=(List.range (n - m)).map (m+·):=by rw[List.filter_eq_self];intro i a;simp only[cP,eD]at a;obtain⟨j,c,rfl⟩:=a;have:=h (m+j) (by omega) (by omega);simpa[mU]using this
 rw[this];simp
def TM{n:Nat}{listed:Array Bool}{i:Nat}(a:i<n)(h:¬mU listed i):0<KY n listed:=by unfold KY;rw[List.length_pos_iff_exists_mem];exact⟨i,by simp only[fv,eD];exact⟨a,by simpa[mU]using h⟩⟩
def TL{n:Nat}{listed:Array Bool}{i:Nat}(p:i<n)(a:i<listed.size)(h:¬mU listed i):KY n (listed.setIfInBounds i G)+1<=KY n listed:=by
 induction n with
 |zero=>omega
 |succ n ih =>
 have d:∀l:Array Bool,KY (n+1) l=KY n l+if l.getD n Z then 0 else 1:=by intro l;unfold KY;rw[rU,je,ae];congr 1;rw[iN];cases o:l.getD n Z<;>rfl
 rw[d,d];by_cases f:i=n
 .subst f;have g:(listed.setIfInBounds i G).getD i Z=G:=(iD a).2 (.inl rfl);have b:listed.getD i Z=Z:=by simpa[mU]using h
  rw[g,b];have:KY i (listed.setIfInBounds i G)=KY i listed:=by
   unfold KY;congr 1;refine List.filter_congr λj m=>?_;rw[eD]at m;have b:=iD (listed:=listed) (j:=j) a;have c:j≠i:=by omega
   simp only[c,nQ,mU]at b;cases k:listed.getD j Z<;>simp_all
  simp[this]
 have g:=ih (by omega);have b:=iD (listed:=listed) (j:=n) a;have c:n≠i:=λe=>f e.symm;simp only[c,nQ,mU]at b;have:(listed.setIfInBounds i G).getD n Z=listed.getD n Z:=by cases k:listed.getD n Z<;>simp_all
 rw[this];omega
def D0(pis:List Pi)(m:Nat):List (Nat×fu):=(List.range m).filterMap λi=>(iq pis i).d.map λd=>(d,(iq pis i).g)
def PO{t:Nat}{x:fu}:∀{D:List (Nat×fu)},(∀v,(t,v)∈D->v=x)->(∃v,(t,v)∈D)->tf D t=x
 |[],_,h=>by obtain⟨v,c⟩:=h;simp at c
 |(s,v)::D,h,he=>by
  simp only[tf,ac4];by_cases b:t=s;.subst b;simp[h v (by simp)]
  have f:(t==s)=Z:=by simpa using b
  rw[f];refine PO (D:=D) (λv c=>h v (by simp[c])) ?_;obtain⟨d,a⟩:=he;rcases bw.1 a with e|a;.simp only[aY]at e;exact absurd e.1 b
  exact⟨d,a⟩
def EU.all(k:EU ops pis bs m ls fl){listed:Array Bool}(h:∀i,i<m->mU listed i):rk pis m listed=Bh (D0 pis m):=by
 funext t;have c:∀v,(t,v)∈D0 pis m<->∃i,i<m/\(iq pis i).d=S t/\v=(iq pis i).g:=by
  intro v;simp only[D0,TC,eD,aH,aY];constructor;.rintro⟨i,a,d,b,rfl,rfl⟩;exact⟨i,a,b,rfl⟩
  rintro⟨i,a,b,rfl⟩;exact⟨i,a,t,b,rfl,rfl⟩
 by_cases f:∃i,i<m/\(iq pis i).d=S t;.obtain⟨i,a,b⟩:=f;rw[k.EB a b,h i a];simp only[aR,Bh,aa];refine(PO (λv n=>?_) ⟨_,(c _).2 ⟨i,a,b,rfl⟩⟩).symm;obtain⟨j,o,l,rfl⟩:=(c v).1 n;rw[k.dst i j t a o b l]
 rw[Jk λi a b=>f ⟨i,a,b⟩];simp only[Bh,aa];rcases yp (D:=D0 pis m) (t:=t)with e|e;.exact e.symm
 obtain⟨i,a,b,_⟩:=(c _).1 e;exact absurd ⟨i,a,b⟩ f
end
def VK{P:bl}{p:Pi}{fr:ar}{J:ai}(h:Fact p fr J):GI P p (λa=>a=⟨fr,J⟩) fr J:=by
 obtain⟨c,f,r,b,j⟩:=h;cases c with
 |false=>exact⟨Z,f,.inr ⟨rfl,r,by rw[b]⟩⟩
 |true =>
 obtain⟨m,e,l⟩:=j rfl;refine⟨G,f,.inl ⟨rfl,λa=>a=⟨fr,J⟩,?_,λ_ h=>h⟩⟩;obtain⟨d,g,i⟩:=p;have k:=A4 e;cases i<;>first|(simp[I.eV]at k;done)|skip
 all_goals
  simp only[mV];simp only at e b;rw[e];exact⟨l,by rw[b]⟩
section
variable {P:bl} {ops:Array Oper} {pis:List Pi} {bs:ed} {m:Nat} {ls fl:ed}
def A3(c:EU ops pis bs m ls fl)(hp:sU P ops ops.toList=S pis){n B:Nat}{gs:ed}{w0 ws:bF}{af:ai}{aE:Mem}{K:bU}{Q:Exit->Act->bF->Prop} (hQ:∀st w D a,K st->kN P B w0 w st.J D->FR w st.J D st.fr a->iL n ws af aE w st.J D->Q .normal a w) (u:IF (D0 pis m) (pis.drop m) gs=true) : ∀(g k:Nat) (listed:Array Bool) (fr:ar) (J:ai) (w:bF) (D:Mem) (a:Act),listed.size=ops.size->(∀f∈fl,mU listed f) ->(∀i j,i<X pis->j<X pis->mU listed i->tb bs i j=true->mU listed j)->(∀i,m<=i->i<X pis->¬mU listed i)->k<=X ls ->(∀j L,ls[j]?=S L->(mU listed L<->j<k))->(∀i,i<m->(iq pis i).i.eV=true->Jq bs ls i<=k->¬mU listed i->Fact (iq pis i) fr J) ->zD P pis bs m ls (mG P gs (pis.drop m) K) k fr J->KY (X pis) listed<=g ->kN P B w0 w J D->Jf w J D fr (rk pis m listed) a->iL n ws af aE w J D->wpAny P .any ops Q g listed a w:=by
 have hn:X pis=ops.size:=by rw[(rI hp).1,aU]
 have hm:=c.mn;intro g;induction g with
 |zero =>
  intro k listed fr J w D a O vv hc zt hk pJ Dz W hu hS hF Qe;have a6:∀i,i<X pis->mU listed i:=λi E=>bY λh=>by have:=TM E h;omega
  have I:∀i,i<m->mU listed i:=λi E=>a6 i (by omega);have tN:k=X ls:=by
   refine bY λiV=>?_;have eX:k<X ls:=by omega
   have:=(pJ k ls[k] (aA eX)).1 (I _ (c.lsm _ (dQ eX)).1);omega
  subst tN;have e:ls[X ls]?=Y:=cp (aB _);simp only[zD,e]at W;rw[c.all I]at hF;exact E3 c hp hQ 0 m listed _ fr J w D a (aB _) hm O (λi E=>⟨λh=>bY λM=>zt i (by omega) E h,λh=>I i h⟩) (by have:=Om hm zt;omega) u W hS hF Qe
 |succ g ih =>
 intro k listed fr J w D a O vv hc zt hk pJ Dz W hu hS hF Qe;by_cases I:∀i,i<m->mU listed i
 .have tN:k=X ls:=by
   refine bY λiV=>?_;have eX:k<X ls:=by omega
   have:=(pJ k ls[k] (aA eX)).1 (I _ (c.lsm _ (dQ eX)).1);omega
  subst tN;have e:ls[X ls]?=Y:=cp (aB _);simp only[zD,e]at W;rw[c.all I]at hF;exact E3 c hp hQ _ m listed _ fr J w D a (aB _) hm O (λi E=>⟨λh=>bY λM=>zt i (by omega) E h,λh=>I i h⟩) (by have:=Om hm zt;omega) u W hS hF Qe
 refine⟨λh=>absurd (λi E=>c.first O h i (by omega)) I,λi E=>?_⟩;obtain⟨bi,Xz,o,ho,_⟩:=wG O E;have EM:i<X pis:=by omega
 have Hj:∀j,j<X pis->tb bs i j=true->mU listed j:=λj v u=>c.ready hn O hc E v u;have F:i<m:=by refine bY λh=>I λj v=>?_;exact Hj j (by omega) (c.tail i j (by omega) EM (by omega))
 obtain⟨p,a8,SV⟩:=(rI hp).2 i o (by simpa using ho);have H:iq pis i=p:=by simp[iq,ax,a8]
 have gB:Q3 (rk pis m listed) p:=H▸c.aos hc F Xz Hj;have s:∀x j,x<X pis->j<X pis->mU (listed.setIfInBounds i true) x->tb bs x j=true->mU (listed.setIfInBounds i true) j:=by
  intro x j b v l u;rw[iD (by omega)]at l |-;rcases l with rfl|l;.exact .inr (Hj j v u)
  exact .inr (hc x j b v l u)
 have ac:∀x,m<=x->x<X pis->¬mU (listed.setIfInBounds i true) x:=by
  intro x b a5 l;rw[iD (by omega)]at l;rcases l with rfl|l;.omega
  exact zt x b a5 l
 have ap:KY (X pis) (listed.setIfInBounds i true)<=g:=by have:=TL EM (by omega:i<listed.size) Xz;omega
 have au:∀x,x<m->(iq pis x).i.eV=true->(∀j,j<X pis->tb bs x j=true->mU listed j)->Jq bs ls x<=k:=by
  intro x b hs av;refine bY λeX=>?_;have h1:Jq bs ls x<=X ls:=jH _ _;have M:k<X ls:=by omega
  have R:=(c.NW x k ls[k] b hs (aA M)).2 (by omega);have h4:=av ls[k] (by have:=(c.lsm _ (dQ M)).1;omega) R;have:=(pJ k ls[k] (aA M)).1 h4;omega
 simp only[wpOp,ho];by_cases hs:p.i.eV=true;.
  have T:(iq pis i).i.eV=true:=by rw[H];exact hs
  have hf:=Dz i F T (au i F T Hj) Xz;rw[H]at hf;refine aia SV hS hF gB (VK hf) ?_;intro r J' N a' w' k1 k2 V k4;simp only[St.mk.injEq]at k1;obtain⟨k1,rfl⟩:=k1;rw[k1]at V;have e:wj (rk pis m listed) p=rk pis m (listed.setIfInBounds i true):=by rw[<- H];exact c.wj F (by omega)
  rw[e]at V;refine ih k _ fr J' w' N a' (by simpa using O) (λf hf=>(iD (by omega)).2 (.inr (vv f hf))) s ac hk (λj L hL=>?_) (λx b Bi am Aj=>Dz x b Bi am λh=>Aj ((iD (by omega)).2 (.inr h))) W ap k2 V (Qe.trans k4.Rp);rw[iD (by omega),pJ j L hL];have:L≠i:=λe=>by have:=(c.lsm L (bn hL)).2;rw[e,T]at this;simp at this
  simp[this]
 have T:(iq pis i).i.eV=Z:=by rw[H];simpa using hs
 obtain⟨j,v⟩:=df.1 ((c.PN i F T).resolve_right λh=>Xz (vv i h));have a4:j=k:=by
  have h1:¬j<k:=λh=>Xz ((pJ j i v).2 h);refine bY λiV=>?_;have uL:=(ag.1 v).1;have tN:k<X ls:=by omega
  have M:=c.aes k j i ls[k] (by omega) (aA tN) v;have R:=Hj ls[k] (by have:=(c.lsm _ (dQ tN)).1;omega) M;have:=(pJ k ls[k] (aA tN)).1 R;omega
 subst a4;have uL:j<X ls:=(ag.1 v).1;simp only[zD,v,H]at W;refine opG SV hS hF gB W ?_;intro r J' N a' w' k1 k2 V k4;obtain⟨be,fY⟩:=k1;obtain⟨fr',h1,M,R,h4⟩:=c.ahd (k:=j+1) (by omega) fY;have e:wj (rk pis m listed) p=rk pis m (listed.setIfInBounds i true):=by rw[<- H];exact c.wj F (by omega)
 rw[e]at V;have mP:∀x∈qv pis bs m ls (j+1),¬mU (listed.setIfInBounds i true) x:=by
  intro x b l;rw[gv]at b;rw[iD (by omega)]at l;rcases l with rfl|l;.rw[T]at b;simp at b
  have:=au x b.1 b.2.1 λy C u=>hc x y (by omega) C l u;omega
 have Hk:∀t y,y<m->(iq pis y).d=S t->mU (listed.setIfInBounds i true) y->fr'[t]?=(gN fr p.d r)[t]?:=by intro t y C hd l;refine R t λx b a0=>mP x b ?_;rw[c.dst x y t (gv.1 b).1 C a0 hd];exact l
 have a3:Jf w' J' N fr' (rk pis m (listed.setIfInBounds i true)) a':=by
  refine⟨V.1,by rw[h4];exact V.2.1,λt x b ch DC=>?_⟩;have ba:fr'[t]?=(gN fr p.d r)[t]?:=by
   rcases ou DC with⟨_,rD⟩|⟨y,C,hd,l,_⟩;.exact R t λx b=>rD x (gv.1 b).1
   exact Hk t y C hd l
  have Eh:chainB fr' ch=chainB (gN fr p.d r) ch:=by
   refine pz λq hq=>?_;rcases ou DC with⟨rfl,_⟩|⟨y,C,hd,l,rfl⟩;.simp at hq
   obtain⟨z,hz,bd,a9⟩:=c.chain y q C hq;exact Hk q.1 z hz bd (s y z (by omega) (by omega) l a9)
  rw[Eh];rw[ba]at b;exact V.2.2 t x b ch DC
 refine ih (j+1) _ fr' J' w' N a' (by simpa using O) (λf hf=>(iD (by omega)).2 (.inr (vv f hf))) s ac (by omega) (λy L hL=>?_) (λx b Bi am Aj=>?_) h1 ap k2 a3 (Qe.trans k4.Rp)
 .rw[iD (by omega),pJ y L hL];constructor
  .rintro(rfl|h);.refine bY λiV=>?_;have h5:=c.aes j y L L (by omega) v hL;have:=c.lt F F h5;omega
   omega
  intro h;rcases jt y j with h5|h5;.exact .inr h5
  have:y=j:=by omega
  subst this;rw[hL]at v;simp only[aa]at v;exact .inl v
 by_cases bg:Jq bs ls x=j+1;.exact M x (gv.2 ⟨b,Bi,bg⟩)
 have U:Jq bs ls x<=j:=by omega
 have aM:¬mU listed x:=λh=>Aj ((iD (by omega)).2 (.inr h));have a2:¬tb bs i x=true:=λh=>aM (Hj x (by omega) h);have a7:Fact (iq pis x) (gN fr p.d r) J':=by
  by_cases hr:(iq pis x).i.reads=true;.exact(be (iq pis x) (cP.2 ⟨x,by simp[acz,b,Bi,hr,U,a2],rfl⟩)).fact
  have a1:(iq pis x).i.reads=Z:=by simpa using hr
  refine Fact.still (Fact.agree (Dz x b Bi U aM) (λt u=>?_) (λt u=>?_) r6) a1;.refine nh λhd=>?_;have h5:=c.uG b F (H▸hd) u;have:=(c.NW x j i b Bi v).1 h5;omega
  refine nh λhd=>?_;have:=c.dst x i t b F u (H▸hd);subst this;rw[Bi]at T;simp at T
 refine Fact.agree a7 (λt u=>?_) (λt u=>?_) h4;.refine R t λy C ad=>?_;rw[gv]at C;have:=c.mono x y t b Bi C.1 C.2.1 ad u;omega
 refine R t λy C ad=>?_;rw[gv]at C;have:=c.dst x y t b C.1 u ad;subst this;omega
end
variable(U:Array Oper)(R:List Pi)
def okX(bs:ed)(m:Nat)(ls fl:ed):Bool :=decide (m<=X R) &&
 (((List.range U.size).all λi=>match U[i]? with
  |some o=>o.after.toList.all λe=>!Region.binds .any e||decide (e.on<i)
  |none=>G) &&
 (((List.range (X R)).all λi=>(List.range (X R)).all λj=>!tb bs i j||(decide (j<i)&&match U[i]? with
  |some o=>o.after.toList.any λe=>Region.binds .any e&&(e.on==j||tb bs e.on j)
  |none=>Z)) &&
 (((List.range (X R)).all λi=>decide (i<m)||(List.range i).all λj=>tb bs i j) &&
 (((List.range m).all λi=>(List.range i).all λj=>match (iq R i).d with
  |none=>G
  |some t=>(iq R j).d != S t) &&
 (((List.range m).all λi=>(iq R i).i.eV||(ls.contains i||fl.contains i)) &&
 ((ls.all λL=>decide (L<m)&&!(iq R L).i.eV) &&
 (((List.range (X ls)).all λk=>(List.range k).all λj=>tb bs (ls.getD k 0) (ls.getD j 0)) &&
 (((List.range m).all λi=>!(iq R i).i.eV||(List.range (X ls)).all λk=>tb bs i (ls.getD k 0)==decide (k<Jq bs ls i)) &&
 (((List.range m).all λi=>(iq R i).i.q8.all λs=>(List.range m).all λj=>(iq R j).d != S s.1||(tb bs i j&&(iq R j).g.isPrefixOf ((iq R i).g++s.2))) &&
 (((List.range m).all λi=>(iq R i).g.all λq=>(List.range m).any λj=>(iq R j).d==S q.1&&tb bs i j) &&
 (((List.range m).all λi=>match (iq R i).g.getLast? with
  |none=>G
  |some q=>(List.range m).all λj=>(iq R j).d != S q.1||(iq R j).g==(iq R i).g.dropLast) &&
 ((List.range m).all λi=>!(iq R i).i.eV||(List.range m).all λj=>!(iq R j).i.eV||match (iq R j).d with|none=>G|some t=>!(looks (iq R i)).contains t||decide (Jq bs ls j<=Jq bs ls i)))))))))))))
section
variable {P:bl} {ops:Array Oper} {pis:List Pi} {bs:ed} {m:Nat} {ls fl:ed}
def Nq{ls:ed}{k L:Nat}(h:ls[k]?=S L):ls.getD k 0=L:=by rw[ax,h];rfl
def Z9(h:okX ops pis bs m ls fl=G)(_hn:X pis=ops.size):EU ops pis bs m ls fl:=by
 simp only[okX,aV,dd,eD,bz]at h;obtain⟨Q,F,N,H,T,U,R,M,V,I,J,y,v⟩:=h;constructor;.exact Q
 .intro i o p e B x;have:=F i (cB.1 p).1;rw[p]at this;simp only[dd,iG,dt,bz]at this;rcases this e (Array.mem_toList_iff.2 B)with h|h;.rw[x]at h;simp at h
  exact h
 .intro i j a c w;have:=N i a j c;rw[w]at this;simp only[jN,mz,aV,bz]at this;refine⟨this.1,?_⟩;have h:=this.2;split at h;.rename_i o p;simp only[hZ,aV,iG,dM]at h;obtain⟨e,B,x,D⟩:=h;exact⟨o,p,e,Array.mem_toList_iff.1 B,x,D⟩
  simp at h
 .intro i j K a c;have:=H i a;simp only[iG,bz,dd,eD]at this;rcases this with h|h;.omega
  exact h j c
 .intro i j t a c r u;have n:∀i j,i<m->j<i->(iq pis i).d=S t->(iq pis j).d=S t->False:=by intro i j a c r u;have:=T i a j c;rw[r]at this;simp only[TB,gj]at this;exact this u
  rcases Nat.lt_trichotomy i j with h|h|h;.exact(n j i c h u r).elim
  .exact h
  exact(n i j a h r u).elim
 .intro i a g;have:=U i a;rw[g]at this;simpa using this
 .intro L f;have:=R L f;simpa using this
 .intro j k L L' C z f;have:=M k (ag.1 f).1 j C;rwa [Nq f,Nq z]at this
 .intro i k L a g f;have:=V i a;rw[g]at this;simp only[jN,mz,dd,eD,dM]at this;have:=this k (ag.1 f).1;rw[Nq f]at this;rw[this];simp
 .intro i s j a g c l;have:=I i a s g j c;simp only[iG,TB,gj,aV]at this;rcases this with h|h;.exact absurd l h
  exact h
 .intro i q a P;have:=J i a q P;simp only[hZ,eD,aV,dM]at this;obtain⟨j,c,h⟩:=this;exact⟨j,c,h⟩
 .intro i W t b j a O c l;have:=y i a;rw[O]at this;simp only[kj,iZ,nR,List.dropLast_concat,dd,eD,iG,TB,gj,dM]at this;rcases this j c with h|h;.exact absurd l h
  exact h
 intro i j t a g c E l w;have:=v i a;rw[g]at this;simp only[jN,mz,dd,eD]at this;have:=this j c;rw[E,l]at this;simp only[jN,mz,iG,dt,bz]at this;rcases this with h|h;.simp at h;exact absurd w h
 exact h
def mX(bs:ed):Nat->Nat|0=>0|i+1=>if bs.getD i 0==2^i - 1 then mX bs i else i+1
def AE{n B:Nat}{r:ed}{K:bU}{Q:Exit->Act->bF->Prop}(v:sU P ops ops.toList=S pis)(M:okX ops pis bs m ls []=G) (F:IF (D0 pis m) (pis.drop m) r=G) {fr:ar} {J:ai} {z w:bF} {l:Mem} {a:Act} (h:vX P (H8 pis bs m ls 0 ls) ((qv pis bs m ls ls.length).map (iq pis)) (mG P r (pis.drop m) K) ⟨fr,J⟩) (hS:kN P B z w J l) (W:FR w J l fr a) (U:∀b w' c f,K b->kN P B z w' b.J c->FR w' b.J c b.fr f->iL n w J l w' b.J c->Q .normal f w'):wpAny P .any ops Q ops.size (Array.replicate ops.size Z) a { w with drawn:=w.drawn+1 }:=by
 have C:pis.length=ops.size:=by rw[(rI v).1,aU]
 have q:=Z9 M C;obtain⟨p,u⟩:=hS.grown (w':={ w with drawn:=w.drawn+1 }) ⟨rfl,rfl,rfl,aB _,λ_ _ _=>rfl⟩;have d:=W.dX u.dX;obtain⟨fr',V,D,O,I⟩:=q.ahd (k:=0) (iP _) (by simpa using h);have g:∀i,¬mU (Array.replicate ops.size Z) i:=by intro i;simp only[mU,cC,CH];split<;>simp
 refine A3 (n:=n) q v (λb w' c f k1 R H T=>U b w' c f k1 R H (iL.trans u.dX.Rp T)) F ops.size 0 _ fr' J _ l a (by simp) (by simp) (λi j _ _ e=>absurd e (g i)) (λi _ _=>g i) (iP _) (λj L hL=>⟨λe=>absurd e (g L),λh=>by omega⟩) (λi o hs ac _=>D i (gv.2 ⟨o,hs,by omega⟩)) V (by rw[C];unfold KY;exact cE (jH _ _) (by simp)) p ?_ (iL.refl _ _ _ _);refine⟨d.1,by rw[I];exact d.2.1,λt x s ch N=>?_⟩;rcases ou N with⟨rfl,E⟩|⟨y,hy,hd,e,_⟩;.rw[O t λi o=>E i (gv.1 o).1]at s;exact⟨λ_=>d.2.2 t x s,λh=>by simp[chainB]at h⟩
 exact absurd e (g y)
def OP{id n B:Nat}{i:ed}{K:bU}{Q:Exit->Act->bF->Prop}(o:P.follows .mixedOrders=G)(j:sU P ops ops.toList=S pis)(q:okX ops pis bs m ls []=G) (k:IF (D0 pis m) (pis.drop m) i=G) {fr:ar} {J:ai} {f w:bF} {e:Mem} {a:Act} (h:vX P (H8 pis bs m ls 0 ls) ((qv pis bs m ls (X ls)).map (iq pis)) (mG P i (pis.drop m) K) ⟨fr,J⟩) (p:kN P B f w J e) (r:FR w J e fr a) (l:∀b d c g,K b->kN P B f d b.J c->FR d b.J c b.fr g->iL n w J e d b.J c->Q .normal g d):(Code.region id ops G).wp P Q a w :=wp_region_any o (AE j q k h p r l)
end
variable(U:Array Oper)(R:Nat)(N:Nat){H:Array Oper}
def Ni(o:Oper)(j:Nat):Oper:={ o with after:=o.after.push { on:=j,ground:=.data } }
def waitsFor:Array Oper:=U.mapIdx λk o=>if k=R then Ni o N else o
def lY:(waitsFor U R N).size=U.size:=by simp[waitsFor]
def u0(k:Nat):(waitsFor U R N)[k]?=(U[k]?).map λo=>if k=R then Ni o N else o:=by simp[waitsFor]
def k9{a:Region.Mode}{listed:Array Bool}{i j x:Nat}:x∈Region.ready a (waitsFor H i j) listed<->x∈Region.ready a H listed/\(x=i->listed.getD j Z=G):=by
 simp only[Region.ready,fv,eD,lY,u0];rw[and_assoc];refine and_congr_right λh=>?_;have f:H[x]?=S H[x]:=bZ h;simp only[f,dA,nS];by_cases e:x=i
 .subst e;have g:Region.binds a { on:=j,ground:=Ground.data }=G:=rfl;simp only[aR,Ni,Array.all_push,g,jN,mz,aV,forall_const];constructor;.rintro⟨c,b,d⟩;exact⟨⟨c,b⟩,d⟩
  rintro⟨⟨c,b⟩,d⟩;exact⟨c,b,d⟩
 simp only[e,bo,dp,dm]
def Ic(a:Array Value):yielded (waitsFor U R N) a=yielded U a:=by funext k;simp only[yielded,u0];cases U[k]? with|none=>rfl|some o =>simp only[dA,js];by_cases h:k=R<;>simp[h,Ni]
section
variable {P:bl} {Q:Exit->Act->bF->Prop}
def uZ{ops:Array Oper}{i j x:Nat}{K:Act->bF->Prop}{a:Act}{w:bF}:wpOp P (waitsFor ops i j) Q x K a w<->wpOp P ops Q x K a w:=by
 simp only[wpOp,u0,Ic];cases ops[x]? with
 |none=>exact N0
 |some o =>
 simp only[dA];by_cases h:x=i;.simp only[h,aR];exact N0
 simp only[h,bo]
def s7:Op->Bool
 |.move _|.assign _|.alloc _|.box _ _|.load _ _|.store _ _ _|.fieldAddr _ _ _=>G
 |_=>Z
def RG{s:Sem Value}{w c:bF}{n:Next}(h:(do pure (Next.value (<- s)):Sem Next).run P w=.ok n c):∃v,n=.value v:=by
 rw[Sem.run_bind]at h;cases a:s.run P w with
 |ok v b =>
  rw[a]at h;simp only[Result.andThen_ok,Sem.run_pure,Result.ok.injEq]at h;exact⟨v,h.1.symm⟩
 |halt x b=>rw[a]at h;simp[Result.andThen]at h
def Wi{s:Sem Unit}{w c:bF}{n:Next}(h:(do s;pure Next.skip:Sem Next).run P w=.ok n c):n=.skip:=by
 rw[Sem.run_bind]at h;cases a:s.run P w with
 |ok v b =>
  rw[a]at h;simp only[Result.andThen_ok,Sem.run_pure,Result.ok.injEq]at h;exact h.1.symm
 |halt x b=>rw[a]at h;simp[Result.andThen]at h
def S8{o:Oper}{e:Operand->Value}{w c:bF}{n:Next}(a:s7 o.op=G)(h:(execOp e o).run P w=.ok n c):(∃v,n=.value v)\/n=.skip:=by
 obtain⟨d,b,t,p,f,g⟩:=o;simp only at a;cases b<;>simp only[s7,aI]at a;all_goals simp only[execOp]at h
 all_goals first
  |exact .inl (RG h)
  |exact .inr (Wi h)
  |(simp only[Sem.run_pure,Result.ok.injEq]at h;exact .inl ⟨_,h.1.symm⟩)
def ahK{o:Oper}(e:s7 o.op=G){a:Act}{w:bF}{c d:Act->bF->Prop}(h1:o.wp P a w c Q)(b:o.wp P a w d Q):o.wp P a w (λa w=>c a w/\d a w) Q:=by
 unfold Oper.wp at *;generalize g:(execOp a.eval o).run P w=r at *;cases r with
 |ok n f =>
  rcases S8 e g with⟨v,rfl⟩|rfl;.exact⟨h1,b⟩
  exact⟨h1,b⟩
 |halt x f=>cases x<;>simp only[Oper.upon]at h1 b |-<;>exact h1
def YO{ops:Array Oper}{x:Nat}(g:∀o,ops[x]?=S o->s7 o.op=G){e f:Act->bF->Prop}{a:Act}{w:bF}(h1:wpOp P ops Q x e a w)(b:wpOp P ops Q x f a w): wpOp P ops Q x (λa w=>e a w/\f a w) a w:=by
 unfold wpOp at *;cases d:ops[x]? with
 |none=>simp only[d]at h1 b |-;exact⟨h1,b⟩
 |some o =>
 simp only[d]at h1 b |-;split
 .rename_i c;simp only[c,aR]at h1 b;rcases h1 with h1|h1
  .rcases b with b|b;.exact .inl (ahK (g o d) h1 b)
   exact .inr b
  exact .inr h1
 rename_i c;simp only[c]at h1 b;exact⟨h1,b⟩
def vM{f:Region.Mode}{ops:Array Oper}{i j:Nat}:∀(b:Nat) (listed:Array Bool) (a:Act) (w:bF),listed.getD j Z=G->wpAny P f (waitsFor ops i j) Q b listed a w->wpAny P f ops Q b listed a w:=by
 intro b;induction b with
 |zero =>intro listed a w c h;refine⟨?_,h.2⟩;refine dv.2 λx d=>?_;exact dv.1 h.1 x (k9.2 ⟨d,λ_=>c⟩)
 |succ b ih =>
 intro listed a w c h;refine⟨λk=>h.1 (dv.2 λx d=>dv.1 k x (k9.1 d).1),λx d=>?_⟩;have:=h.2 x (k9.2 ⟨d,λ_=>c⟩);rw[uZ]at this;refine wpOp_mono (λa w l=>ih _ a w ?_ l) this;simp only[cC]at c |-;by_cases e:x=j
 .subst e;by_cases g:x<listed.size;.simp[xT,g]
  rw[ua (by omega)]at c;simp at c
 rw[fX e];exact c
def N4{l:Region.Mode}{ops:Array Oper}{i j:Nat}(q:i≠j)(s:∀x o,x≠i->x≠j->ops[x]?=S o->s7 o.op=G): ∀(b:Nat) (listed:Array Bool) (a:Act) (w:bF),listed.size=ops.size->i<ops.size->j<ops.size->wpAny P l (waitsFor ops i j) Q b listed a w->wpAny P l (waitsFor ops j i) Q b listed a w->wpAny P l ops Q b listed a w:=by
 intro b;induction b with
 |zero =>
  intro listed a w k m p g h;refine⟨?_,g.2⟩;refine dv.2 λx c=>?_;by_cases d:x=i;.exact dv.1 h.1 x (k9.2 ⟨c,λe=>absurd (d.symm.trans e) q⟩)
  exact dv.1 g.1 x (k9.2 ⟨c,λe=>absurd e d⟩)
 |succ b ih =>
 intro listed a w k m p g h;refine⟨λu=>g.1 (dv.2 λx c=>dv.1 u x (k9.1 c).1),λx c=>?_⟩;by_cases d:x=i;.have:=h.2 x (k9.2 ⟨c,λe=>absurd (d.symm.trans e) q⟩);rw[uZ]at this;refine wpOp_mono (λa w f=>vM b _ a w ?_ f) this;subst d;simp[cC,xT,k,m]
 by_cases n:x=j;.have:=g.2 x (k9.2 ⟨c,λe=>absurd e d⟩);rw[uZ]at this;refine wpOp_mono (λa w f=>vM b _ a w ?_ f) this;subst n;simp[cC,xT,k,p]
 have k1:=g.2 x (k9.2 ⟨c,λe=>absurd e d⟩);have r:=h.2 x (k9.2 ⟨c,λe=>absurd e n⟩);rw[uZ]at k1 r;refine wpOp_mono (λa w f=>ih _ a w (by simp[k]) m p f.1 f.2) (YO (λo t=>s x o d n t) k1 r)
end
variable(R:Array Oper)(N:Nat)(M:Nat){U:Array Oper}{F H:Nat}
def sw(k:Nat):Nat:=if k=N then M else if k=M then N else k
def E4(k:Nat):sw N M (sw N M k)=k:=by simp only[sw];(repeat' split)<;>omega
def Jo{i j k n:Nat}(b:i<n)(a:j<n):sw i j k<n<->k<n:=by simp only[sw];(repeat' split)<;>omega
def OO(o:Oper):Oper:={ o with after:=o.after.map λe=>{ e with on:=sw N M e.on },guard:=o.guard.map λg=>(sw N M g.1,g.2) }
def sV:Array Oper:=R.mapIdx λk o=>OO N M ((R[sw N M k]?).getD o)
def E5:(sV R N M).size=R.size:=by simp[sV]
def BT(d:F<U.size)(c:H<U.size)(k:Nat):(sV U F H)[k]?=(U[sw F H k]?).map (OO F H):=by
 simp only[sV,Ji];by_cases a:k<U.size;.have b:=(Jo (k:=k) d c).2 a;simp[bZ a,bZ b]
 have b:¬sw F H k<U.size:=λh=>a ((Jo d c).1 h);rw[ua (by omega),ua (by omega)];rfl
def acI(a:Region.Mode)(e:Edge)(n:Nat):Region.binds a { e with on:=n }=Region.binds a e:=rfl
def Fu{e:Region.Mode}{listed a:Array Bool}(c:F<U.size)(b:H<U.size)(f:∀k d,a.getD k d=listed.getD (sw F H k) d){x:Nat}:
  x∈Region.ready e (sV U F H) a<->sw F H x∈Region.ready e U listed:=by simp only[Region.ready,fv,eD,E5,BT c b,Jo c b,f];refine and_congr_right λh=>?_;have g:=(Jo (k:=x) c b).2 h;simp only[bZ g,dA,nS,OO,Array.all_map,Function.comp_def,acI,f,E4]
def Rf(c:F<U.size)(b:H<U.size)(a:Array Value)(k:Nat):yielded (sV U F H) a (sw F H k)=yielded U a k:=by simp only[yielded,BT c b,E4];cases U[k]?<;>rfl
section
variable {P:bl} {Q:Exit->Act->bF->Prop}
def ads{ops:Array Oper}{i j x:Nat}(b:i<ops.size)(c:j<ops.size){K:Act->bF->Prop}{a:Act}{w:bF}:wpOp P (sV ops i j) Q x K a w<->wpOp P ops Q (sw i j x) K a w:=by
 simp only[wpOp,BT b c];cases ops[sw i j x]? with
 |none=>exact N0
 |some o =>
 simp only[dA];have e:Region.wanted (OO i j o) (yielded (sV ops i j) a.tmps)=Region.wanted o (yielded ops a.tmps):=by obtain⟨d,h,t,p,f,g⟩:=o;cases g with|none=>rfl|some g=>simp only[Region.wanted,OO,dA,Rf b c]
 rw[e];exact N0
def YP{p:Region.Mode}{ops:Array Oper}{i j:Nat}(n:i<ops.size)(o:j<ops.size):∀(c:Nat) (listed b:Array Bool) (a:Act) (w:bF),listed.size=ops.size->b.size=ops.size->(∀k d,b.getD k d=listed.getD (sw i j k) d) ->wpAny P p (sV ops i j) Q c b a w->wpAny P p ops Q c listed a w:=by
 intro c;induction c with
 |zero =>intro listed b a w r g m h;refine⟨?_,h.2⟩;refine dv.2 λx f=>?_;exact dv.1 h.1 (sw i j x) ((Fu n o m).2 (by rw[E4];exact f))
 |succ c ih =>
 intro listed b a w r g m h;refine⟨λs=>h.1 (dv.2 λx f=>dv.1 s _ ((Fu n o m).1 f)),λx f=>?_⟩;have:=h.2 (sw i j x) ((Fu n o m).2 (by rw[E4];exact f));rw[ads n o,E4]at this;have u:x<ops.size:=by simp only[Region.ready,fv,eD]at f;exact f.1
 refine wpOp_mono (λa w l=>ih _ _ a w (by simp[r]) (by simp[g]) (λk d=>?_) l) this;have q:=m k d;simp only[cC]at q |-;have v:=(Jo (k:=x) n o).2 u;by_cases l:sw i j x=k;.subst l;rw[E4,KV (by omega),KV (by omega)]
 have t:x≠sw i j k:=λe=>l (by rw[e,E4]);rw[fX l,fX t];exact q
def Ll{ops:Array Oper}{id i j:Nat}{a:Act}{w:bF}(f:P.follows .mixedOrders=G)(g:i≠j)(c:i<ops.size)(b:j<ops.size)(e:∀x o,x≠i->x≠j->ops[x]?=S o->s7 o.op=G) (h1:wpAny P .any (waitsFor ops j i) Q ops.size (Array.replicate ops.size Z) a { w with drawn:=w.drawn+1 }) (h:wpAny P .any (sV (waitsFor ops i j) i j) Q ops.size (Array.replicate ops.size Z) a { w with drawn:=w.drawn+1 }):(Code.region id ops G).wp P Q a w:=by refine wp_region_any f (N4 g e _ _ _ _ (by simp) c b ?_ h1);refine YP (by rw[lY];exact c) (by rw[lY];exact b) _ _ _ _ _ (by simp[lY]) (by simp[lY]) (λk d=>?_) h;simp only[cC,CH,Jo c b]
end
def Le(J J':ai):Prop:=∀(id:Nat) (o:Ob),J[id]?=S o->o=Ob.dead\/J'[id]?=S o
section
variable {J J':ai} (h:Le J J')
include h
theorem Le.box{id T:Nat}{cs:ar}(e:J[id]?=S (.box T cs)):J'[id]?=S (.box T cs):=(h id _ e).resolve_left (by simp)
theorem Le.row{id E sz by' g:Nat}{sh:Bool}{xs:eJ}(e:J[id]?=S (.row E sz by' g sh xs)):J'[id]?=S (.row E sz by' g sh xs):=(h id _ e).resolve_left (by simp)
theorem Le.map{id K E:Nat}{a:List (V×V)}(e:J[id]?=S (.map K E a)):J'[id]?=S (.map K E a):=(h id _ e).resolve_left (by simp)
theorem KH{x:V}(a:jK J x=G):jK J' x=G:=by
 unfold jK at a |-;repeat' split at a
 all_goals first|(simp at a;done)|skip
 all_goals first|(rename_i e;simp only[h.row e];exact a)|rfl
theorem Gw{x:V}(a:jQ J x=G):jQ J' x=G:=by
 unfold jQ at a |-;split at a;.rw[dd]at a |-;exact λy b=>KH h (a y b)
 exact KH h a
theorem Wq{b:Nat}{x:V}{r:eJ}(a:rowsOf J b x=S r):rowsOf J' b x=S r:=by unfold rowsOf at a |-;split at a<;>(try exact a)<;>split at a<;>(try (simp at a;done));all_goals (rename_i e;simp only[h.row e];exact a)
theorem Ss{b:Nat}{m k:V}{r:Option (Nat×V)}(a:kg J b m k=S r):kg J' b m k=S r:=by unfold kg at a |-;split at a<;>(try exact a);split at a<;>(try (simp at a;done));rename_i e;simp only[h.map e];exact a
theorem ZY{fr:ar}{i:I}{d:Prop}{r:V}(b:ca fr J i=S (d,r))(c:d):∃j,ca fr J' i=S (j,r)/\j:=by
 cases i;case build zs parts =>simp only[ca]at b |-;split at b<;>simp only[aa,aY,reduceCtorEq]at b;obtain⟨rfl,rfl⟩:=b;rename_i e;exact⟨_,by simp only[e],λp n=>Gw h (c p n)⟩
 case fT sz szs xs =>simp only[ca,aa,aY]at b |-;obtain⟨rfl,rfl⟩:=b;exact⟨_,⟨rfl,rfl⟩,λx f=>Gw h (c.1 x f),c.2⟩
 case load k a =>
  simp only[ca]at b |-;split at b;.split at b<;>(try (simp at b;done));rename_i e;simp only[h.box e];exact⟨d,b,c⟩
  .exact⟨d,b,c⟩
  .split at b<;>(try (simp at b;done));rename_i e;simp only[h.row e];exact⟨d,b,c⟩
  simp at b
 case zo x =>simp only[ca]at b |-;split at b<;>(try exact⟨d,b,c⟩);split at b<;>(try (simp at b;done));rename_i e;simp only[h.row e];exact⟨d,b,c⟩
 case Qp off x =>simp only[ca]at b |-;split at b<;>(try exact⟨d,b,c⟩);split at b<;>(try (simp at b;done));rename_i e;simp only[h.row e];exact⟨d,b,c⟩
 case b2s x =>simp only[ca]at b |-;split at b<;>(try (simp at b;done));rename_i e;simp only[Wq h e];exact⟨d,b,c⟩
 case look kd z ok m k =>simp only[ca]at b |-;split at b<;>(try (simp at b;done));all_goals (rename_i e;simp only[Ss h e];exact⟨d,b,c⟩)
 case IL x =>simp only[ca]at b |-;split at b<;>(try exact⟨d,b,c⟩);split at b<;>(try (simp at b;done));rename_i e;simp only[h.map e];exact⟨d,b,c⟩
 case len str x =>
  cases str
  .simp only[ca]at b |-;split at b<;>(try exact⟨d,b,c⟩);all_goals
    split at b<;>(try (simp at b;done));rename_i e;simp only[h.row e];exact⟨d,b,c⟩
  exact⟨d,b,c⟩
 case idx sz x i =>
  simp only[ca]at b |-;split at b<;>(try (simp at b;done));split at b<;>(try exact⟨d,b,c⟩);all_goals
   split at b<;>(try (simp at b;done));rename_i e;simp only[h.row e];exact⟨d,b,c⟩
 case slice sz x lo hi =>
  by_cases f:∃id g,ev fr x=.own id g
  .obtain⟨id,g,f⟩:=f;simp only[ca,f]at b |-;cases l:J[id]? with
   |none=>simp[l]at b
   |some o =>
   rcases h id o l with rfl|q;.simp[l]at b
   rw[l]at b;rw[q];exact⟨d,b,c⟩
  have e:ca fr J' (.slice sz x lo hi)=ca fr J (.slice sz x lo hi):=by simp only[ca];cases s:ev fr x<;>first|rfl|(exact absurd ⟨_,_,s⟩ f)
  rw[e];exact⟨d,b,c⟩
 all_goals exact⟨d,b,c⟩
end
variable(U:List Pi)(F:ed){B:Nat}{D:Pi}{C:ai}{H:ar}{E:bl}
def Fact.le{J':ai}(a:Fact D H C)(h:Le C J'):Fact D H J':=by obtain⟨c,e,r,b,g⟩:=a;exact⟨c,e,r,b,λi=>by obtain⟨j,d,f⟩:=g i;exact ZY h d f⟩
def acj{l w:bF}{i:Mem}(q:kN E B l w C i){id:Nat}(d:C[id]?=S .dead)(T:Nat)(f:ar)(e:Array Value)(h:CR w C i f e): ∃μ',kN E B l (w.alloc (.cells e T)) (C.set id (.box T f)) μ'/\VR (w.alloc (.cells e T)) (C.set id (.box T f)) μ' (.ptr id 0) (.pointer (S ⟨w.heap.size,0,Y⟩))/\qZ w C i (w.alloc (.cells e T)) (C.set id (.box T f)) μ':=by
 have u:id<X C:=(ag.1 d).1;have k:(C.set id (.box T f))[id]?=S (.box T f):=aN u;have p:=q.update (w':=w.alloc (.cells e T)) (J':=C.set id (.box T f)) (μ':=xX i id (.pointer (S ⟨w.heap.size,0,Y⟩))) id Y (World.grownBy_alloc w _ Y) (by simp) (by simp)
  (λj g=>bD (BM g)) (λj g=>uf i _ _ j g) (λb m=>by rw[gy]at m;simp only[l9,aa]at m;exact .inr (by omega))
  (λb s v o c z=>by rw[d]at c;simp only[aa]at c;exact absurd c.symm z)
  (λJ t c=>by rw[d]at c;simp at c) (λK a H c=>by rw[d]at c;simp at c)
  (λa D y L I F _ c=>by rw[k]at c;simp at c)
  (λr o c=>by
   rw[k]at c;simp only[aa]at c;subst c;rw[gy];refine⟨w.heap.size,e,rfl,q.base,heap_alloc_new w _,h.1.symm,λj x n=>?_⟩;have g:j<e.size:=by rw[<- h.1];exact(ag.1 n).1
   exact⟨e[j],bZ g,by have:=(h.2 j x n).mono r;simpa[g]using this⟩);exact⟨_,p.1,.ptr _ 0 _ ⟨T,f,k⟩ (gy _ _ _),p.2⟩
def Tw{ops:Array Oper}{o:Oper}{T:Nat}{zs:ar}(p:cPi E ops o=S D)(C:D=⟨S B,[],.alloc T zs⟩){k:Nat->Option (fu)}{d:Nat}{P w:bF}{J:ai}{μ:Mem}{a:Act} (hS:kN E d P w J μ) (hF:Jf w J μ H k a) (O:Q3 k D) {id:Nat} (K:J[id]?=S .dead) {R:Act->bF->Prop} {Q:Exit->Act->bF->Prop} (V:∀f M s,kN E d P s (J.set id (.box T zs)) f->Jf s (J.set id (.box T zs)) f (gN H (S B) (.ptr id 0)) (wj k D) M->rJ w J μ s (J.set id (.box T zs)) f->R M s) : if Region.wanted o (yielded ops a.tmps)then o.wp E a w R Q\/(o.asks E a w/\LetsOut Q)else R (a.put o.dst undef) w:=by
 unfold cPi at p;split at p<;>simp only[aa,reduceCtorEq]at p;rename_i g l;rw[C]at p;simp only[Pi.mk.injEq]at p;obtain⟨W,rfl,m⟩:=p;have hw:Region.wanted o (yielded ops a.tmps)=G:=by cases q:o.guard with|none=>simp[Region.wanted,q]|some jb =>obtain⟨j,b⟩:=jb;rw[q]at l;simp only[BD]at l;split at l<;>(try simp only[reduceCtorEq]at l);split at l<;>simp at l
 rw[aO hw];refine .inl ?_;have e:compile E o=S (.alloc T zs):=by cases N:compile E o with|none=>rw[N]at m;simp at m|some j=>rw[N]at m;simp only[nS]at m;rw[m]
 have ja:∃t z,o.op=.alloc T/\E.info? T=S t/\t.zero=S z/\lT z.cells.toList=S zs:=by
  cases i:o.op;case alloc T' =>simp only[compile,i]at e;split at e<;>(try simp only[reduceCtorEq]at e);rename_i t u;split at e<;>(try simp only[reduceCtorEq]at e);rename_i z y;simp only[aH,I.alloc.injEq]at e;obtain⟨ac,L,rfl,rfl⟩:=e;exact⟨t,z,rfl,u,y,L⟩
  case call c =>exfalso;simp only[compile,i,oW]at e;revert e;(repeat' split)<;>simp
  case makeFunc fn first caps =>exfalso;cases fn<;>simp only[compile,i,reduceCtorEq]at e;revert e;split<;>simp
  case makeMap T' n =>exfalso;cases n<;>simp only[compile,i,reduceCtorEq]at e;revert e;split<;>simp
  case slice T' x lo m mx =>exfalso;cases mx<;>simp only[compile,i,reduceCtorEq]at e;revert e;(repeat' split)<;>simp
  all_goals
   exfalso;simp only[compile,i]at e;revert e;(try (repeat' split))<;>simp;all_goals (intro x _;split<;>simp)
 obtain⟨t,z,i,u,y,L⟩:=ja;have fY:(execOp a.eval o).run E w=.ok (.value (.pointer (S ⟨w.heap.size,0,Y⟩))) (w.alloc (.cells z.cells T)):=by simp[execOp,i,Instr.alloc,zeroValue,typeInfo,u,y,newVar,newRow]
 obtain⟨f,h1,h2,U⟩:=acj hS K T _ _ (oD (w:=w) (J:=J) (μ:=μ) L);unfold Oper.wp;rw[fY];simp only[Oper.upon];rw[C]at O;have F:o.dst=S B:=W;rw[F];have:=hF.xX (v:=.pointer (S ⟨w.heap.size,0,Y⟩)) (r:=.ptr id 0) O U.dX (λ_ _ _ _=>h2) (λh=>by simp[chainB]at h);rw[C]at V;exact V f _ _ h1 this U.dX
def Tx:List Ob->(List Ob->Prop)->Prop|[],p=>p []|_::b,p=>∀a,Tx b λc=>p (a::c)
def mr(b:List Ob):List Ob:=b.map λ_=>.dead
def VS:∀{b:List Ob} {p:List Ob->Prop},Tx b p->∀c,X c=X b->p c
 |[],p,h,c,hl=>by simp only[aj,lX]at hl;subst hl;exact h
 |_::b,p,h,c,hl=>by cases c with|nil=>simp at hl|cons a c=>exact VS (h a) c (by simpa using hl)
def grown(c:ai)(d:List Ob)(s:ai)(K:ai->ai->Prop):Prop:=∃a b,X a=X c/\s=a++(d++b)/\K a b
def BX(P:bl)(b:List Ob):List (List Pi×Pi×List Pi)->List (List Pi×Pi×List Pi)->List Pi->(bU)->ar->ai->ai->Prop
 |[],[],last,K,fr,τ,ε=>mG P [] last (λst=>K ⟨st.fr,τ++(b++ε)⟩) ⟨fr,τ++(mr b++ε)⟩
 |[],(NW,L,chk)::ds,last,K,fr,τ,ε=>mG P [] NW (λa=>gI P L (λst2=>(∀p∈chk,HQ p st2)/\vX P ds last K st2) ⟨a.fr,τ++(b++ε)⟩) ⟨fr,τ++(mr b++ε)⟩
 |(NW,L,chk)::ds1,ds2,last,K,fr,τ,ε=>mG P [] NW (λa=>Tx b λc=>gI P L (λst2=>(∀p∈chk,HQ p st2)/\grown τ c st2.J (BX P b ds1 ds2 last K st2.fr)) ⟨a.fr,τ++(c++ε)⟩) ⟨fr,τ++(mr b++ε)⟩
def QP(p:Pi):Ob:=match p.i with|.alloc T zs=>.box T zs|_=>.dead
def QN:List Ob:=F.map λf=>QP (iq U f)
def zn(listed:Array Bool):List Ob:=F.map λf=>bif listed.getD f Z then QP (iq U f)else .dead
structure XOF (pis:List Pi) (bs:ed) (m:Nat) (ls fl:ed) (k1:Nat):Prop where
 NY:∀f∈fl,f<m/\f ∉ ls/\∃d T zs,iq pis f=⟨some d,[],.alloc T zs⟩
 nd:fl.Nodup
 kl:k1<=ls.length
 late:∀(k L f:Nat),k1<=k->ls[k]?=some L->f∈fl->tb bs L f=true
section
variable {P:bl} {ops:Array Oper} {pis:List Pi} {bs:ed} {m:Nat} {ls fl:ed} {k1:Nat}
def aej{listed:Array Bool}(h:∀f∈fl,mU listed f):zn pis fl listed=QN pis fl:=by refine eH λf a=>?_;have:listed.getD f Z=G:=h f a;rw[this];rfl
def Le.mid{d a b e:ai}(h:Le a b)(f:X a=X b):Le (d++(a++e)) (d++(b++e)):=by
 intro id o c;by_cases i:id<X d;.rw[bc i]at c |-;exact .inr c
 rw[bB (by omega)]at c |-;by_cases g:id - X d<X a;.rw[bc g]at c;rw[bc (by omega)];exact h _ _ c
 rw[bB (by omega)]at c;rw[bB (by omega),<- f];exact .inr c
def aaT(c b:ai)(listed:Array Bool):Le (c++(mr (QN pis fl)++b)) (c++(zn pis fl listed++b)):=by refine Le.mid (λid o a=>?_) (by simp[mr,QN,zn]);simp only[mr,QN,kO,bP,aH]at a;obtain⟨_,_,rfl⟩:=a;exact .inl rfl
def U7(k:XOF pis bs m ls fl k1){listed:Array Bool}{i:Nat}(d:i<listed.size)(a:i ∉ fl):zn pis fl (listed.setIfInBounds i G)=zn pis fl listed:=by
 refine eH λf b=>?_;have c:=iD (listed:=listed) (j:=f) d;have g:f≠i:=λe=>a (e▸b);simp only[g,nQ,mU]at c;have:(listed.setIfInBounds i G).getD f Z=listed.getD f Z:=by cases h:listed.getD f Z<;>simp_all
 rw[this]
def aei(h:XOF pis bs m ls fl k1){listed:Array Bool}{j f:Nat}(d:f<listed.size)(a:fl[j]?=S f):zn pis fl (listed.setIfInBounds f G)=(zn pis fl listed).set j (QP (iq pis f)):=by
 refine jF λx=>?_;have c:j<X fl:=(ag.1 a).1;by_cases b:j=x;.subst b;rw[aN (by simpa[zn]using c)];have:(listed.setIfInBounds f G).getD f Z=G:=(iD d).2 (.inl rfl);simp only[zn,bP,a,dA,this,cond_true]
 rw[bD b];simp only[zn,bP];cases g:fl[x]? with
 |none=>rfl
 |some y =>
 have i:y≠f:=by rintro rfl;exact b ((List.getElem?_inj c h.nd).1 (a.trans g.symm))
 have e:=iD (listed:=listed) (j:=y) d;simp only[i,nQ,mU]at e;have:(listed.setIfInBounds f G).getD y Z=listed.getD y Z:=by cases k:listed.getD y Z<;>simp_all
 simp only[dA,this]
def DT(P:bl)(pis:List Pi)(bs:ed)(m:Nat)(ls fl:ed)(k1:Nat)(c:bU)(k:Nat)(fr:ar)(a d:ai):Prop :=
 match (ls.take k1)[k]? with
 |some L=>Tx (QN pis fl) λb=>gI P (iq pis L) (λst2=>(∀p∈(acz pis bs m ls k L).map (iq pis),HQ p st2)/\grown a b st2.J
   (BX P (QN pis fl) (H8 pis bs m ls (k+1) ((ls.take k1).drop (k+1))) (H8 pis bs m ls k1 (ls.drop k1)) ((qv pis bs m ls (X ls)).map (iq pis)) c st2.fr)) ⟨fr,a++(b++d)⟩
 |none=>zD P pis bs m ls c k fr (a++(QN pis fl++d))
def EU.ahc(c:EU ops pis bs m ls fl)(D:XOF pis bs m ls fl k1){B:bU}{k:Nat}(H:k<=k1){fr:ar}{s x:ai} (h:BX P (QN pis fl) (H8 pis bs m ls k ((ls.take k1).drop k)) (H8 pis bs m ls k1 (ls.drop k1)) ((qv pis bs m ls (X ls)).map (iq pis)) B fr s x) : ∃fr',DT P pis bs m ls fl k1 B k fr' s x/\(∀i∈qv pis bs m ls k,Fact (iq pis i) fr' (s++(mr (QN pis fl)++x)))/\(∀t,(∀i∈qv pis bs m ls k,(iq pis i).d≠S t)->fr'[t]?=fr[t]?)/\X fr'=X fr:=by
 have u:(qv pis bs m ls k).Pairwise (λi j=>∀t,(iq pis j).d=S t->t ∉ looks (iq pis i)/\(iq pis i).d≠S t):=by
  refine apW ?_ (NU _ as2);intro i j a n I t o;replace a:=(gv (k:=k)).1 a;replace n:=(gv (k:=k)).1 n;refine⟨λp=>?_,λw=>?_⟩;.have:=c.lt a.1 n.1 (c.uG a.1 n.1 o p);omega
  have:=c.dst i j t a.1 n.1 w o;omega
 have v:∀i∈qv pis bs m ls k,∀t,(iq pis i).d=S t->t ∉ looks (iq pis i):=λi a t o p=>by rw[gv]at a;have:=c.lt a.1 a.1 (c.uG a.1 a.1 o p);omega
 have q:∀i∈qv pis bs m ls k,(iq pis i).i.eV=true:=λi a=>(gv.1 a).2.1;have J:=D.kl;have y:X (ls.take k1)=k1:=by rw[aX];omega
 by_cases F:k<k1;.have e:(ls.take k1).drop k=(ls.take k1)[k]::(ls.take k1).drop (k+1):=fO (by omega);rw[e]at h;simp only[H8,BX]at h;obtain⟨fr',g,b,l,f⟩:=BV _ _ h q u v;refine⟨fr',?_,b,l,f⟩;simp only[DT,aA (show k<X (ls.take k1) by omega)];exact g
 have r:k=k1:=by omega
 subst r;rw[List.drop_of_length_le (by omega)]at h;have C:(ls.take k)[k]?=Y:=cp (by omega);by_cases z:k<X ls;.have e:ls.drop k=ls[k]::ls.drop (k+1):=fO z;rw[e]at h;simp only[H8,BX]at h;obtain⟨fr',g,b,l,f⟩:=BV _ _ h q u v;refine⟨fr',?_,b,l,f⟩;simp only[DT,C,zD,aA z];exact g
 have E:k=X ls:=by omega
 subst E;rw[qO]at h;simp only[H8,BX]at h;obtain⟨fr',g,b,l,f⟩:=BV _ _ h q u v;refine⟨fr',?_,b,l,f⟩;have e:ls[X ls]?=Y:=cp (aB _);simp only[DT,C,zD,e];exact g
def IE(g:EU ops pis bs m ls fl)(H:XOF pis bs m ls fl k1)(hp:sU P ops ops.toList=S pis){n B n0:Nat}{gs:ed}{w0 ws:bF}{aE:ai}{a1:Mem}{K:bU}{Q:Exit->Act->bF->Prop} (hQ:∀st w E a,K st->kN P B w0 w st.J E->FR w st.J E st.fr a->iL n ws aE a1 w st.J E->Q .normal a w) (F:IF (D0 pis m) (pis.drop m) gs=true) : ∀(c k:Nat) (listed:Array Bool) (fr:ar) (l u:ai) (w:bF) (E:Mem) (a:Act),listed.size=ops.size ->(∀i j,i<X pis->j<X pis->mU listed i->tb bs i j=true->mU listed j)->(∀i,m<=i->i<X pis->¬mU listed i)->k<=k1 ->(∀j L,ls[j]?=S L->(mU listed L<->j<k))->(∀i,i<m->(iq pis i).i.eV=true->Jq bs ls i<=k->¬mU listed i->Fact (iq pis i) fr (l++(zn pis fl listed++u))) ->X l=n0->(∀j f d,fl[j]?=S f->(iq pis f).d=S d->gN fr (S d) (.ptr (n0+j) 0)=fr) ->DT P pis bs m ls fl k1 (mG P gs (pis.drop m) K) k fr l u->KY (X pis) listed<=c ->kN P B w0 w (l++(zn pis fl listed++u)) E->Jf w (l++(zn pis fl listed++u)) E fr (rk pis m listed) a->iL n ws aE a1 w (l++(zn pis fl listed++u)) E->wpAny P .any ops Q c listed a w:=by
 have hn:X pis=ops.size:=by rw[(rI hp).1,aU]
 have hm:=g.mn;have tN:=H.kl;have b8:X (ls.take k1)=k1:=by rw[aX];omega
 have done:∀(c k:Nat) (listed:Array Bool) (fr:ar) (l u:ai) (w:bF) (E:Mem) (a:Act),listed.size=ops.size ->(∀i j,i<X pis->j<X pis->mU listed i->tb bs i j=true->mU listed j)->(∀i,m<=i->i<X pis->¬mU listed i)->k=k1->(∀f∈fl,mU listed f) ->(∀j L,ls[j]?=S L->(mU listed L<->j<k))->(∀i,i<m->(iq pis i).i.eV=true->Jq bs ls i<=k->¬mU listed i->Fact (iq pis i) fr (l++(zn pis fl listed++u))) ->DT P pis bs m ls fl k1 (mG P gs (pis.drop m) K) k fr l u->KY (X pis) listed<=c ->
   kN P B w0 w (l++(zn pis fl listed++u)) E->Jf w (l++(zn pis fl listed++u)) E fr (rk pis m listed) a->iL n ws aE a1 w (l++(zn pis fl listed++u)) E->wpAny P .any ops Q c listed a w:=by intro c k listed fr l u w E a W hc zt hk vv N Dz G7 hu hS hF Qe;subst hk;have en:(ls.take k)[k]?=none:=cp (by omega);simp only[DT,en]at G7;rw[aej vv]at Dz hS hF Qe;exact A3 g hp hQ F c k listed fr _ w E a W vv hc zt tN N Dz G7 hu hS hF Qe
 intro c;induction c with
 |zero =>
  intro k listed fr l u w E a W hc zt hk N Dz Vy V G7 hu hS hF Qe;have bk:∀i,i<X pis->mU listed i:=λi hi=>bY λh=>by have:=TM hi h;omega
  have ky:∀i,i<m->mU listed i:=λi hi=>bk i (by omega);have tN:k=k1:=by
   refine bY λiV=>?_;have eX:k<X ls:=by omega
   have:=(N k ls[k] (aA eX)).1 (ky _ (g.lsm _ (dQ eX)).1);omega
  exact done 0 k listed fr l u w E a W hc zt tN (λf hf=>ky f (H.NY f hf).1) N Dz G7 hu hS hF Qe
 |succ c ih =>
 intro k listed fr l u w E a W hc zt hk N Dz Vy V G7 hu hS hF Qe;by_cases VA:k=k1/\∀f∈fl,mU listed f;.exact done _ k listed fr l u w E a W hc zt VA.1 VA.2 N Dz G7 hu hS hF Qe
 have a4:¬∀i,i<m->mU listed i:=by
  intro ky;refine VA ⟨?_,λf hf=>ky f (H.NY f hf).1⟩;refine bY λiV=>?_;have eX:k<X ls:=by omega
  have:=(N k ls[k] (aA eX)).1 (ky _ (g.lsm _ (dQ eX)).1);omega
 refine⟨λh=>absurd (λi hi=>g.first W h i (by omega)) a4,λi hi=>?_⟩;obtain⟨b9,Xz,o,ho,_⟩:=wG W hi;have EM:i<X pis:=by omega
 have Hj:∀j,j<X pis->tb bs i j=true->mU listed j:=λj C F=>g.ready hn W hc hi C F;have IW:i<m:=by refine bY λh=>a4 λj C=>?_;exact Hj j (by omega) (g.tail i j (by omega) EM (by omega))
 obtain⟨p,b3,SV⟩:=(rI hp).2 i o (by simpa using ho);have R:iq pis i=p:=by simp[iq,ax,b3]
 have gB:Q3 (rk pis m listed) p:=R▸g.aos hc IW Xz Hj;have s:∀x j,x<X pis->j<X pis->mU (listed.setIfInBounds i true) x->tb bs x j=true->mU (listed.setIfInBounds i true) j:=by
  intro x j b C v F;rw[iD (by omega)]at v |-;rcases v with rfl|v;.exact .inr (Hj j C F)
  exact .inr (hc x j b C v F)
 have ac:∀x,m<=x->x<X pis->¬mU (listed.setIfInBounds i true) x:=by
  intro x b bi v;rw[iD (by omega)]at v;rcases v with rfl|v;.omega
  exact zt x b bi v
 have a0:KY (X pis) (listed.setIfInBounds i true)<=c:=by have:=TL EM (by omega:i<listed.size) Xz;omega
 have a8:∀x,x<m->(iq pis x).i.eV=true->(∀j,j<X pis->tb bs x j=true->mU listed j)->Jq bs ls x<=k:=by
  intro x b hs a9;refine bY λeX=>?_;have h1:Jq bs ls x<=X ls:=jH _ _;have h2:k<X ls:=by omega
  have h3:=(g.NW x k ls[k] b hs (aA h2)).2 (by omega);have h4:=a9 ls[k] (by have:=(g.lsm _ (dQ h2)).1;omega) h3;have:=(N k ls[k] (aA h2)).1 h4;omega
 have e:wj (rk pis m listed) p=rk pis m (listed.setIfInBounds i true):=by rw[<- R];exact g.wj IW (by omega)
 simp only[wpOp,ho];by_cases hs:p.i.eV=true;.
  have Nh:(iq pis i).i.eV=true:=by rw[R];exact hs
  have am:i ∉ fl:=λh=>by obtain⟨d,T,zs,h2⟩:=(H.NY i h).2.2;rw[h2]at Nh;simp[I.eV]at Nh
  have hf:=Dz i IW Nh (a8 i IW Nh Hj) Xz;rw[R]at hf;refine aia SV hS hF gB (VK hf) ?_;intro r J' O a' w' k1 k2 k3 k4;simp only[St.mk.injEq]at k1;obtain⟨k1,rfl⟩:=k1;rw[k1,e]at k3;have M:=U7 (pis:=pis) H (listed:=listed) (i:=i) (by omega) am;refine ih k _ fr l u w' O a' (by simpa using W) s ac hk (λj L hL=>?_) (λx b Bi ad Aj=>?_) Vy V G7 a0 (by rw[M];exact k2) (by rw[M];exact k3) (by rw[M];exact Qe.trans k4.Rp)
  .rw[iD (by omega),N j L hL];have:L≠i:=λe=>by have:=(g.lsm L (bn hL)).2;rw[e,Nh]at this;simp at this
   simp[this]
  rw[M];exact Dz x b Bi ad λh=>Aj ((iD (by omega)).2 (.inr h))
 have Nh:(iq pis i).i.eV=Z:=by rw[R];simpa using hs
 rcases g.PN i IW Nh with oT|oT;.
  obtain⟨j,C⟩:=df.1 oT;have am:i ∉ fl:=λh=>(H.NY i h).2.1 oT;have uL:j<X ls:=(ag.1 C).1;have cb:¬j<k:=λh=>Xz ((N j i C).2 h);have b0:j=k:=by
   refine bY λiV=>?_;have tN:k<X ls:=by omega
   have h2:=g.aes k j i ls[k] (by omega) (aA tN) C;have h3:=Hj ls[k] (by have:=(g.lsm _ (dQ tN)).1;omega) h2;have:=(N k ls[k] (aA tN)).1 h3;omega
  subst b0;have be:j<k1:=by refine bY λh=>VA ⟨by omega,λf hf=>?_⟩;exact Hj f (by have:=(H.NY f hf).1;omega) (H.late j i f (by omega) C hf)
  have b5:(ls.take k1)[j]?=S i:=by rw[ft,aO be];exact C
  simp only[DT,b5,R]at G7;have bv:=VS G7 (zn pis fl listed) (by simp[zn,QN]);refine opG SV hS hF gB bv ?_;intro r J' O a' w' k1 k2 k3 k4;obtain⟨bu,au,ap,a7,nI,fY⟩:=k1;simp only at nI;subst nI;obtain⟨fr',h1,h2,h3,h4⟩:=g.ahc H (k:=j+1) (by omega) fY;rw[e]at k3;have M:=U7 (pis:=pis) H (listed:=listed) (i:=i) (by omega) am;have mP:∀x∈qv pis bs m ls (j+1),¬mU (listed.setIfInBounds i true) x:=by
   intro x b v;rw[gv]at b;rw[iD (by omega)]at v;rcases v with rfl|v;.rw[Nh]at b;simp at b
   have:=a8 x b.1 b.2.1 λy D F=>hc x y (by omega) D v F;omega
  have Hk:∀t y,y<m->(iq pis y).d=S t->mU (listed.setIfInBounds i true) y->fr'[t]?=(gN fr p.d r)[t]?:=by intro t y D U v;refine h3 t λx b aM=>mP x b ?_;rw[g.dst x y t (gv.1 b).1 D aM U];exact v
  have bg:Jf w' (au++(zn pis fl listed++ap)) O fr' (rk pis m (listed.setIfInBounds i true)) a':=by
   refine⟨k3.1,by rw[h4];exact k3.2.1,λt x b ch DC=>?_⟩;have b4:fr'[t]?=(gN fr p.d r)[t]?:=by
    rcases ou DC with⟨_,rD⟩|⟨y,D,U,v,_⟩;.exact h3 t λx b=>rD x (gv.1 b).1
    exact Hk t y D U v
   have Eh:chainB fr' ch=chainB (gN fr p.d r) ch:=by
    refine pz λq hq=>?_;rcases ou DC with⟨rfl,_⟩|⟨y,D,U,v,rfl⟩;.simp at hq
    obtain⟨z,hz,b6,br⟩:=g.chain y q D hq;exact Hk q.1 z hz b6 (s y z (by omega) (by omega) v br)
   rw[Eh];rw[b4]at b;exact k3.2.2 t x b ch DC
  refine ih (j+1) _ fr' au ap w' O a' (by simpa using W) s ac (by omega) (λy L hL=>?_) (λx b Bi ad Aj=>?_) (a7.trans Vy) (λy f d D U=>?_) h1 a0 (by rw[M];exact k2) (by rw[M];exact bg) (by rw[M];exact Qe.trans k4.Rp)
  .rw[iD (by omega),N y L hL];constructor
   .rintro(rfl|h);.refine bY λiV=>?_;have h5:=g.aes j y L L (by omega) C hL;have:=g.lt IW IW h5;omega
    omega
   intro h;rcases jt y j with h5|h5;.exact .inr h5
   have:y=j:=by omega
   subst this;rw[hL]at C;simp only[aa]at C;exact .inl C
  .rw[M];by_cases b7:Jq bs ls x=j+1;.exact(h2 x (gv.2 ⟨b,Bi,b7⟩)).le (aaT au ap listed)
   have av:Jq bs ls x<=j:=by omega
   have a6:¬mU listed x:=λh=>Aj ((iD (by omega)).2 (.inr h));have bR:¬tb bs i x=true:=λh=>a6 (Hj x (by omega) h);have bq:Fact (iq pis x) (gN fr p.d r) (au++(zn pis fl listed++ap)):=by
    by_cases hr:(iq pis x).i.reads=true;.exact(bu (iq pis x) (cP.2 ⟨x,by simp[acz,b,Bi,hr,av,bR],rfl⟩)).fact
    have bd:(iq pis x).i.reads=Z:=by simpa using hr
    refine Fact.still (Fact.agree (Dz x b Bi av a6) (λt F=>?_) (λt F=>?_) r6) bd;.refine nh λU=>?_;have h5:=g.uG b IW (R▸U) F;have:=(g.NW x j i b Bi C).1 h5;omega
    refine nh λU=>?_;have:=g.dst x i t b IW F (R▸U);subst this;rw[Bi]at Nh;simp at Nh
   refine Fact.agree bq (λt F=>?_) (λt F=>?_) h4;.refine h3 t λy D a3=>?_;rw[gv]at D;have:=g.mono x y t b Bi D.1 D.2.1 a3 F;omega
   refine h3 t λy D a3=>?_;rw[gv]at D;have:=g.dst x y t b D.1 F a3;subst this;omega
  have h5:=V y f d D U;have a5:=(H.NY f (bn D)).1;have h6:fr'[d]?=fr[d]?:=by
   rw[h3 d λx b aM=>?_];.refine nh λbp=>?_;have:=g.dst f i d a5 IW U (R▸bp);exact am (this▸bn D)
   have:=g.dst f x d a5 (gv.1 b).1 U aM;have h7:=(gv.1 b).2.1;obtain⟨d',T,zs,h8⟩:=(H.NY f (bn D)).2.2;rw[<- this,h8]at h7;simp[I.eV]at h7
  rw[uh]at h5 |-;intro t a2 v;have h7:=h5 t a2 (by rw[h4,r6]at v;exact v);simp only[aa]at a2;subst a2;rw[h6];exact h7
 obtain⟨j,C⟩:=df.1 oT;obtain⟨_,pU,d,T,zs,af⟩:=H.NY i oT;rw[R]at af;have uL:j<X fl:=(ag.1 C).1;have bx:listed.getD i Z=Z:=by cases h:listed.getD i Z with|false=>rfl|true=>exact absurd h Xz
 have ba:(l++(zn pis fl listed++u))[n0+j]?=S .dead:=by rw[bB (by omega),Vy,dD,bc (by simp only[zn,ab];omega)];simp only[zn,bP,C,dA,bx,TA]
 have eb:QP (iq pis i)=.box T zs:=by rw[R,af];rfl
 have M:l++(zn pis fl (listed.setIfInBounds i true)++u)=(l++(zn pis fl listed++u)).set (n0+j) (.box T zs):=by rw[aei H (by omega) C,eb,ej _ _ (by omega),Vy,dD,iu _ _ (by simp only[zn,ab];omega)]
 have b2:p.d=S d:=by rw[af]
 have oX:=V j i d C (by rw[R];exact b2);have b1:Le (l++(zn pis fl listed++u)) ((l++(zn pis fl listed++u)).set (n0+j) (.box T zs)):=by
  intro id o ho;by_cases he:n0+j=id;.subst he;rw[ba]at ho;simp only[aa]at ho;exact .inl ho.symm
  rw[bD he];exact .inr ho
 refine Tw SV af hS hF gB ba ?_;intro O a' w' k2 k3 k4;rw[oX,e]at k3;refine ih k _ fr l u w' O a' (by simpa using W) s ac hk (λy L hL=>?_) (λx b Bi ad Aj=>?_) Vy V G7 a0 (by rw[M];exact k2) (by rw[M];exact k3) (by rw[M];exact Qe.trans k4.Rp);.rw[iD (by omega),N y L hL];have:L≠i:=λe=>pU (e▸bn hL);simp[this]
 rw[M];exact(Dz x b Bi ad λh=>Aj ((iD (by omega)).2 (.inr h))).le b1
def El(pis:List Pi)(fl:ed):List (Nat×Nat×ar):=fl.map λf=>match iq pis f with|⟨S d,_,.alloc T zs⟩=>(d,T,zs)|_=>(0,0,[])
def QO(a:List (Nat×Nat×ar)):List Ob:=a.map λx=>.box x.2.1 x.2.2
def As:Nat->List (Nat×Nat×ar)->ar->ar|_,[],fr=>fr|n,x::r,fr=>As (n+1) r (fr.set x.1 (.ptr n 0))
def zG{t:Nat}:∀{l:List (Nat×Nat×ar)} {n:Nat} {fr:ar},(∀x∈l,x.1≠t)->(As n l fr)[t]?=fr[t]?|[],_,_,_=>rfl|x::l,n,fr,h=>by rw[As,zG λy a=>h y (by simp[a]),bD (h x (by simp))]
def Ff:∀{l:List (Nat×Nat×ar)} {n:Nat} {fr:ar},X (As n l fr)=X fr|[],_,_=>rfl|x::l,n,fr=>by rw[As,Ff];simp
def TT:∀{l:List (Nat×Nat×ar)} {n j:Nat} {fr:ar} {x:Nat×Nat×ar},l.Pairwise (λa b=>a.1≠b.1)->l[j]?=S x->x.1<X fr->(As n l fr)[x.1]?=S (.ptr (n+j) 0)
 |[],_,_,_,_,_,h,_=>by simp at h
 |y::l,n,0,fr,x,hp,h,hl=>by simp only[aG,aa]at h;subst h;rw[cX]at hp;rw[As,zG λz c=>BM (hp.1 z c),aN hl,cg]
 |y::l,n,j+1,fr,x,hp,h,hl=>by rw[cX]at hp;rw[As,TT (j:=j) hp.2 (by simpa using h) (by simpa using hl)];congr 2;omega
def kN.mr{P:bl}{B:Nat}{f w:bF}:∀(b:List Ob) {J:ai} {c:Mem},kN P B f w J c->∃a,kN P B f w (J++Go.Pm.mr b) a/\qZ w J c w (J++Go.Pm.mr b) a
 |[],J,c,h=>⟨c,by simpa[Go.Pm.mr]using h,by simpa[Go.Pm.mr]using qZ.refl w J c⟩
 |_::b,J,c,h=>by
  obtain⟨j,i⟩:=h.w7 (w':=w) .dead undef ⟨rfl,rfl,rfl,aB _,λ_ _ _=>rfl⟩ (by simp[l9,undef]) λ_=>trivial;obtain⟨a,g,d⟩:=kN.mr b j;have e:J++[Ob.dead]++Go.Pm.mr b=J++Go.Pm.mr (.dead::b):=by simp[Go.Pm.mr]
  rw[e]at g d;exact⟨a,g,i.trans d⟩
def okF(pis:List Pi)(bs:ed)(m:Nat)(ls fl:ed)(k1:Nat):Bool :=
 (fl.all λf=>decide (f<m)&&(!ls.contains f&&match iq pis f with|⟨S _,[],.alloc _ _⟩=>G|_=>Z))&&(decide fl.Nodup&&(decide (k1<=X ls)&&(ls.drop k1).all λL=>fl.all λf=>tb bs L f))
def aib(h:okF pis bs m ls fl k1=G):XOF pis bs m ls fl k1:=by
 simp only[okF,aV,dd,bz,dt]at h;obtain⟨l,g,o,j⟩:=h;refine⟨λf a=>?_,g,o,λk L f q p a=>j L ?_ f a⟩
 .obtain⟨n,c,b⟩:=l f a;refine⟨n,by simpa using c,?_⟩;split at b;.rename_i d T zs e;exact⟨d,T,zs,e⟩
  simp at b
 refine bn (i:=k - k1) ?_;rw[dE,<- p];congr 1;omega
def Iu{n B:Nat}{gs:ed}{K:bU}{Q:Exit->Act->bF->Prop}(hp:sU P ops ops.toList=S pis)(gB:okX ops pis bs m ls fl=G)(ad:okF pis bs m ls fl k1=G) (ht:IF (D0 pis m) (pis.drop m) gs=G) {fr:ar} {J:ai} {w0 w:bF} {U:Mem} {a:Act} (h:BX P (QO (El pis fl)) (H8 pis bs m ls 0 (ls.take k1)) (H8 pis bs m ls k1 (ls.drop k1)) ((qv pis bs m ls ls.length).map (iq pis)) (mG P gs (pis.drop m) K) (As J.length (El pis fl) fr) J []) (hS:kN P B w0 w J U) (hF:FR w J U fr a) (hQ:∀c w' o N,K c->kN P B w0 w' c.J o->FR w' c.J o c.fr N->iL n w J U w' c.J o->Q .normal N w'):wpAny P .any ops Q ops.size (Array.replicate ops.size Z) a { w with drawn:=w.drawn+1 }:=by
 have hn:pis.length=ops.size:=by rw[(rI hp).1,aU]
 have H:=Z9 gB hn;have l:=aib ad;have V:QO (El pis fl)=QN pis fl:=by simp only[QO,El,QN,kO];refine eH λf p=>?_;obtain⟨d,T,zs,e⟩:=(l.NY f p).2.2;simp[e,QP]
 rw[V]at h;have Dz:∀(j f d:Nat),fl[j]?=S f->(iq pis f).d=S d->∃x,(El pis fl)[j]?=S x/\x.1=d:=by intro j f d v u;obtain⟨d',T,zs,e⟩:=(l.NY f (bn v)).2.2;rw[e]at u;simp only[aa]at u;exact⟨(d',T,zs),by simp[El,v,e],u⟩
 have af:∀x∈El pis fl,∃f,f∈fl/\(iq pis f).d=S x.1:=by intro x q;simp only[El,cP]at q;obtain⟨f,p,rfl⟩:=q;obtain⟨d,T,zs,e⟩:=(l.NY f p).2.2;exact⟨f,p,by simp[e]⟩
 have YD:(El pis fl).Pairwise (λa b=>a.1≠b.1):=by rw[El,BN];refine l.nd.imp_of_mem ?_;intro f g p hg iV he;obtain⟨d,T,zs,e⟩:=(l.NY f p).2.2;obtain⟨d',T',au,e'⟩:=(l.NY g hg).2.2;simp only[e,e']at he;subst he;exact iV (H.dst f g d (l.NY f p).1 (l.NY g hg).1 (by rw[e]) (by rw[e']))
 obtain⟨am,Q8⟩:=hS.grown (w':={ w with drawn:=w.drawn+1 }) ⟨rfl,rfl,rfl,aB _,λ_ _ _=>rfl⟩;obtain⟨O,F,E⟩:=am.mr (QN pis fl);have e0:J++mr (QN pis fl)=J++(mr (QN pis fl)++[]):=by rw[bE]
 rw[e0]at F E;have hk:=Q8.dX.trans E.dX;have r:=hF.dX hk;obtain⟨fr',h1,h2,h3,h4⟩:=H.ahc l (k:=0) (iP _) (by simpa using h);have C:∀i,¬mU (Array.replicate ops.size Z) i:=by intro i;simp only[mU,cC,CH];split<;>simp
 have M:zn pis fl (Array.replicate ops.size Z)=mr (QN pis fl):=by
  simp only[zn,mr,QN,kO];refine eH λf _=>?_;have:(Array.replicate ops.size Z).getD f Z=Z:=by cases hh:(Array.replicate ops.size Z).getD f Z with|false=>rfl|true=>exact absurd hh (C f)
  simp[this]
 refine IE (n:=n) H l hp (λc w' o N k1 k2 k3 k4=>hQ c w' o N k1 k2 k3 (iL.trans hk.Rp k4)) ht ops.size 0 _ fr' J [] _ O a (by simp) (λi j _ _ s=>absurd s (C i)) (λi _ _=>C i) (iP _) (λj L hL=>⟨λs=>absurd s (C L),λh=>by omega⟩) (λi hi hs ap _=>by rw[M];exact h2 i (gv.2 ⟨hi,hs,by omega⟩)) rfl (λj f d v u=>?_) h1 (by rw[hn];unfold KY;exact cE (jH _ _) (by simp)) (by rw[M];exact F) ?_ (by rw[M];exact iL.refl _ _ _ _)
 .have W:=(l.NY f (bn v)).1;obtain⟨x,q,rfl⟩:=Dz j f d v u;rw[uh];intro t z s;simp only[aa]at z;subst z;rw[h3 x.1 λy D ac=>?_];.exact TT YD q (by rwa [h4,Ff]at s)
  have:=H.dst f y x.1 W (gv.1 D).1 u ac;have h7:=(gv.1 D).2.1;obtain⟨d',T,zs,h8⟩:=(l.NY f (bn v)).2.2;rw[<- this,h8]at h7;simp[I.eV]at h7
 rw[M];refine⟨r.1,by rw[h4,Ff];exact r.2.1,λt x q ch DC=>?_⟩;rcases ou DC with⟨rfl,rD⟩|⟨y,D,u,s,_⟩
 .rw[h3 t λi hi=>rD i (gv.1 hi).1,zG λy D e=>?_]at q;.exact⟨λ_=>r.2.2 t x q,λh=>by simp[chainB]at h⟩
  obtain⟨f,p,R⟩:=af y D;exact rD f (l.NY f p).1 (e▸R)
 exact absurd s (C y)
end
variable(M:bl)(U:Array Oper)(F:List Pi)(E:ed)(C:Nat){R:Array Oper}{N:bl}{D:ed}
inductive bK where
 |skip
 |pF (gs:ed) (is:List Pi)
 |tQ (ds:List (List Pi×Pi×List Pi)) (last:List Pi) (gs:ed) (tail:List Pi)
 |seq (a b:bK)
 |ite (c:O) (a b:bK)
 |block (id:Nat) (c:bK)
 |loop (c:bK)
 |exit (id:Nat)
 |ret
 |both (a b:bK)
 |YI (fls:List (Nat×Nat×ar)) (ds1 ds2:List (List Pi×Pi×List Pi)) (last:List Pi) (gs:ed) (tail:List Pi)
variable{H:bK}
def Cp:ed:=F.filterMap λp=>if p.g.isEmpty then Y else p.d
def akf:Option bK :=
 match sU M U U.toList with|some pis=>if IF [] pis (Cp pis)then S (.pF (Cp pis) pis)else Y|none=>Y
def BE:Option bK :=
 if M.follows .mixedOrders then match sU M U U.toList with
  |some pis =>
   let m:=mX E (X pis);let ls:=(List.range m).filter λi=>!(iq pis i).i.eV
   if okX U pis E m ls []&&IF (D0 pis m) (pis.drop m) (Cp pis)then
    S (.tQ (H8 pis E m ls 0 ls) ((qv pis E m ls (X ls)).map (iq pis)) (Cp pis) (pis.drop m))else Y
  |none=>Y
 else Y
def afp:Op->Bool
 |.alloc _|.box _ _=>G
 |_=>Z
def agN:ed:=(List.range U.size).filter λi=>match U[i]? with|some o=>afp o.op|none=>Z
def VQ:Option bK :=
 match agN U with
 |[i,j]=>if i≠j/\i<U.size/\j<U.size/\M.follows .mixedOrders=G/\((List.range U.size).all λx=>x==i||(x==j||match U[x]? with|some o=>s7 o.op|none=>G))=G then
   match BE M (waitsFor U j i) (Region.before (waitsFor U j i)).toList,BE M (sV (waitsFor U i j) i j) (Region.before (sV (waitsFor U i j) i j)).toList with
   |some a,S b=>S (.both a b)
   |_,_=>Y
  else Y
 |_=>Y
def arF(i:Nat):Bool:=match iq F i with
 |⟨S _,[],.alloc _ _⟩=>(List.range C).any λj=>!(iq F j).i.eV&&(j != i&&(!tb E i j&&!tb E j i))
 |_=>Z
def cFl:Option bK :=
 if M.follows .mixedOrders then match sU M U U.toList with
  |some pis =>
   let m:=mX E (X pis);let fl:=(List.range m).filter (arF pis E m);let ls:=(List.range m).filter λi=>!(iq pis i).i.eV&&!fl.contains i;let k1:=X (ls.filter λL=>!fl.all (tb E L))
   if okX U pis E m ls fl&&(okF pis E m ls fl k1&&IF (D0 pis m) (pis.drop m) (Cp pis))then
    S (.YI (El pis fl) (H8 pis E m ls 0 (ls.take k1)) (H8 pis E m ls k1 (ls.drop k1)) ((qv pis E m ls (X ls)).map (iq pis)) (Cp pis) (pis.drop m))else Y
  |none=>Y
 else Y
def acB:Option bK :=
 match BE M U (Region.before U).toList with
 |some c=>S c
 |none=>match VQ M U with
  |some c=>S c
  |none=>cFl M U (Region.before U).toList
def iC(P:bl):Code->Option bK
 |.skip=>S .skip
 |.region _ ops Z=>akf P ops
 |.region _ ops G=>acB P ops
 |.seq a b=>match iC P a,iC P b with
  |some a,S b=>S (.seq a b)
  |_,_=>Y
 |.cond c a b=>match cO c,iC P a,iC P b with
  |some c,S a,S b=>S (.ite c a b)
  |_,_,_=>Y
 |.block id c=>(iC P c).map (.block id)
 |.loop c=>(iC P c).map .loop
 |.exit id=>S (.exit id)
 |.ret=>S .ret
 |_=>Y
def ln(h:akf N R=S H):∃pis,sU N R R.toList=S pis/\IF [] pis (Cp pis)=G/\H=.pF (Cp pis) pis:=by
 unfold akf at h;split at h;.rename_i pis a;split at h<;>simp only[aa,reduceCtorEq]at h;rename_i b;exact⟨pis,a,b,h.symm⟩
 simp at h
def Ab(h:BE N R D=S H): N.follows .mixedOrders=G/\∃pis m ls,sU N R R.toList=S pis/\okX R pis D m ls []=G/\IF (D0 pis m) (pis.drop m) (Cp pis)=G /\H=.tQ (H8 pis D m ls 0 ls) ((qv pis D m ls (X ls)).map (iq pis)) (Cp pis) (pis.drop m):=by
 unfold BE at h;split at h
 .rename_i c;split at h;.rename_i pis b;dsimp only at h;split at h<;>simp only[aa,reduceCtorEq]at h;rename_i a;rw[aV]at a;exact⟨c,pis,_,_,b,a.1,a.2,h.symm⟩
  simp at h
 simp at h
def HS(h:VQ N R=S H):∃i j a b,i≠j/\i<R.size/\j<R.size/\N.follows .mixedOrders=G /\(∀x o,x≠i->x≠j->R[x]?=S o->s7 o.op=G)/\BE N (waitsFor R j i) (Region.before (waitsFor R j i)).toList=S a /\BE N (sV (waitsFor R i j) i j) (Region.before (sV (waitsFor R i j) i j)).toList=S b/\H=.both a b:=by
 unfold VQ at h;split at h
 .rename_i i j r;split at h
  .rename_i q;obtain⟨k,e,m,g,c⟩:=q;split at h<;>simp only[aa,reduceCtorEq]at h;rename_i a b p f;refine⟨i,j,a,b,k,e,m,g,λx o l n d=>?_,p,f,h.symm⟩;simp only[dd,eD,iG,dM]at c;have:=c x (cB.1 d).1;rw[d]at this;rcases this with h|h|h;.exact absurd h l
   .exact absurd h n
   exact h
  simp at h
 simp at h
def QM(h:cFl N R D=S H): N.follows .mixedOrders=G/\∃pis m ls fl k1,sU N R R.toList=S pis/\okX R pis D m ls fl=G/\okF pis D m ls fl k1=G/\IF (D0 pis m) (pis.drop m) (Cp pis)=G /\H=.YI (El pis fl) (H8 pis D m ls 0 (ls.take k1)) (H8 pis D m ls k1 (ls.drop k1)) ((qv pis D m ls (X ls)).map (iq pis)) (Cp pis) (pis.drop m):=by
 unfold cFl at h;split at h
 .rename_i c;split at h;.rename_i pis b;dsimp only at h;split at h<;>simp only[aa,reduceCtorEq]at h;rename_i a;rw[aV,aV]at a;exact⟨c,pis,_,_,_,_,b,a.1,a.2.1,a.2.2,h.symm⟩
  simp at h
 simp at h
def jY(h:acB N R=S H): (∃p c g d,H=.tQ p c g d/\BE N R (Region.before R).toList=S H)\/(∃a b,H=.both a b/\VQ N R=S H) \/(∃l k n c g d,H=.YI l k n c g d/\cFl N R (Region.before R).toList=S H):=by
 unfold acB at h;split at h;.rename_i o f;simp only[aa]at h;subst h;obtain⟨_,pis,m,ls,_,_,_,e⟩:=Ab f;exact .inl ⟨_,_,_,_,e,f⟩
 split at h;.rename_i o f;simp only[aa]at h;subst h;obtain⟨i,j,a,b,_,_,_,_,_,_,_,e⟩:=HS f;exact .inr (.inl ⟨a,b,e,f⟩)
 obtain⟨_,pis,m,ls,fl,k1,_,_,_,_,e⟩:=QM h;exact .inr (.inr ⟨_,_,_,_,_,_,e,h⟩)
def cD(P:bl)(c:bK)(K:bG)(st:St):Prop:=∀a,iC P a=S c->PW C P a K st
def cD.mono{n:Nat}{K c:bG}{st:St}(h:cD n N H K st)(d:∀e b,K e b->c e b):cD n N H c st :=λa f=>(h a f).mono d
section rules
variable {n:Nat} {P:bl} {K:bG} {st:St}
def cD.skip(h:K .normal st):cD n P .skip K st:=by
 intro a c;cases a;case skip=>exact PW.skip h
 all_goals first|(exfalso;revert c;simp only[iC];try ((repeat' split)<;>simp);done)|(rename_i _ ops b;exfalso;cases b<;>simp only[iC]at c<;>first|(obtain⟨_,_,_,h⟩:=ln c;simp at h;done)|(rcases jY c with⟨_,_,_,_,h,_⟩|⟨_,_,h,_⟩|⟨_,_,_,_,_,_,h,_⟩<;>simp at h;done))
def cD.pF{gs:ed}{d:List Pi}(h:mG P gs d (K .normal) st):cD n P (.pF gs d) K st:=by
 intro b c;cases b;case region id ops draw =>
  cases draw
  .simp only[iC]at c;obtain⟨u,q,o,i⟩:=ln c;simp only[bK.pF.injEq]at i;obtain⟨rfl,rfl⟩:=i;intro B w0 w e a s p;refine wp_region ?_;have:=zH (P:=P) (ops:=ops) (n:=n) (B:=B) (gs:=Cp d) (w0:=w0) (ws:=w) (σs:=st.J) (μs:=e) (K:=K .normal) (Q:=apP P n B w0 w st.J e K)
    (λg t f v m k r l=>⟨g,f,m,k,r,l⟩) ops.toList 0 d [] st.fr st.J w e a (λj=>by simp) q o h s p.toI (iL.refl _ _ _ _);simp only[aP,List.map_id',aU]at this;exact this
  simp only[iC]at c;rcases jY c with⟨_,_,_,_,h,_⟩|⟨_,_,h,_⟩|⟨_,_,_,_,_,_,h,_⟩<;>simp at h
 all_goals first|(exfalso;revert c;simp only[iC];try ((repeat' split)<;>simp);done)
def cD.tQ{j:List (List Pi×Pi×List Pi)}{b:List Pi}{i:ed}{c:List Pi}(h:vX P j b (mG P i c (K .normal)) st):cD n P (.tQ j b i c) K st:=by
 intro e d;cases e;case region id ops draw =>
  cases draw;.simp only[iC]at d;obtain⟨_,_,_,h⟩:=ln d;simp at h
  simp only[iC]at d;rcases jY d with⟨_,_,_,_,_,d⟩|⟨_,_,h,_⟩|⟨_,_,_,_,_,_,h,_⟩;rotate_left;.simp at h
  .simp at h
  obtain⟨v,pis,m,ls,t,r,o,k⟩:=Ab d;simp only[bK.tQ.injEq]at k;obtain⟨rfl,rfl,rfl,rfl⟩:=k;intro B D w y a x s;exact OP (n:=n) v t r o h x s λg z f C q l u p=>⟨g,f,q,l,u,p⟩
 all_goals first|(exfalso;revert d;simp only[iC];try ((repeat' split)<;>simp);done)
def KJ{ops:Array Oper}{bs:ed}{c:bK}(D:BE P ops bs=S c)(h:∃l d k f,c=.tQ l d k f/\vX P l d (mG P k f (K .normal)) st) {B:Nat} {p w:bF} {j:Mem} {a:Act} (C:kN P B p w st.J j) (x:FR w st.J j st.fr a) : wpAny P .any ops (λe o i=>∃b g,K e b/\kN P B p i b.J g/\FR i b.J g b.fr o/\iL n w st.J j i b.J g) ops.size (Array.replicate ops.size Z) a { w with drawn:=w.drawn+1 }:=by obtain⟨E,pis,m,ls,y,v,s,rfl⟩:=Ab D;obtain⟨l,d,k,f,q,h⟩:=h;simp only[bK.tQ.injEq]at q;obtain⟨rfl,rfl,rfl,rfl⟩:=q;exact AE (n:=n) y v s h C x λb i g o u r z t=>⟨b,g,u,r,z,t⟩
def cD.both{x y:bK}(h1:∃k c g d,x=.tQ k c g d/\vX P k c (mG P g d (K .normal)) st)(p:∃k c g d,y=.tQ k c g d/\vX P k c (mG P g d (K .normal)) st): cD n P (.both x y) K st:=by
 intro f e;cases f;case region id ops draw =>
  cases draw;.simp only[iC]at e;obtain⟨_,_,_,h⟩:=ln e;simp at h
  simp only[iC]at e;rcases jY e with⟨_,_,_,_,h,_⟩|⟨a,b,h,e⟩|⟨_,_,_,_,_,_,h,_⟩;.simp at h
  rotate_left;.simp at h
  obtain⟨i,j,E,D,s,t,v,u,r,z,q,o⟩:=HS e;simp only[bK.both.injEq]at o;obtain⟨rfl,rfl⟩:=o;intro B F w C a m l;refine Ll u s t v r ?_ ?_;.have:=KJ (n:=n) z h1 m l;rwa [lY]at this
  have:=KJ (n:=n) q p m l;rwa [E5,lY]at this
 all_goals first|(exfalso;revert e;simp only[iC];try ((repeat' split)<;>simp);done)
def cD.YI{d:List (Nat×Nat×ar)}{g i:List (List Pi×Pi×List Pi)}{b:List Pi}{o:ed}{c:List Pi} (h:BX P (QO d) g i b (mG P o c (K .normal)) (As (X st.J) d st.fr) st.J []):cD n P (.YI d g i b o c) K st:=by
 intro f e;cases f;case region id ops draw =>
  cases draw;.simp only[iC]at e;obtain⟨_,_,_,h⟩:=ln e;simp at h
  simp only[iC]at e;rcases jY e with⟨_,_,_,_,h,_⟩|⟨_,_,h,_⟩|⟨_,_,_,_,_,_,_,e⟩;.simp at h
  .simp at h
  obtain⟨z,pis,m,ls,fl,k1,y,u,j,r,p⟩:=QM e;simp only[bK.YI.injEq]at p;obtain⟨rfl,rfl,rfl,rfl,rfl,rfl⟩:=p;intro B H w D a C v;exact wp_region_any z (Iu (n:=n) y u j r h C v λl E k F t q x s=>⟨l,k,t,q,x,s⟩)
 all_goals first|(exfalso;revert e;simp only[iC];try ((repeat' split)<;>simp);done)
def cD.ret(h:K .ret st):cD n P .ret K st:=by
 intro a c;cases a;case ret=>exact PW.ret h
 all_goals first|(exfalso;revert c;simp only[iC];try ((repeat' split)<;>simp);done)|(rename_i _ ops b;exfalso;cases b<;>simp only[iC]at c<;>first|(obtain⟨_,_,_,h⟩:=ln c;simp at h;done)|(rcases jY c with⟨_,_,_,_,h,_⟩|⟨_,_,h,_⟩|⟨_,_,_,_,_,_,h,_⟩<;>simp at h;done))
def cD.exit{id:Nat}(h:K (.exit id) st):cD n P (.exit id) K st:=by
 intro b a;cases b;case exit id'=>simp only[iC,aa,bK.exit.injEq]at a;subst a;exact PW.exit h
 all_goals first|(exfalso;revert a;simp only[iC];try ((repeat' split)<;>simp);done)|(rename_i _ ops c;exfalso;cases c<;>simp only[iC]at a<;>first|(obtain⟨_,_,_,h⟩:=ln a;simp at h;done)|(rcases jY a with⟨_,_,_,_,h,_⟩|⟨_,_,h,_⟩|⟨_,_,_,_,_,_,h,_⟩<;>simp at h;done))
def ak4(n:Nat)(P:bl)(y:bK)(K:bG):bG|.normal,st=>cD n P y K st|e,st=>K e st
def cD.seq{x y:bK}(h:cD n P x (ak4 n P y K) st):cD n P (.seq x y) K st:=by
 intro b a;cases b;case seq p q =>simp only[iC]at a;split at a<;>simp only[aa,reduceCtorEq,bK.seq.injEq]at a;rename_i j k f g;obtain⟨rfl,rfl⟩:=a;refine PW.seq ((h p f).mono ?_);intro e i d;cases e<;>first|exact d q g|exact d
 all_goals first|(exfalso;revert a;simp only[iC];try ((repeat' split)<;>simp);done)|(rename_i _ ops c;exfalso;cases c<;>simp only[iC]at a<;>first|(obtain⟨_,_,_,h⟩:=ln a;simp at h;done)|(rcases jY a with⟨_,_,_,_,h,_⟩|⟨_,_,h,_⟩|⟨_,_,_,_,_,_,h,_⟩<;>simp at h;done))
def cD.block{id:Nat}{c:bK}(h:cD n P c (CE id K) st):cD n P (.block id c) K st:=by
 intro b a;cases b;case block id' c' =>simp only[iC,aH,bK.block.injEq]at a;obtain⟨f,e,rfl,rfl⟩:=a;exact PW.block (h c' e)
 all_goals first|(exfalso;revert a;simp only[iC];try ((repeat' split)<;>simp);done)|(rename_i _ ops d;exfalso;cases d<;>simp only[iC]at a<;>first|(obtain⟨_,_,_,h⟩:=ln a;simp at h;done)|(rcases jY a with⟨_,_,_,_,h,_⟩|⟨_,_,h,_⟩|⟨_,_,_,_,_,_,h,_⟩<;>simp at h;done))
def cD.loop{c:bK}(I:bU)(m:St->Nat)(h0:I st)(h:∀st,I st->cD n P c (ahg I m (m st) K) st):cD n P (.loop c) K st:=by
 intro b a;cases b;case loop c' =>simp only[iC,aH,bK.loop.injEq]at a;obtain⟨g,f,rfl⟩:=a;exact PW.loop I m h0 λst e=>h st e c' f
 all_goals first|(exfalso;revert a;simp only[iC];try ((repeat' split)<;>simp);done)|(rename_i _ ops d;exfalso;cases d<;>simp only[iC]at a<;>first|(obtain⟨_,_,_,h⟩:=ln a;simp at h;done)|(rcases jY a with⟨_,_,_,_,h,_⟩|⟨_,_,h,_⟩|⟨_,_,_,_,_,_,h,_⟩<;>simp at h;done))
def cD.ite{c:O}{x y:bK}{b:Bool}(r:ev st.fr c=.b b)(o:b=G->cD n P x K st)(u:b=Z->cD n P y K st):cD n P (.ite c x y) K st:=by
 intro e d;cases e;case cond c' p q =>
  simp only[iC]at d;split at d<;>simp only[aa,reduceCtorEq,bK.ite.injEq]at d;rename_i v z C m t s;obtain⟨rfl,rfl,rfl⟩:=d;intro B j w i a l g;have k:=(r▸gx g m).uI;cases b;.exact wp_cond_false k (u rfl q s B j w i a l g)
  exact wp_cond_true k (o rfl p t B j w i a l g)
 all_goals first|(exfalso;revert d;simp only[iC];try ((repeat' split)<;>simp);done)|(rename_i _ ops f;exfalso;cases f<;>simp only[iC]at d<;>first|(obtain⟨_,_,_,h⟩:=ln d;simp at h;done)|(rcases jY d with⟨_,_,_,_,h,_⟩|⟨_,_,h,_⟩|⟨_,_,_,_,_,_,h,_⟩<;>simp at h;done))
end rules
variable(C:ar){M:Mem}{B:Nat}{v:Value}{R D:ai}{N E:ar}{w:bF}{U:bl}{H:eJ}
inductive V.Wf:V->Prop
 |s (l:aL) (h:l.length<=maxLen):Wf (.s l)
 |sl (sz:Nat) (xs:eJ) (h:xs.length<=maxLen) (hr:∀r∈xs,r.length=sz) (hx:∀i j x,gi xs i j=some x->Wf x):Wf (.sl sz xs)
 |agg (xs:ar) (h:∀(i:Nat) (x:V),xs[i]?=some x->Wf x):Wf (.agg xs)
 |b (x):Wf (.b x)
 |i (k n):Wf (.i k n)
 |u:Wf .u
 |nil:Wf .nil
 |lit (sz xs):Wf (.lit sz xs)
 |own (id g):Wf (.own id g)
 |sub (id g lo hi):Wf (.sub id g lo hi)
 |ptr (id off):Wf (.ptr id off)
 |ep (sz xs i off):Wf (.ep sz xs i off)
 |rp (id g i off):Wf (.rp id g i off)
 |mp (id):Wf (.mp id)
 |kL:Wf .kL
 |lI:Wf .lI
 |fn (f caps):Wf (.fn f caps)
 |iS (xs):Wf (.iS xs)
variable{F:V}
def VR.wf(h:VR w R M F v):F.Wf:=by induction h with|u v=>exact .u|b F=>exact .b F|i k n=>exact .i k n|s l F x y=>exact .s l y|nil=>exact .nil|D1 c=>exact .sl c [] (by simp) (by simp) (by simp[gi])|sle c a=>exact .sl c [] (by simp) (by simp) (by simp[gi])|sl c e b o E f j D t B m ih=>exact .sl c e (cE j D) t ih|MX c=>exact .lit c _|lit c e b o f D t B m ih=>exact .lit c e|own id g v p h=>exact .own id g|sub id g H C v p h=>exact .sub id g H C|ptr id d b h y=>exact .ptr id d|ep c e i d b o f C t B m ih=>exact .ep c e i d|rp id g i d v p h=>exact .rp id g i d|mp id r h y=>exact .mp id|kL=>exact .kL|lI=>exact .lI|fn f q z x m ih=>exact .fn f q|agg e z x m ih=>exact .agg e ih|iS e z x m ih=>exact .iS e
def bW(J:ai):Prop:=∀(id T:Nat) (a:ar),J[id]?=S (.box T a)->∀(j:Nat) (x:V),a[j]?=S x->x.Lt (X J)
def kN.closed{a:bF}(f:kN U B w a R M):bW R:=by intro id T i h j x d;obtain⟨b,g,_,_,_,_,c⟩:=f.QQ h;obtain⟨u,_,e⟩:=c j x d;exact e.lt
def Wk(P:bl)(n:Nat)(xs:ar)(J:ai)(b:ar)(J':ai):Prop :=∀(B:Nat) (e w:bF) (c:Mem) (d:Array Value),kN P B e w J c->CR w J c xs d->∃a,kN P B e w J' a/\CR w J' a b d/\iL n w J c w J' a
def Wk.refl(J:ai):Wk U B C J C J:=λ_ _ _ b _ a c=>⟨b,a,c,iL.refl _ _ _ _⟩
def Wk.trans{b:ar}{c:ai}(h:Wk U B N R E D)(k:Wk U B E D b c):Wk U B N R b c:=by intro a f w i g p l;obtain⟨d,m,o,r⟩:=h a f w i g p l;obtain⟨e,n,q,j⟩:=k a f w d g m o;exact⟨e,n,q,r.trans j⟩
def cD.wk{c:bK}{K:bG}(h:Wk U B N R E D)(k:cD B U c K ⟨E,D⟩):cD B U c K ⟨N,R⟩:=by intro d v b m w n a u g;obtain⟨f,p,l,s⟩:=h b m w n a.tmps u ⟨g.2.1.symm,g.2.2⟩;exact wp_mono (k d v b m w f a p ⟨g.1,l.1.symm,l.2⟩) λe y x ⟨i,j,o,r,t,q⟩=>⟨i,j,o,r,t,s.trans q⟩
def PC.wk{b args':ar}{Q:V->ai->Prop}(h:Wk U (X R) b R args' D)(k:PC U B args' D Q):PC U B b R Q:=by intro a j w n i z m;obtain⟨c,p,g,t⟩:=h a j w n i z ⟨m.1.symm,m.2⟩;refine(k a j w c i p ⟨g.1.symm,g.2⟩).mono ?_;rintro e C ⟨r,v,d,f,rfl,o,s,y,q⟩;exact⟨r,v,d,f,rfl,o,s,y,λx u l=>q x u (t x u l l.lt)⟩
inductive Cv:V->V->Prop
 |refl (x):Cv x x
 |forget (x):Cv x .u
 |nil (sz):Cv .nil (.sl sz [])
 |lit (sz xs):Cv (.lit sz xs) (.sl sz xs)
 |agg (xs ys:ar) (hl:ys.length=xs.length) (h:∀(i:Nat) (x y:V),xs[i]?=some x->ys[i]?=some y->Cv x y):Cv (.agg xs) (.agg ys)
 |iS (xs ys:ar) (hl:ys.length=xs.length) (h:∀(i:Nat) (x y:V),xs[i]?=some x->ys[i]?=some y->Cv x y):Cv (.iS xs) (.iS ys)
def Cv.ok{x y:V}(h:Cv x y):∀{v:Value},VR w R M x v->VR w R M y v:=by
 induction h with
 |refl x=>exact λh=>h
 |forget x=>exact λ_=>.u _
 |nil n=>intro v h;rw[h.nF];exact .D1 _
 |lit n a =>
  intro v h;rcases h.tm with⟨rfl,rfl⟩|⟨b,o,f,rfl,p,j⟩;.exact .D1 _
  exact .sl _ _ b o _ f (aB _) p j.1 j.2.1 j.2.2
 |agg a l c q ih =>
  intro v h;obtain⟨k,rfl,m,g⟩:=h.tq;refine .agg l k (by rw[c,m]) λi y d=>?_;have e:i<X a:=by rw[<- c];exact(ag.1 d).1
  exact ih i a[i] y (aA e) d (g i _ (aA e))
 |iS a l c q ih =>
 intro v h;obtain⟨k,rfl,m,g⟩:=h.M3;refine .iS l k (by rw[c,m]) λi y d=>?_;have e:i<X a:=by rw[<- c];exact(ag.1 d).1
 exact ih i a[i] y (aA e) d (g i _ (aA e))
inductive qP:ar->ar->Prop
 |nil:qP [] []
 |cons {x y xs ys} (h:Cv x y) (t:qP xs ys):qP (x::xs) (y::ys)
def qP.at{c a:ar}(h:qP c a):X a=X c/\∀(i:Nat) (x y:V),c[i]?=S x->a[i]?=S y->Cv x y:=by
 induction h with
 |nil=>simp
 |cons h t ih =>refine⟨by simp[ih.1],λi x y d b=>?_⟩;cases i with|zero=>simp only[aG,aa]at d b;subst d;subst b;exact h|succ i=>exact ih.2 i x y (by simpa using d) (by simpa using b)
def qP.refl:qP C C:=by induction C with|nil=>exact .nil|cons x C ih=>exact .cons (.refl x) ih
def Cv.iK(h:qP N E):Cv (.agg N) (.agg E):=.agg N E h.at.1 h.at.2
def Wk.fG{b ys:ar}(h:qP b ys):Wk U B b R ys R:=by
 intro a m w g l j c;obtain⟨e,k⟩:=h.at;refine⟨g,j,⟨by rw[e];exact c.1,λi y d=>?_⟩,iL.refl _ _ _ _⟩;have f:i<X b:=by rw[<- e];exact(ag.1 d).1
 exact(k i b[i] y (aA f) d).ok (c.2 i _ (aA f))
def Wk.share{P:bl}{n:Nat}{xs:ar}{J:ai}{id E sz by' g:Nat}{sh:Bool}{rows:eJ}(a:J[id]?=S (.row E sz by' g sh rows)):Wk P n xs J xs (J.set id (.row E sz by' g G rows)):=by
 intro B R w l N p k;have f:id<J.length:=(ag.1 a).1;have d:=p.update (w':=w) (J':=J.set id (.row E sz by' g G rows)) (μ':=l) id Y (grownBy_refl w Y) (by simp) (by simp) (λj I=>bD (λe=>I e.symm)) (λ_ _=>rfl)
  (λb r=>.inl ⟨_,a,by simp,r⟩)
  (λb C u o c _ q F t=>⟨F,λV m W=>by
   rw[a]at c;simp only[aa]at c;subst c;simp only[aN f,aa]at m;subst m;intro v;exact t ⟨id,_,a,q,λ_=>v rfl⟩⟩)
  (λT O h=>by rw[a]at h;simp at h) (λK E U h=>by rw[a]at h;simp at h)
  (λQ s L M D z _ h=>by
   simp only[aN f,aa,Ob.row.injEq]at h;obtain⟨rfl,rfl,rfl,rfl,rfl,rfl⟩:=h;exact⟨g,sh,rows,a,aB _,λ_=>⟨rfl,rfl⟩⟩)
  (λy o h=>by simp only[aN f,aa]at h;subst h;exact(p.obj id _ a).dX y.dX λ_ _=>rfl);exact⟨l,d.1,⟨k.1,λi x H=>(k.2 i x H).mono d.2⟩,d.2.dX.Rp⟩
def VR.wY{R w:bF}{J:ai}{μ:Mem}(M:kN U B R w J μ){id E c t g:Nat}(z:J[id]?=S (.row E c t g G H))(a d:Nat)(W:a<=d)(Q:d<=X H): VR w J μ (.sl c ((H.drop a).take (d - a))) (nO (μ id) a d c):=by
 obtain⟨_,I,D⟩:=M.rowAt z;have K:X ((H.drop a).take (d - a))=d - a:=by simp;omega
 rcases D with⟨o,T⟩|⟨b,l,P,o,_,hc,zU,_,D⟩
 .subst T;simp only[aj]at Q;have h:a=0:=by omega
  have F:d=0:=by omega
  subst h;subst F;rw[o];exact .D1 c
 rw[o];let f:Nat->Nat->Value:=λi j=>(w.cell? ⟨b,i*c+j,none⟩).getD undef;have y:∀i j x,gi H i j=S x->w.cell? ⟨b,i*c+j,none⟩=S (f i j)/\x.pure=G/\VR w J μ x (f i j):=by
  intro i j x e;obtain⟨k,u,n,h⟩:=D i j x e;have:f i j=u:=by simp[f,n]
  exact⟨by rw[this];exact n,k,by rw[this];exact h⟩
 have C:∀i j x,gi H i j=S x->¬wr J μ b (i*c+j):=by
  rintro i j x e ⟨v,o2,k,n,h⟩;have N:o2≠.dead:=by rintro rfl;exact h
  have:=M.sep id v _ o2 b z k (by simp) N (by simp[o,l9]) n;subst this;rw[z]at k;simp only[aa]at k;subst k;have F:=h rfl;obtain⟨r,m,p⟩:=jV e;have q:i<X H:=(ag.1 m).1;have hj:j<c:=by rw[<- I r (bn m)];exact(ag.1 p).1
  have:(i+1)*c<=X H*c:=bS _ q;rw[du,iQ]at this;omega
 have O:sJ w J μ H c b 0 f:=⟨I,λi j x e=>⟨by rw[aP];exact(y i j x e).1,by rw[aP];exact C i j x e,(y i j x e).2.1⟩,λi j x e=>(y i j x e).2.2⟩;by_cases L:l=a
 .have h:d - a=0:=by omega
  simp only[nO,L,aR,h,jM,gO];exact .sl c [] b 0 0 f (by simp) (by simp) (by simp) (by simp[gi]) (by simp[gi])
 simp only[nO,L,bo,dA,Addr.add_lit];have s:=O.sub a (d - a);have V:=VR.sl (w:=w) (J:=J) (μ:=μ) c _ b _ (l - a) _ (by rw[K];omega) (by omega) s.1 s.2.1 s.2.2;rwa [K]at V
def E6{a:bF}(i:kN U B w a R M){id E e d g:Nat}{k:Bool}(h:R[id]?=S (.row E e d g k H)):nO (M id) 0 (X H) e=M id:=by
 rcases(i.rowAt h).2.2 with⟨c,l⟩|⟨b,j,f,c,_⟩;.subst l;rw[c];rfl
 rw[c];simp[nO,Addr.add_lit]
def Wk.own{J:ai}{k id E sz by' g:Nat}{rows:eJ}(d:J[id]?=S (.row E sz by' g G rows))(j:N[k]?=S (.own id g)):Wk U B N J (N.set k (.sl sz rows)) J:=by
 intro a p w l q f c;have n:k<X N:=(ag.1 j).1;refine⟨l,f,⟨by simp[c.1],λi y b=>?_⟩,iL.refl _ _ _ _⟩;by_cases h:i=k;.subst h;rw[aN n]at b;simp only[aa]at b;subst b;have o:=c.2 i _ j;have m:=o.lP d;rw[m];have:=VR.wY f d 0 (X rows) (by omega) (aB _);rw[E6 f d]at this;simpa using this
 rw[bD (λe=>h e.symm)]at b;exact c.2 i y b
def Wk.sub{k id E j h g d c:Nat}(l:R[id]?=S (.row E j h g G H))(m:N[k]?=S (.sub id g d c)):Wk U B N R (N.set k (.sl j ((H.drop d).take (c - d)))) R:=by
 intro a t w o u n f;have r:k<X N:=(ag.1 m).1;refine⟨o,n,⟨by simp[f.1],λi y b=>?_⟩,iL.refl _ _ _ _⟩;by_cases c:i=k;.subst c;rw[aN r]at b;simp only[aa]at b;subst b;obtain⟨s,p,q⟩:=(f.2 i _ m).tj l;rw[q];exact VR.wY n l d _ s p
 rw[bD (λe=>c e.symm)]at b;exact f.2 i y b
def Wk.jP{P:bl}{n:Nat}{xs:ar}{J:ai}{k E sz by':Nat}(l:Ti P E sz by')(f:xs[k]?=S .nil):Wk P n xs J (xs.set k (.own J.length 0)) (J++[.row E sz by' 0 Z []]):=by
 intro B m w μ o j b;have h:k<xs.length:=(ag.1 f).1;have c:=j.w7 (w':=w) (.row E sz by' 0 Z []) (.slice Y 0 0) (grownBy_refl w Y) (by simp[l9]) (λ_=>⟨l,[],World.ownsRow_nil w B E sz,by simp,by simp[gi]⟩);refine⟨_,c.1,⟨by simp[b.1],λi y a=>?_⟩,c.2.dX.Rp⟩;by_cases d:i=k;.subst d;rw[aN h]at a;simp only[aa]at a;subst a;rw[(b.2 i _ f).nF];have:=VR.qT (w:=w) (J:=J++[.row E sz by' 0 Z []]) (μ:=xX μ J.length (.slice Y 0 0)) (id:=J.length) (E:=E) (sz:=sz) (by':=by') (g:=0) (sh:=Z) (xs:=[]) (by simp);rwa [gy]at this
 rw[bD (λe=>d e.symm)]at a;exact(b.2 i y a).mono c.2
def mH(h:F.pure=G)(m:Nat):F.Lt m:=by
 cases F<;>simp[V.pure]at h;.exact .b _
 .exact .i _ _
 .exact .s _
 exact .sl _ _
def VR.take{μ:Mem}(h:VR w R μ F v){m:Nat}(B:m<=R.length)(c:F.Lt m):VR w (R.take m) μ F v:=by
 have P:∀b e,wr (R.take m) μ b e->wr R μ b e:=by
  rintro b e ⟨id,o,z,W,h3⟩;refine⟨id,o,?_,W,h3⟩;rw[ft]at z;split at z;.exact z
  simp at z
 have C:∀{id:Nat} {o:Ob},id<m->((R.take m)[id]?=some o<->R[id]?=some o):=λh=>by rw[cn h]
 have p:(R.take m).length=m:=by simp;omega
 induction h with
 |u v=>exact .u v
 |b F=>exact .b F
 |i k n=>exact .i k n
 |s l F d B=>exact .s l F d B
 |nil=>exact .nil
 |D1 q=>exact .D1 q
 |sle q a=>exact .sle q a
 |sl q t b o U f p V I x L ih =>exact .sl q t b o U f p V I (λi j F c=>⟨(x i j F c).1,λh=>(x i j F c).2.1 (P _ _ h),(x i j F c).2.2⟩) (λi j F c=>ih i j F c (mH (x i j F c).2.2 m))
 |MX q=>exact .MX q
 |lit q t b o f V I x L ih =>exact .lit q t b o f V I (λi j F c=>⟨(x i j F c).1,λh=>(x i j F c).2.1 (P _ _ h),(x i j F c).2.2⟩) (λi j F c=>ih i j F c (mH (x i j F c).2.2 m))
 |own id g v M h =>
  cases c with
  |own _ _ d=>exact .own id g v (by rw[p];exact d) λE q y H N t J=>h E q y H N t ((C d).1 J)
 |sub id g lo Q v M h =>
  cases c with
  |sub _ _ _ _ d=>exact .sub id g lo Q v (by rw[p];exact d) λE q y H N t J=>h E q y H N t ((C d).1 J)
 |ptr id e b h B =>
  cases c with
  |ptr _ _ d =>obtain⟨T,cs,z⟩:=h;exact .ptr id e b ⟨T,cs,(C d).2 z⟩ B
 |ep q t i e b o f Q I x L ih =>exact .ep q t i e b o f Q I (λj F c=>⟨(x j F c).1,λh=>(x j F c).2.1 (P _ _ h),(x j F c).2.2⟩) (λj F c=>ih j F c (mH (x j F c).2.2 m))
 |rp id g i e v M h =>
  cases c with
  |rp _ _ _ _ d=>exact .rp id g i e v (by rw[p];exact d) λE q y H N t J=>h E q y H N t ((C d).1 J)
 |mp id r h B =>
  cases c with
  |mp _ d =>obtain⟨K,E,es,z⟩:=h;exact .mp id r ⟨K,E,es,(C d).2 z⟩ B
 |kL=>exact .kL
 |lI=>exact .lI
 |fn f O D d L ih =>
  cases c with
  |fn _ _ h=>exact .fn f O D d λi F c=>ih i F c (h i F c)
 |agg t D d L ih =>
  cases c with
  |agg _ h=>exact .agg t D d λi F c=>ih i F c (h i F c)
 |iS t D d L ih =>cases c with|iS _ h=>exact .iS t D d λi F c=>ih i F c (h i F c)
def yl(h:F.sj=G)(m:Nat):F.Lt m:=by
 cases F<;>simp[V.sj]at h;.exact .b _
 .exact .i _ _
 .exact .s _
 rename_i c;refine .agg _ λi F a=>?_;have:=h F (bn a);cases F<;>simp[V.alb]at this;.exact .b _
 .exact .i _ _
 exact .s _
def yj(h:F.Ea=G)(m:Nat):F.Lt m:=by
 by_cases a:∃b,F=.agg b;.obtain⟨b,rfl⟩:=a;simp only[V.Ea,dd]at h;exact .agg _ λi F c=>mH (h F (bn c)) m
 refine mH ?_ m;cases F<;>first|exact h|exact absurd ⟨_,rfl⟩ a
def Wk.drop{P:bl}{n m:Nat}{xs:ar}{J:ai}(L:n<=m)(q:m<=X J)(hx:∀(i:Nat) (x:V),xs[i]?=S x->x.Lt m)(bd:∀(id T:Nat) (D:ar),id<m->J[id]?=S (.box T D)->∀(j:Nat) (x:V),D[j]?=S x->x.Lt m):Wk P n xs J xs (J.take m):=by
 intro B w0 w μ vs F R;have H:∀{id:Nat} {o:Ob},(J.take m)[id]?=S o->id<m/\J[id]?=S o:=by
  intro id o h;rw[ft]at h;split at h;.exact⟨by assumption,h⟩
  simp at h
 refine⟨μ,⟨F.below,F.base,λid o W=>?_,λi j U oj b I l f d c a=>F.sep i j U oj b (H I).2 (H l).2 f d c a⟩,⟨R.1,λi x t=>(R.2 i x t).take q (hx i x t)⟩,λx v hv hl=>hv.take q (hl.mono L)⟩;obtain⟨M,C⟩:=H W;have O:=F.obj id o C;cases o with
 |dead=>trivial
 |box T D =>obtain⟨b,us,f,d,c,a,p⟩:=O;exact⟨b,us,f,d,c,a,λj x l=>let ⟨u,s,N⟩:=p j x l;⟨u,s,N.take q (bd id T D M C j x l)⟩⟩
 |row E sz ac g sh Q =>obtain⟨f,y,d,c⟩:=O;exact⟨f,y,d,c.1,λi j x l=>let ⟨a,u,p,s⟩:=c.2 i j x l;⟨a,u,p,s.take q (mH a m)⟩⟩
 |map K E es =>obtain⟨r,z,clock,f,d,c,a⟩:=O;exact⟨r,z,clock,f,d,c,a.1,λi k x I=>let ⟨p,s,e,N,h8,h9⟩:=a.2.1 i k x I;⟨p,s,e,N,h8.take q (yl p m),h9.take q (yj s m)⟩,a.2.2⟩
def Wk.lA{P:bl}{n:Nat}{xs:ar}{J loc:ai}(e:n<=X J)(b:bW J)(f:∀(i:Nat) (x:V),xs[i]?=S x->x.Lt (X J)):Wk P n xs (J++loc) xs J:=by have:=Wk.drop (P:=P) (n:=n) (m:=X J) (xs:=xs) (J:=J++loc) e (by simp) f (λid T d a h j x c=>b id T d (by rwa [bc a]at h) j x c);simpa using this

/- A part of a proof; the claim's last text says of what. -/
import Derived.Orders
import Derived.Test.YtfeddmfijllgmaaGreatDoorB5
set_option linter.all false
open Option renaming some->S,none->Z
open Bool renaming true->θ,false->G
open List renaming length->Y

namespace Go.Pm
open Go Go.RowKit
variable(f:Nat)(X:bG)(x:Nat){U:Mem}{t:Nat}{o:Oper}
structure Pi where
 d:dE
 g:gd
 i:I
def zm:Pi:=⟨S f,[],.nL (.t x)⟩
def zl:Pi:=⟨S f,[],.load Z (.t x)⟩
def zL(a:Nat):Pi:=⟨S f,[],.load (S x) (.t a)⟩
def zf(a:Nat):Pi:=⟨S f,[],.tU x (.t a)⟩
def z(d:Nat)(i:I):Pi:=⟨S d,[],i⟩
def zs(i:I):Pi:=⟨Z,[],i⟩
def Ez(ops:Array Oper):Nat->Option (Nat×Bool)->Option (gd)
 |_,Z=>S []
 |0,S _=>Z
 |f+1,S (j,b)=>match ops[j]? with
  |some o=>match o.dst,Ez ops f o.guard with
   |some t,S a=>S (a++[(t,b)])
   |_,_=>Z
  |none=>Z
def cPi(ops:Array Oper)(o:Oper):Option Pi :=
 match Ez ops 8 o.guard with|some g=>S ⟨o.dst,g,(compile X o).getD .stop⟩|none=>Z
def wu(P:bG)(ops:Array Oper):List Oper->Option (List Pi)
 |[]=>S []
 |o::os=>match cPi P ops o,wu P ops os with
  |some p,S a=>S (p::a)
  |_,_=>Z
def iM(fr:aB):dE->V->aB|none,_=>fr|some n,v=>fr.set n v
def Ju(f:Nat):Bool:=match X.funcs[f]? with|some a=>a.body.isSome&&a.name != "runtime.NumGoroutine"|none=>G
def oU(p:Pi)(K:ck)(a:St):Prop :=
 match p.i with
 |.call f args=>PC X f (args.map (ev a.fr)) a.J (λr J'=>K ⟨iM a.fr p.d r,J'⟩)
 |.wY x args=>match ev a.fr x with
  |.fn f caps=>Ju X f=θ/\PC X f (args.map (ev a.fr)++caps) a.J (λr J'=>K ⟨iM a.fr p.d r,J'⟩)
  |_=>False
 |i=>match ct a.fr a.J i with
  |some (b,v)=>b/\K ⟨iM a.fr p.d v,a.J⟩
  |none=>match eZ a.fr a.J i with
   |some (b,v,J')=>b/\K ⟨iM a.fr p.d v,J'⟩
   |none=>False
theorem FR.put{w:bQ}{J:aj}{fr:aB}{a:Act}(h:FR w J U fr a)(d:dE){x:V}{v:Value}(g:VR w J U x v):FR w J U (iM fr d x) (a.put d v):=by
 cases d with
 |none=>exact h
 |some n =>
 obtain⟨e,f,j⟩:=h;refine⟨e,by simp[Act.put,iM,f],λi y b=>?_⟩;simp only[iM]at b;simp only[Act.put];by_cases c:n=i
 .subst c;by_cases k:n<Y fr
  .rw[aT k]at b;simp only[ab]at b;subst b;have:n<a.tmps.size:=by omega
   simpa[this]using g
  rw[cH (by simp;omega)]at b;simp at b
 rw[bN c]at b;have:=j i y b;simp only[cZ,gP c]at this |-;exact this
theorem VY{P:bG}{a:Act}{w:bQ}{args:Array Operand}{c:Array TypeId}{b:Func}(d:o.op=.call { callee:=.value (.func t),args,argTypes:=c })(f:P.funcs[t]?=S b)(i:b.body.isSome=θ)(g:b.name ≠ "runtime.NumGoroutine") : (execOp a.eval o).run P w=.ok (.enter t (args.map a.eval)) w:=by
 have e:(b.name == "runtime.NumGoroutine")=G:=by simpa using g
 have h:b.body.isNone=G:=by cases j:b.body<;>simp_all
 simp only[execOp,d,resolve,Act.eval,Deferred.ofValue,invoke,callFunc,Sem.run_bind,Sem.run_pure,Result.andThen_ok,run_program,f,e,h,aP,bw,Array.empty_append,Wg]
theorem TC{P:bG}{a:Act}{w:bQ}{f:Nat}{args:Array Operand}{h:Array TypeId}{c:Array Value}(i:o.op=.call { callee:=.value (.tmp t),args,argTypes:=h })(k:a.tmps.getD t undef=.func (.func f) #[] c)(b:Ju P f=θ): (execOp a.eval o).run P w=.ok (.enter f (args.map a.eval++c)) w:=by
 unfold Ju at b;split at b
 .rename_i d e;simp only[aZ,V8,gA]at b;have j:(d.name == "runtime.NumGoroutine")=G:=by simpa using b.2
  have l:d.body.isNone=G:=by cases m:d.body<;>simp_all
  have g:a.eval (.tmp t)=.func (.func f) #[] c:=k;simp only[execOp,i,resolve,g,Deferred.ofValue,invoke,callFunc,Sem.run_bind,Sem.run_pure,Result.andThen_ok,run_program,e,j,l,aP,bw,Array.empty_append]
 simp at b
theorem Rf{P:bG}{p:Pi}{K:ck}{C:St}{V w:bQ}{a:Act}(g:compile P o=S p.i)(O:o.dst=p.d)(h:oU P p K C)(N:l8 P t V w C.J U)(s:FR w C.J U C.fr a){Q:Exit->Act->bQ->Prop}: o.wp P a w (λa' E=>∃m k,K m/\l8 P t V E m.J k/\FR E m.J k m.fr a'/\uS w C.J U E m.J k/\(∃v,a'=a.put o.dst v)/\∃r,m.fr=iM C.fr p.d r) Q:=by
 unfold oU at h;split at h;.
  rename_i f R hi;rw[hi]at g;cases z:o.op with
  |call c =>
   simp only[compile,z]at g;obtain⟨callee,j,argTypes⟩:=c;unfold ri at g;dsimp only at g;split at g;.split at g<;>simp at g
   .split at g<;>simp at g
   .split at g<;>simp at g
   .split at g<;>(try simp at g;done);split at g<;>(try simp at g;done);split at g<;>(try simp at g;done);split at g;.split at g<;>simp at g
    split at g<;>(try simp at g;done)
   . (repeat' split at g)<;>(simp at g;done)
   .rename_i f' e1;split at g<;>(try simp only[reduceCtorEq]at g);rename_i fn Ka;split at g<;>(try simp only[reduceCtorEq]at g);rename_i ny;simp only[aL,I.call.injEq]at g;obtain⟨ys,HR,rfl,rfl⟩:=g;have gQ:=VY (P:=P) (a:=a) (w:=w) z Ka ny.1 ny.2;unfold Oper.wp;rw[gQ];simp only[Oper.upon];obtain⟨L,h2⟩:=QA s _ _ HR;refine(h t V w U (j.map a.eval) N ⟨by simp[L],λi y H=>?_⟩).mono ?_;.have:=h2 i y H;simpa[aA]using this
    rintro e E ⟨r,v,J',k,rfl,A,l,n,M⟩;refine⟨_,k,A,l,?_,M,⟨_,rfl⟩,_,rfl⟩;rw[O];exact(s.eY M).put p.d n
   .simp at g
   simp at g
  |buildSlice T len parts =>exfalso;simp only[compile,z]at g;(repeat' split at g)<;>(try (simp only[reduceCtorEq]at g;done));simp only[aL]at g;obtain⟨xs,_,q⟩:=g;split at q<;>simp at q
  |_ =>exfalso;simp only[compile,z]at g;(repeat' split at g)<;>first|(simp at g;done)|(simp_all;done)
 .
  rename_i x R hi;split at h;rotate_left;.exact h.elim
  rename_i f ac q;obtain⟨iu,h⟩:=h;rw[hi]at g;cases z:o.op with
  |call c =>
   simp only[compile,z]at g;obtain⟨callee,j,argTypes⟩:=c;unfold ri at g;dsimp only at g;split at g;.split at g<;>simp at g
   .split at g<;>simp at g
   .split at g<;>simp at g
   .split at g<;>(try simp at g;done);split at g<;>(try simp at g;done);split at g<;>(try simp at g;done);split at g;.split at g<;>simp at g
    split at g<;>(try simp at g;done)
   . (repeat' split at g)<;>(simp at g;done)
   .split at g<;>(try simp only[reduceCtorEq]at g);split at g<;>simp at g
   .rename_i b;simp only[aL,I.wY.injEq]at g;obtain⟨ys,HR,rfl,rfl⟩:=g;have n:=s.at b;simp only[ev]at q;rw[q]at n;generalize X:a.tmps.getD b undef=u at n;cases n with
    |fn _ _ vs hl GA =>
    have gQ:=TC (P:=P) (a:=a) (w:=w) z X iu;unfold Oper.wp;rw[gQ];simp only[Oper.upon];obtain⟨L,h2⟩:=QA s _ _ HR;refine(h t V w U (j.map a.eval++vs) N ⟨by simp[L,hl],λi y H=>?_⟩).mono ?_
    .rcases jP i (ys.map (ev C.fr)).length with eW|Vs
     .rw[bg eW]at H;have W:=h2 i y H;have F:i<j.size:=by simpa[L]using eW
      simpa[cZ,ma,F,aA]using W
     rw[bn Vs]at H;have W:=GA _ y H;have F:j.size<=i:=by simpa[L]using Vs
     simpa[cZ,Array.getElem?_append_right,F,L]using W
    rintro e E ⟨r,v,J',k,rfl,A,l,n,M⟩;refine⟨_,k,A,l,?_,M,⟨_,rfl⟩,_,rfl⟩;rw[O];exact(s.eY M).put p.d n
   simp at g
  |buildSlice T len parts =>exfalso;simp only[compile,z]at g;(repeat' split at g)<;>(try (simp only[reduceCtorEq]at g;done));simp only[aL]at g;obtain⟨xs,_,q⟩:=g;split at q<;>simp at q
  |_ =>exfalso;simp only[compile,z]at g;(repeat' split at g)<;>first|(simp at g;done)|(simp_all;done)
 rename_i i jw ad;split at h;.rename_i ob v hp;obtain⟨iD,A⟩:=h;obtain⟨u,E,B,X,n⟩:=Sd g s N hp iD;obtain⟨l,D⟩:=N.grown X;unfold Oper.wp;rw[B];simp only[Oper.upon];exact⟨_,U,A,l,by rw[O];exact(s.eY D.eY).put p.d n,D.eY,⟨_,rfl⟩,_,rfl⟩
 split at h
 .rename_i ob v J' q;obtain⟨iD,A⟩:=h;obtain⟨u,E,k,B,l,n,D⟩:=QL g s N q iD;unfold Oper.wp;rcases B with B|⟨B,rfl⟩;.rw[B];simp only[Oper.upon];exact⟨_,k,A,l,by rw[O];exact(s.eY D.eY).put p.d n,D.eY,⟨_,rfl⟩,_,rfl⟩
  rw[B];simp only[Oper.upon];exact⟨_,k,A,l,by rw[O];exact(s.eY D.eY).put p.d (.u _),D.eY,⟨_,rfl⟩,_,rfl⟩
 exact h.elim
def I.os:I->List O|.nL x=>[x]|.pick c a b=>[c,a,b]|.box _ x=>[x]|.alloc _ _=>[]|.build _ parts=>parts.map (·.2.2)|.gM _ _ xs=>xs|.VZ _ _ _ _ xs=>xs|.load _ a=>[a]|.store _ _ a x=>[a,x]|.Cn x=>[x]|.bin _ x y=>[x,y]|.beq _ _ x y=>[x,y]|.bbq _ x y=>[x,y]|.un _ x=>[x]|.cvi _ x=>[x]|.b2s x=>[x]|.slice _ x lo hi=>x::(lo.toList++hi.toList)|.yr x lo hi=>x::(lo.toList++hi.toList)|.tU _ x=>[x]|.idx _ x i=>[x,i]|.Rj x i=>[x,i]|.TO _ _ x i=>[x,i]|.asl _ x=>[x]|.ext _ x=>[x]|.len _ x=>[x]|.max2 x y=>[x,y]|.min2 x y=>[x,y]|.app _ _ _ x y=>[x,y]|.apps _ x y=>[x,y]|.mk _ _ _ _ l c=>[l,c]|.JI _ _=>[]|.look _ _ _ m k=>[m,k]|.UZ _ _ m k x=>[m,k,x]|.LD x=>[x]|.call _ args=>args|.wY x args=>x::args|.clo _ xs=>xs|.Ty _ _ x=>[x]|.stop=>[]
def O.slot:O->fb|.t n=>[n]|.c _=>[]
def I.ur:I->List (Nat×gd)|.pick (.t c) a b=>(c,[])::(a.slot.map (·,[(c,θ)])++b.slot.map (·,[(c,G)]))|i=>(i.os.flatMap O.slot).map (·,[])
def I.fD:I->Bool
 |.box _ _|.alloc _ _|.store _ _ _ _|.app _ _ _ _ _|.apps _ _ _|.mk _ _ _ _ _ _|.VZ _ _ _ _ _|.JI _ _|.UZ _ _ _ _ _|.Ty _ _ _|.call _ _|.wY _ _|.stop=>G
 |_=>θ
def I.reads:I->Bool
 |.build _ _|.gM _ _ _|.load _ _|.Cn _|.b2s _|.slice _ _ _ _|.tU _ _|.idx _ _ _|.len _ _|.LD _|.look _ _ _ _ _=>θ
 |_=>G
section
variable {fr fr':aB} {J:aj}
theorem Gn{i:I}(h:∀x∈i.os,ev fr x=ev fr' x):ct fr J i=ct fr' J i:=by
 cases i with
 |build zs parts =>
  have e:∀p∈parts,ev fr p.2.2=ev fr' p.2.2:=λp d=>h _ (cv.2 ⟨p,d,rfl⟩);have r:(parts.map λ(f,m,x)=>(f,m,jC (ev fr x)))=parts.map λ(f,m,x)=>(f,m,jC (ev fr' x)) :=
   dA λp d=>by have u:=e p d;obtain⟨a,b,c⟩:=p;simp only at u |-;rw[u]
  have q:(∀p∈parts,lf J (ev fr p.2.2)=θ)=(∀p∈parts,lf J (ev fr' p.2.2)=θ) :=propext ⟨λk p d=>e p d▸k p d,λk p d=>(e p d).symm▸k p d⟩;simp only[ct,r,q]
 |gM m j n =>
  have e:∀p∈n,ev fr p=ev fr' p:=λp d=>h _ d;have r:(n.map λx=>fu j (jC (ev fr x)))=n.map λx=>fu j (jC (ev fr' x)) :=
   dA λp d=>by rw[e p d]
  have q:(∀p∈n,lf J (ev fr p)=θ)=(∀p∈n,lf J (ev fr' p)=θ) :=propext ⟨λk p d=>e p d▸k p d,λk p d=>(e p d).symm▸k p d⟩;simp only[ct,r,q]
 |slice m x o l =>have s:=h x (by simp[I.os]);have w:∀y,o=S y->ev fr y=ev fr' y:=λy g=>h y (by simp[I.os,g]);have v:∀y,l=S y->ev fr y=ev fr' y:=λy g=>h y (by simp[I.os,g]);cases o<;>cases l<;>simp_all [ct]
 |yr x o l =>have s:=h x (by simp[I.os]);have w:∀y,o=S y->ev fr y=ev fr' y:=λy g=>h y (by simp[I.os,g]);have v:∀y,l=S y->ev fr y=ev fr' y:=λy g=>h y (by simp[I.os,g]);cases o<;>cases l<;>simp_all [ct]
 |len t x =>have s:=h x (by simp[I.os]);cases t<;>simp only[ct,s]
 |_=>simp_all [ct,I.os]
theorem QM{i:I}(h:∀x∈i.os,ev fr x=ev fr' x):eZ fr J i=eZ fr' J i:=by cases i<;>simp_all [eZ,I.os]
theorem Sc{J':aj}{i:I}(h:i.reads=G):ct fr J i=ct fr J' i:=by cases i<;>simp_all [ct,I.reads]
theorem DY{i:I}{r:Prop×V}(h:ct fr J i=S r):i.fD=θ:=by cases i<;>simp_all [ct,I.fD]
theorem Dl{i:I}(h:i.fD=θ):eZ fr J i=Z:=by cases i<;>simp_all [eZ,I.fD]
end
variable(A:List Pi)(w:fb)(M:Pi)(n:Nat)(D:List (Nat×gd))(T:Nat->Option (gd))(x:aB){a:Act}{y:Act->bQ->Prop}{H:Array Oper}{F:Mem}{B:Nat}{U:Nat->Option (gd)}{R:Pi}{l:Value}{X f:aB}{N:aj}{E:bG}{v:bQ}{C:ck}{r:dE}
def chainB(fr:aB):gd->Option Bool
 |[]=>S θ
 |(t,b)::r=>match fr.getD t .u with
  |.b x=>match chainB fr r with
   |some y=>S ((x==b)&&y)
   |none=>Z
  |_=>Z
theorem G0{fr:aB}:∀{ch:gd},chainB fr ch=S θ<->∀p∈ch,fr.getD p.1 .u=.b p.2
 |[]=>by simp[chainB]
 |(t,b)::r=>by
  have ih:=G0 (fr:=fr) (ch:=r);simp only[chainB,bd,HE];rw[<- ih];split
  .rename_i x a;split;.rename_i y c;rw[a,c];cases x<;>cases b<;>cases y<;>simp
   rename_i c;simp[c]
  rename_i a;simp only[reduceCtorEq,false_iff,not_and];intro h;exact absurd h (a b)
theorem L7{a b:gd}(h:chainB X b=S θ)(d:a.isPrefixOf b=θ):chainB X a=S θ:=by rw[G0]at *;exact λp c=>h p ((List.isPrefixOf_iff_prefix.1 d).subset c)
theorem xj{fr:aB}:∀{a b:gd},chainB fr (a++b)=match chainB fr a,chainB fr b with
  |some x,S y=>S (x&&y)
  |_,_=>Z
 |[],b=>by simp only[ay,chainB];cases chainB fr b<;>simp
 |(t,w)::r,b=>by simp only[aF,chainB,xj (a:=r) (b:=b)];cases fr.getD t .u<;>simp;cases chainB fr r<;>cases chainB fr b<;>simp[Bool.and_assoc]
theorem adW{m:Nat}{x y:V}(h:B≠m):(X.set B x).getD m y=X.getD m y:=by simp[aA,bN h]
theorem A1{fr:aB}{d:dE}{r:V}:∀{ch:gd},(∀p∈ch,d≠S p.1)->chainB (iM fr d r) ch=chainB fr ch
 |[],_=>by simp[chainB]
 |(t,b)::ch,h=>by have ih:=A1 (fr:=fr) (d:=d) (r:=r) (ch:=ch) λp c=>h p (by simp[c]);have a:=h (t,b) (by simp);simp only[chainB,ih];cases d with|none=>rfl|some n =>have:n≠t:=λe=>a (by simp[e]);simp only[iM,adW this]
def GL(P:bG)(p:Pi)(c:Bool)(K:ck)(b:St):Prop :=
 match p.i with
 |.call f args=>(c=θ->PC P f (args.map (ev b.fr)) b.J (λg J'=>K ⟨iM b.fr p.d g,J'⟩))/\(c=G->∃r,K ⟨iM b.fr p.d r,b.J⟩)
 |.wY x args=>(c=θ->match ev b.fr x with
  |.fn f caps=>Ju P f=θ/\PC P f (args.map (ev b.fr)++caps) b.J (λg J'=>K ⟨iM b.fr p.d g,J'⟩)
  |_=>False)/\(c=G->∃r,K ⟨iM b.fr p.d r,b.J⟩)
 |.load k a=>match ev b.fr a with
  |.ptr _ _=>match ct b.fr b.J (.load k a)with
   |some (e,v)=>(c=θ->e)/\K ⟨iM b.fr p.d v,b.J⟩
   |none=>False
  |_=>∃v,(c=θ->∃e,ct b.fr b.J (.load k a)=S (e,v)/\e)/\K ⟨iM b.fr p.d v,b.J⟩
 |i=>match ct b.fr b.J i with
  |some (e,v)=>(c=θ->e)/\K ⟨iM b.fr p.d v,b.J⟩
  |none=>False
def gI(P:bG)(p:Pi)(K:ck)(a:St):Prop :=
 match p.g with
 |[]=>oU P p K a
 |_::_=>match chainB a.fr p.g with
  |some c=>GL P p c K a
  |none=>False
theorem Kg{c:Bool}{e:St}(h:GL E R c C e)(u:∀f b,R.i≠.call f b)(p:∀x b,R.i≠.wY x b): ∃r,C ⟨iM e.fr R.d r,e.J⟩/\(c=θ->oU E R (λm=>m=⟨iM e.fr R.d r,e.J⟩) e):=by
 obtain⟨d,g,i⟩:=R;cases i with
 |call f b=>exact absurd rfl (u f b)
 |load k a =>
  simp only[GL]at h;split at h
  .split at h;.rename_i n v l;exact⟨v,h.2,λj=>by simp only[oU,l];exact⟨h.1 j,trivial⟩⟩
   exact h.elim
  obtain⟨v,o,q⟩:=h;refine⟨v,q,λj=>?_⟩;obtain⟨n,s,t⟩:=o j;simp only[oU,s];exact⟨t,trivial⟩
 |wY x b=>exact absurd rfl (p x b)
 |_ =>
 simp only[GL]at h;split at h;.rename_i n v l;exact⟨v,h.2,λj=>by simp only[oU,l];exact⟨h.1 j,trivial⟩⟩
 exact h.elim
theorem HY{x:O}(h:∀s∈x.slot,X.getD s .u=f.getD s .u):ev X x=ev f x:=by cases x with|t n=>exact h n (by simp[O.slot])|c v=>rfl
theorem abb{J:aj}(h:∀x∈R.i.os,ev X x=ev f x)(c:oU E R C ⟨X,J⟩): oU E R (λk=>∃r,k.fr=iM f R.d r/\C ⟨iM X R.d r,k.J⟩) ⟨f,J⟩:=by
 obtain⟨d,g,i⟩:=R;by_cases t:∃a b,i=.call a b;.obtain⟨a,b,rfl⟩:=t;have e:b.map (ev X)=b.map (ev f):=dA λx u=>h x u;simp only[oU]at c |-;rw[<- e];exact c.mono λr J' n=>⟨r,rfl,n⟩
 by_cases q:∃x b,i=.wY x b
 .obtain⟨x,b,rfl⟩:=q;have e:b.map (ev X)=b.map (ev f):=dA λy w=>h y (by simp[I.os,w]);have l:=h x (by simp[I.os]);simp only[oU]at c |-;rw[<- e,<- l];split at c;.exact⟨c.1,c.2.mono λr J' n=>⟨r,rfl,n⟩⟩
  exact c.elim
 have s:=Gn (J:=J) h;have l:=QM (J:=J) h;have p:∀(j:aB) (m:ck),oU E ⟨d,g,i⟩ m ⟨j,J⟩=match ct j J i with
   |some (o,v)=>o/\m ⟨iM j d v,J⟩
   |none=>match eZ j J i with
    |some (o,v,J')=>o/\m ⟨iM j d v,J'⟩
    |none=>False:=by intro j m;cases i<;>first|rfl|(exfalso;exact t ⟨_,_,rfl⟩)|(exfalso;exact q ⟨_,_,rfl⟩)
 simp only at s l;rw[p]at c |-;rw[<- s,<- l];split at c;.exact⟨c.1,_,rfl,c.2⟩
 split at c;.exact⟨c.1,_,rfl,c.2⟩
 exact c.elim
theorem Rg{p:Pi}{fr fr':aB}(h:∀s∈p.i.ur,chainB fr s.2=S θ->fr.getD s.1 .u=fr'.getD s.1 .u)(l:oU E p C ⟨fr,N⟩): oU E p (λm=>∃r,m.fr=iM fr' p.d r/\C ⟨iM fr p.d r,m.J⟩) ⟨fr',N⟩:=by
 by_cases w:∃c a b,p.i=.pick (.t c) a b
 .obtain⟨c,x,y,n⟩:=w;obtain⟨d,g,i⟩:=p;simp only at n;subst n;have A:fr.getD c .u=fr'.getD c .u:=h (c,[]) (by simp[I.ur]) (by simp[chainB]);have o:fr.getD c .u=.b θ->ev fr x=ev fr' x:=λk=>HY λs f=>h (s,[(c,θ)]) (by simp[I.ur,f]) (by simp only[chainB,k];rfl);have z:fr.getD c .u=.b G->ev fr y=ev fr' y:=λk=>HY λs f=>h (s,[(c,G)]) (by simp[I.ur,f]) (by simp only[chainB,k];rfl);simp only[oU,ct,ev]at l |-;rw[<- A];split at l
  .rename_i B v j;split at j
   .rename_i b k;simp only[ab,bm]at j;obtain⟨rfl,rfl⟩:=j;refine⟨trivial,_,rfl,?_⟩;have e:(match ev fr x,ev fr y with
      |.b p,.b q=>V.b (bif b then p else q)
      |p,q=>bif b then p else q)=(match ev fr' x,ev fr' y with
      |.b p,.b q=>V.b (bif b then p else q)
      |p,q=>bif b then p else q):=by
     have gen:∀p q:V,(match p,q with|.b p,.b q=>V.b (bif b then p else q)|p,q=>bif b then p else q)=bif b then p else q:=by intro p q;cases b<;>cases p<;>cases q<;>rfl
     rw[gen,gen];cases b;.simp only[V7];exact z k
     simp only[cond_true];exact o k
    exact Eq.mp (congrArg (λv=>C ⟨iM fr d v,N⟩) e) l.2
   simp at j
  rename_i j;split at j;.simp at j
  simp only[eZ]at l
 refine abb (λx o=>HY λs f=>h (s,[]) ?_ (by simp[chainB])) l;have:p.i.ur=(p.i.os.flatMap O.slot).map (·,[]):=by
  unfold I.ur;split;.rename_i c a b n;exact absurd ⟨c,a,b,n⟩ w
  rfl
 rw[this];exact cv.2 ⟨s,qa.2 ⟨x,o,f⟩,rfl⟩
def Mb(w:bQ)(J:aj)(d:Mem)(fr:aB)(b:Nat->Option (gd))(a:Act):Prop :=a.defers=[]/\a.tmps.size=Y fr/\∀t x,fr[t]?=S x->∀c,b t=S c ->(chainB fr c=S θ->VR w J d x (a.tmps.getD t undef))/\(chainB fr c=S G->a.tmps.getD t undef=undef)
def mkF:aB:=x.mapIdx λt a=>match T t with|some b=>if chainB x b=S θ then a else .u|none=>.u
theorem Mb.mask(h:Mb v N F X U a):FR v N F (mkF U X) a:=by
 refine⟨h.1,by simp[mkF,h.2.1],λt x b=>?_⟩;simp only[mkF,List.getElem?_mapIdx,aL]at b;obtain⟨y,f,rfl⟩:=b;split
 .rename_i d c;split;.rename_i e;exact(h.2.2 t y f d c).1 e
  exact .u _
 exact .u _
theorem akb{a:gd}(b:U B=S a)(c:chainB X a=S θ):(mkF U X).getD B .u=X.getD B .u:=by simp only[mkF,aA,List.getElem?_mapIdx,b,c,aU];cases X[B]?<;>rfl
structure TR (inf:Nat->Option (gd)) (p:Pi):Prop where
 ur:∀s∈p.i.ur,∃ch,inf s.1=some ch/\ch.isPrefixOf (p.g++s.2)=true
 guard:∀ch t b,p.g=ch++[(t,b)]->inf t=some ch
 fresh:∀d,p.d=some d->(∀q∈p.g,q.1≠d)/\∀t ch,inf t=some ch->∀q∈ch,q.1≠d
def zK(p:Pi):Nat->Option (gd):=λt=>if p.d=S t then S p.g else T t
theorem YV(h:r≠S B):(a.put r l).tmps.getD B undef=a.tmps.getD B undef:=by cases r with|none=>rfl|some n =>have b:n≠B:=λe=>h (by simp[e]);simp only[Act.put,cZ,gP b]
theorem R8(h:B<a.tmps.size):(a.put (S B) l).tmps.getD B undef=l:=by simp[Act.put,h]
theorem pd{a:V}(h:r≠S B):(iM X r a)[B]?=X[B]?:=by cases r with|none=>rfl|some n =>have b:n≠B:=λe=>h (by simp[e]);simp only[iM,bN b]
theorem vg{a:V}:Y (iM X r a)=Y X:=by cases r<;>simp[iM]
theorem R7:(a.put r l).tmps.size=a.tmps.size/\(a.put r l).defers=a.defers:=by cases r<;>simp[Act.put]
theorem Mb.Bh{w m:bQ}{J J':aj}{o i:Mem}{fr:aB}{f:Nat->Option (gd)}{a:Act}{p:Pi}{r:V}{v:Value}(h:Mb w J o fr f a)(s:TR f p)(y:uS w J o m J' i) (h1:∀t,p.d=S t->t<Y fr->chainB fr p.g=S θ->VR m J' i r v) (z:chainB fr p.g=S G->v=undef):Mb m J' i (iM fr p.d r) (zK f p) (a.put p.d v):=by
 refine⟨by rw[R7.2];exact h.1,by rw[R7.1,vg];exact h.2.1,λt x j l k=>?_⟩;by_cases c:p.d=S t
 .have u:=s.fresh t c;simp only[zK,c,aU,ab]at k;subst k;have b:t<Y fr:=by have:=(ag.1 j).1;rwa [vg]at this
  rw[c]at j;simp only[iM,aT b,ab]at j;subst j;have e:chainB (iM fr p.d r) p.g=chainB fr p.g:=A1 λq n e=>u.1 q n (by rw[c]at e;exact(fO e).symm);rw[e,c,R8 (by rw[h.2.1];exact b)];exact⟨h1 t c b,z⟩
 simp only[zK,c,bw]at k;rw[pd c]at j;have e:chainB (iM fr p.d r) l=chainB fr l:=A1 λq n e=>(s.fresh q.1 e).2 t l k q n rfl;rw[e,YV c];have:=h.2.2 t x j l k;exact⟨λA=>y _ _ (this.1 A),this.2⟩
def GI(P:bG)(p:Pi)(K:ck)(fr:aB)(J:aj):Prop :=∃c,chainB fr p.g=S c/\((c=θ/\∃b:ck,oU P p b ⟨fr,J⟩/\∀a,b a->K a)\/(c=G/\∃r,K ⟨iM fr p.d r,J⟩))
theorem arK(h:gI E R C ⟨X,N⟩):GI E R C X N:=by
 unfold gI at h;split at h;.rename_i o;exact⟨θ,by rw[o];rfl,.inl ⟨rfl,C,h,λ_ h=>h⟩⟩
 split at h
 .rename_i c b;by_cases m:∃f a,R.i=.call f a
  .obtain⟨f,a,j⟩:=m;obtain⟨d,g,i⟩:=R;simp only at j;subst j;cases c with
   |true=>exact⟨θ,b,.inl ⟨rfl,C,h.1 rfl,λ_ h=>h⟩⟩
   |false=>exact⟨G,b,.inr ⟨rfl,h.2 rfl⟩⟩
  by_cases l:∃x a,R.i=.wY x a
  .obtain⟨x,a,j⟩:=l;obtain⟨d,g,i⟩:=R;simp only at j;subst j;cases c with
   |true=>exact⟨θ,b,.inl ⟨rfl,C,h.1 rfl,λ_ h=>h⟩⟩
   |false=>exact⟨G,b,.inr ⟨rfl,h.2 rfl⟩⟩
  obtain⟨r,k,n⟩:=Kg h (λf a e=>m ⟨f,a,e⟩) λx a e=>l ⟨x,a,e⟩;cases c with
  |true=>exact⟨θ,b,.inl ⟨rfl,_,n rfl,λp e=>e▸k⟩⟩
  |false=>exact⟨G,b,.inr ⟨rfl,r,k⟩⟩
 exact h.elim
theorem aj3{o:Oper}{p:Pi}(T:cPi E H o=S p){w:bQ} (hS:l8 E B v w N F) (I:Mb w N F X U a) (iu:TR U p) (hK:GI E p C X N)  {Q:Exit->Act->bQ->Prop} (hR:∀r J' m a' K,C ⟨iM X p.d r,J'⟩->l8 E B v K J' m->Mb K J' m (iM X p.d r) (zK U p) a'->uS w N F K J' m->y a' K) : if Region.wanted o (yielded H a.tmps)then o.wp E a w y Q\/(o.asks E a w/\LetsOut Q)else y (a.put o.dst undef) w:=by
 unfold cPi at T;split at T<;>simp only[ab,reduceCtorEq]at T;rename_i g u;obtain⟨i,D⟩:∃i,i=(compile E o).getD .stop:=⟨_,rfl⟩;rw[<- D]at T;subst T;have R:∀P:ck,chainB X g=S θ->oU E ⟨o.dst,g,i⟩ P ⟨X,N⟩->(∀A,P A->C A)->o.wp E a w y Q:=by
  intro P GK hs TW;have hi:compile E o=S i:=by cases Vv:compile E o with|none=>rw[Vv]at D;simp only[aeY]at D;subst D;simp[oU,ct,eZ]at hs|some j=>rw[Vv]at D;simp only[pY]at D;rw[D]
  have W:=Rg (fr':=mkF U X) (λs af ad=>by obtain⟨ch,L,h3⟩:=iu.ur s af;exact(akb L (L7 (by rw[xj,GK,ad];rfl) h3)).symm) hs;refine Oper.wp_mono ?_ (Rf (p:=⟨o.dst,g,i⟩) hi rfl W hS I.mask);rintro a' K ⟨A,m,⟨r,L,h3⟩,h4,h5,h6,⟨e,rfl⟩,_⟩;have ac:Y (mkF U X)=Y X:=by simp[mkF]
  refine hR r A.J m _ K (TW _ h3) h4 (I.Bh iu h6 (λt O M _=>?_) λh=>by simp only at h;rw[GK]at h;simp at h) h6;simp only at O L;have h7:=h5.2.2 t r (by rw[L,O];simp only[iM];rw[aT (by rw[ac];exact M)]);rwa [O,R8 (by rw[I.2.1];exact M)]at h7
 have guard:∀c,chainB X g=S c->Region.wanted o (yielded H a.tmps)=c:=by
  intro c n;cases k:o.guard with
  |none =>rw[k]at u;simp only[Ez,ab]at u;subst u;simp only[chainB,ab]at n;subst n;simp[Region.wanted,k]
  |some jb =>
  obtain⟨j,b⟩:=jb;rw[k]at u;simp only[Ez]at u;split at u<;>(try simp only[reduceCtorEq]at u);rename_i oj ZM;split at u<;>simp only[ab,reduceCtorEq]at u;rename_i t ch O GK;subst u;have am:=iu.guard ch t b rfl;rw[xj]at n;split at n<;>simp only[ab,reduceCtorEq]at n;rename_i x f hx V;simp only[chainB]at V;split at V<;>simp only[ab,reduceCtorEq]at V;rename_i z hz;simp only[dB]at V;have M:t<Y X:=by
   rcases jP t (Y X) with h|h;.exact h
   rw[aA,cH h]at hz;simp at hz
  have dz:X[t]?=S (.b z):=by rw[aA,aD M]at hz;rw[aD M];simpa using hz
  have hv:=I.2.2 t _ dz ch am;have EJ:t<a.tmps.size:=by rw[I.2.1];exact M
  have l:yielded H a.tmps j=match a.tmps.getD t undef with|.bool q=>S q|_=>Z:=by
   unfold yielded;simp only[ZM,kz,O];rw[cq EJ];have:a.tmps.getD t undef=a.tmps[t]:=by simp[EJ]
   rw[this];cases a.tmps[t]<;>rfl
  subst n V;cases x;.rw[hv.2 hx]at l;simp only[undef]at l;simp[Region.wanted,k,l]
  rw[(hv.1 hx).xU]at l;simp[Region.wanted,k,l]
 obtain⟨c,n,mq⟩:=hK;rcases mq with⟨rfl,P,W,L⟩|⟨rfl,r,W⟩;.rw[aQ (guard θ n)];exact .inl (R P n W L)
 have hw:=guard G n;rw[hw];simp only[aP,bw];exact hR r N F _ w W hS (I.Bh (p:=⟨o.dst,g,i⟩) iu (uS.refl _ _ _) (λt _ _ h=>by simp only at h;rw[n]at h;simp at h) λ_=>rfl) (uS.refl _ _ _)
theorem opG{o:Oper}(g:cPi E H o=S R){w:bQ} (h:l8 E B v w N F) (f:Mb w N F X U a) (i:TR U R) (j:gI E R C ⟨X,N⟩)  {Q:Exit->Act->bQ->Prop} (k:∀r J' b e c,C ⟨iM X R.d r,J'⟩->l8 E B v c J' b->Mb c J' b (iM X R.d r) (zK U R) e->uS w N F c J' b->y e c) : if Region.wanted o (yielded H a.tmps)then o.wp E a w y Q\/(o.asks E a w/\LetsOut Q)else y (a.put o.dst undef) w :=
 aj3 g h f i (arK j) k
def Ty:aB:=w.foldl (λx s=>x.set s .u) x
def oC(P:bG)(a:fb):List Pi->(ck)->ck|[],K,st=>K ⟨Ty a st.fr,st.J⟩|p::ps,K,st=>gI P p (oC P a ps K) st
def wK(t:Nat):gd:=(D.lookup t).getD []
def aeR(p:Pi):List (Nat×gd):=match p.d with|some d=>(d,p.g)::D|none=>D
def Sq(p:Pi):Bool :=p.i.ur.all (λs=>(wK D s.1).isPrefixOf (p.g++s.2)) &&
 (match p.g.getLast? with
  |none=>θ
  |some q=>wK D q.1==p.g.dropLast) &&
 (match p.d with|none=>θ|some d=>p.g.all (λq=>q.1 != d)&&D.all λe=>e.2.all λq=>q.1 != d)
def Lx:List (Nat×gd)->List Pi->fb->Bool
 |D,[],gs=>D.all λe=>e.2.isEmpty||gs.contains e.1
 |D,p::ps,gs=>Sq D p&&Lx (aeR D p) ps gs
def Ed(t:Nat):Option (gd):=S (wK D t)
theorem Bz{D:List (Nat×gd)}{t:Nat}:wK D t=[]\/(t,wK D t)∈D:=by
 induction D with
 |nil=>exact .inl rfl
 |cons e D ih =>
 obtain⟨s,a⟩:=e;simp only[wK,ae1];by_cases h:t=s;.subst h;right;simp
 have:(t==s)=G:=by simpa using h
 rw[this];simp only[wK]at ih;rcases ih with h|h;.exact .inl h
 exact .inr (bJ _ h)
theorem Jt{D:List (Nat×gd)}(h:Sq D R=θ):TR (Ed D) R:=by
 simp only[Sq,aZ,df]at h;obtain⟨⟨k,e⟩,c⟩:=h;refine⟨λs g=>⟨_,rfl,k s g⟩,λl t b i=>?_,λd j=>?_⟩;.rw[i]at e;simp only[lJ,kg,pX,List.dropLast_concat,ez]at e;simp[Ed,e]
 rw[j]at c;simp only[aZ,df,V8,gA]at c;refine⟨λq a=>c.1 q a,λt l f q a=>?_⟩;simp only[Ed,ab]at f;subst f;rcases Bz (D:=D) (t:=t)with h|h;.rw[h]at a;simp at a
 exact c.2 _ h q a
theorem ET{D:List (Nat×gd)}:zK (Ed D) R=Ed (aeR D R):=by
 funext t;simp only[zK,Ed,aeR];cases b:R.d with
 |none=>simp
 |some d =>
 by_cases h:d=t;.subst h;simp[wK]
 have a:(t==d)=G:=by simpa using λe=>h e.symm
 simp[h,wK,ae1,a]
theorem aev:∀(a:fb) (fr:aB) (t:Nat),(Ty a fr)[t]?=if t∈a then(fr[t]?).map (λ_=>V.u)else fr[t]?
 |[],fr,t=>by simp[Ty]
 |s::a,fr,t=>by
  have ih:=aev a (fr.set s .u) t;simp only[Ty,bH]at ih |-;rw[ih];by_cases b:s=t;.subst b;simp only[bd,true_or,aU];rw[asT];split<;>cases fr[s]?<;>rfl
  rw[bN b];have:(t∈s::a)<->t∈a:=by simp[EM b]
  simp only[this]
theorem Mb.ends{D:List (Nat×gd)}{gs:fb}(h:Mb v N F X (Ed D) a)(e:Lx D [] gs=θ):FR v N F (Ty gs X) a:=by
 refine⟨h.1,?_,λt x b=>?_⟩
 .rw[h.2.1];have:∀(gs:fb) (X:aB),Y (Ty gs X)=Y X:=by intro gs;induction gs with|nil=>intro X;rfl|cons s gs ih=>intro X;simp only[Ty,bH]at ih |-;rw[ih];simp
  rw[this]
 rw[aev]at b;split at b;.rw[aL]at b;obtain⟨_,_,rfl⟩:=b;exact .u _
 rename_i c;refine(h.2.2 t x b _ rfl).1 ?_;have:wK D t=[]:=by
  rcases Bz (D:=D) (t:=t)with h|h;.exact h
  simp only[Lx,df]at e;have:=e _ h;simp only[iR,List.isEmpty_iff,List.contains_eq_mem,bE]at this;rcases this with d|d;.exact d
  exact absurd d c
 rw[this];simp[chainB]
def arZ(P:bG)(n B:Nat)(f w:bQ)(J:aj)(d:Mem)(K:bL)(e:Exit)(g:Act)(c:bQ):Prop :=∃a b,K e a/\l8 P B f c a.J b/\FR c a.J b a.fr g/\jI n w J d c a.J b
theorem CJ{P:bG}{ops:Array Oper}{n B:Nat}{gs:fb}{w0 ws:bQ}{σs:aj}{μs:Mem}{K:ck}{Q:Exit->Act->bQ->Prop} (h:∀d w b a,K d->l8 P B w0 w d.J b->FR w d.J b d.fr a->jI n ws σs μs w d.J b->Q .normal a w) : ∀(l:List Oper) (k:Nat) (c:List Pi) (D:List (Nat×gd)) (fr:aB) (J:aj) (w:bQ) (b:Mem) (a:Act),(∀j,l[j]?=ops[k+j]?)->wu P ops l=S c->Lx D c gs=θ->oC P gs c K ⟨fr,J⟩ ->l8 P B w0 w J b->Mb w J b fr (Ed D) a->jI n ws σs μs w J b ->wpOps P ops Q ((List.range (Y l)).map (k+·)) a w
 |[],k,c,D,fr,J,w,b,a,_,hc,hD,hr,hS,hF,hk=>by simp only[wu,ab]at hc;subst hc;exact h _ w b a hr hS (hF.ends hD) hk
 |o::l,k,c,D,fr,J,w,b,a,hl,hc,hD,hr,hS,hF,hk=>by
  simp only[wu]at hc;split at hc<;>simp only[ab,reduceCtorEq]at hc;rename_i p s t e;subst hc;simp only[Lx,aZ]at hD;have y:ops[k]?=S o:=by have:=hl 0;simpa using this.symm
  have v:(List.range (Y (o::l))).map (k+·)=k::(List.range (Y l)).map (k+1+·):=by rw[ae,xl,aI,jQ];simp only[cu];congr 1;apply dA;intro x _;simp only[Function.comp];omega
  rw[v];simp only[wpOps,y];refine opG t hS hF (Jt hD.1) hr ?_;intro r J' f q i u m g z;rw[ET]at g;exact CJ h l (k+1) s _ _ _ i f q (λj=>by have:=hl (j+1);rw[bY]at this;rw[this];congr 1;omega) e hD.2 u m g (hk.trans z.Ua)
theorem FR.toI(h:FR v N F X a):Mb v N F X (Ed []) a :=⟨h.1,h.2.1,λt x c d b=>by simp only[Ed,wK,List.lookup_nil,aeY,ab]at b;subst b;exact⟨λ_=>h.2.2 t x c,λh=>by simp[chainB]at h⟩⟩
def tb(j:Nat):Bool:=(w.getD n 0).testBit j
def jh:Pi:=A.getD n ⟨Z,[],.alloc 0 []⟩
def Mm(ls:fb)(i:Nat):Nat:=Y (ls.filter (tb w i))
def tE(ls:fb)(k:Nat):fb:=(List.range n).filter λi=>(jh A i).i.fD&&Mm w ls i==k
def aey(ls:fb)(k L:Nat):fb :=(List.range n).filter λi=>(jh A i).i.fD&&((jh A i).i.reads&&(decide (Mm w ls i<=k)&&!tb w L i))
def K6(pis:List Pi)(bs:fb)(m:Nat)(ls:fb):Nat->fb->List (List Pi×Pi×List Pi)|_,[]=>[]|k,L::r=>((tE pis bs m ls k).map (jh pis),jh pis L,(aey pis bs m ls k L).map (jh pis))::K6 pis bs m ls (k+1) r
def KO(a:St):Prop :=
 match chainB a.fr M.g with
 |some c=>match M.d with
  |some d=>c=θ->∃b,ct a.fr a.J M.i=S (b,a.fr.getD d .u)/\b
  |none=>c=θ->∃b r,ct a.fr a.J M.i=S (b,r)/\b
 |none=>False
def zx(P:bG):List (List Pi×Pi×List Pi)->List Pi->(ck)->ck|[],last,K,st=>oC P [] last K st|(QE,L,chk)::ds,last,K,st=>oC P [] QE (λa=>gI P L (λst2=>(∀p∈chk,KO p st2)/\zx P ds last K st2) a) st
def looks:fb:=M.i.ur.map (·.1)++M.g.map (·.1)
def Fact(J:aj):Prop :=∃c,chainB x M.g=S c/\∃r,iM x M.d r=x/\(c=θ->∃a,ct x J M.i=S (a,r)/\a)
theorem Dt{r:V}:X.set B r=X<->(B<Y X->X[B]?=S r):=by
 constructor;.intro h a;rw[<- h,aT a]
 intro h;refine kR λi=>?_;by_cases b:B=i
 .subst b;rw[asT];rcases jP B (Y X) with a|a;.rw[h a];rfl
  rw[cH a];rfl
 rw[bN b]
theorem xz{a:V}:iM X r a=X<->∀t,r=S t->t<Y X->X[t]?=S a:=by cases r with|none=>simp[iM]|some t=>simp only[iM,Dt,ab];exact⟨λh s b=>b▸h,λh=>h t rfl⟩
theorem acd{i:I}{x:O}(e:x∈i.os)(d:B∈x.slot):B∈i.ur.map (·.1):=by
 unfold I.ur;split
 .rename_i c a b;simp only[I.os,bd,bD,mZ]at e;rcases e with rfl|rfl|rfl;.simp only[O.slot,dn]at d;simp[d]
  .simp[d]
  simp[d]
 simp only[jQ,cv,qa,Function.comp];exact⟨B,⟨x,e,d⟩,rfl⟩
theorem se{fr fr':aB}:∀{ch:gd},(∀q∈ch,fr'[q.1]?=fr[q.1]?)->chainB fr' ch=chainB fr ch|[],_=>rfl|(t,b)::ch,h=>by have a:fr'[t]?=fr[t]?:=h (t,b) (by simp);have ih:=se (fr:=fr) (fr':=fr') (ch:=ch) λq c=>h q (by simp[c]);simp only[chainB,ih,aA,a]
theorem Gp(h:∀t∈R.i.ur.map (·.1),f[t]?=X[t]?):ct f N R.i=ct X N R.i :=Gn λx b=>HY λs a=>by rw[aA,aA,h s (acd b a)]
theorem Fact.agree(h:Fact R X N)(g:∀t∈looks R,f[t]?=X[t]?)(i:∀t,R.d=S t->f[t]?=X[t]?)(a:Y f=Y X):Fact R f N:=by
 obtain⟨c,k,r,e,m⟩:=h;refine⟨c,by rw[se λq l=>g q.1 (by simp only[looks,bW,cv];exact .inr ⟨q,l,rfl⟩)];exact k,r,?_,λn=>?_⟩;.rw[xz]at e |-;intro t b j;rw[i t b];exact e t b (a▸j)
 rw[Gp λt b=>g t (by simp only[looks,bW];exact .inl b)];exact m n
theorem Fact.still{J J':aj}(h:Fact R X J)(f:R.i.reads=G):Fact R X J':=by obtain⟨c,b,r,e,a⟩:=h;exact⟨c,b,r,e,λd=>by rw[<- Sc (J:=J) f];exact a d⟩
theorem KO.fact{e:St}(h:KO R e):Fact R e.fr e.J:=by
 unfold KO at h;split at h
 .rename_i c f;split at h;.rename_i d a;refine⟨c,f,_,?_,h⟩;rw[xz];intro t b l;rw[a]at b;simp only[ab]at b;subst b;rw[aA,aD l];rfl
  rename_i a;by_cases g:c=θ;.obtain⟨j,r,i,k⟩:=h g;exact⟨c,f,r,by rw[a];rfl,λ_=>⟨j,i,k⟩⟩
  exact⟨c,f,.u,by rw[a];rfl,λh=>absurd h g⟩
 exact h.elim
theorem Z3(h:gI E R C ⟨X,N⟩)(b:R.i.fD=θ): ∃c r,chainB X R.g=S c/\C ⟨iM X R.d r,N⟩/\(c=θ->∃a,ct X N R.i=S (a,r)/\a):=by
 have l:∀o,oU E R o ⟨X,N⟩->∃r,o ⟨iM X R.d r,N⟩/\∃a,ct X N R.i=S (a,r)/\a:=by
  intro o j;obtain⟨d,g,i⟩:=R;cases i<;>first|(simp[I.fD]at b;done)|skip
  all_goals
   simp only[oU]at j;split at j;.rename_i a v t;exact⟨v,j.2,a,t,j.1⟩
   rw[Dl (by simpa using b)]at j;exact j.elim
 unfold gI at h;split at h;.rename_i u;obtain⟨r,m,n⟩:=l _ h;exact⟨θ,r,by rw[u];rfl,m,λ_=>n⟩
 split at h
 .rename_i c s;obtain⟨r,m,n⟩:=Kg h (λf k e=>by rw[e]at b;simp[I.fD]at b) λx k e=>by rw[e]at b;simp[I.fD]at b
  by_cases p:c=θ;.obtain⟨w,q,y⟩:=l _ (n p);simp only[St.mk.injEq,cK]at q;subst p;refine⟨θ,w,s,?_,λ_=>y⟩;rw[q];exact m
  exact⟨c,r,s,m,λh=>absurd h p⟩
 exact h.elim
theorem EZ{P:bG}{pis:List Pi}{K:ck}{J:aj}:∀(l:fb) (fr:aB),oC P [] (l.map (jh pis)) K ⟨fr,J⟩->(∀i∈l,(jh pis i).i.fD=θ) ->l.Pairwise (λi j=>∀t,(jh pis j).d=S t->t ∉ looks (jh pis i)/\(jh pis i).d≠S t)->(∀i∈l,∀t,(jh pis i).d=S t->t ∉ looks (jh pis i)) ->∃fr',K ⟨fr',J⟩/\(∀i∈l,Fact (jh pis i) fr' J)/\(∀t,(∀i∈l,(jh pis i).d≠S t)->fr'[t]?=fr[t]?)/\Y fr'=Y fr
 |[],fr,h,_,_,_=>⟨fr,h,by simp,λ_ _=>rfl,rfl⟩
 |i::l,fr,h,hs,hp,rX=>by
  simp only[aI,oC]at h;obtain⟨c,r,w,s,u⟩:=Z3 h (hs i (by simp));rw[cy]at hp;obtain⟨fr',x,v,f,m⟩:=EZ l _ s (λj a=>hs j (by simp[a])) hp.2 λj a=>rX j (by simp[a]);have g:∀t∈looks (jh pis i),fr'[t]?=fr[t]?:=λt b=>by rw[f t λj a e=>(hp.1 j a t e).1 b];exact pd λe=>rX i (by simp) t e b
  refine⟨fr',x,λj a=>?_,λt b=>?_,by rw[m,vg]⟩
  .rcases bd.1 a with rfl|a
   .refine⟨c,by rw[se λq o=>g q.1 (by simp only[looks,bW,cv];exact .inr ⟨q,o,rfl⟩)];exact w,r,?_,λy=>?_⟩
    .rw[xz];intro t b n;rw[f t λk p e=>(hp.1 k p t e).2 b,b];have:t<Y fr:=by rw[m,vg]at n;exact n
     simp only[iM,aT this]
    rw[Gp λt b=>g t (by simp only[looks,bW];exact .inl b)];exact u y
   exact v j a
  rw[f t λj a=>b j (by simp[a])];exact pd (b i (by simp))
structure H2 (ops:Array Oper) (pis:List Pi) (bs:fb) (m:Nat) (ls fl:fb):Prop where
 mn:m<=pis.length
 back:∀i o,ops[i]?=some o->∀e∈o.after,Region.binds .any e=true->e.on<i
 clo:∀(i j:Nat),i<pis.length->j<pis.length->tb bs i j=true->j<i/\∃o,ops[i]?=some o/\∃e∈o.after,Region.binds .any e=true/\(e.on=j\/tb bs e.on j=true)
 tail:∀(i j:Nat),m<=i->i<pis.length->j<i->tb bs i j=true
 dst:∀(i j:Nat) (t:Nat),i<m->j<m->(jh pis i).d=some t->(jh pis j).d=some t->i=j
 SB:∀(i:Nat),i<m->(jh pis i).i.fD=false->i∈ls\/i∈fl
 lsm:∀L∈ls,L<m/\(jh pis L).i.fD=false
 agm:∀(j k L L':Nat),j<k->ls[j]?=some L'->ls[k]?=some L->tb bs L L'=true
 QE:∀(i k L:Nat),i<m->(jh pis i).i.fD=true->ls[k]?=some L->(tb bs i L=true<->k<Mm bs ls i)
 slot:∀(i:Nat) (s:Nat×gd) (j:Nat),i<m->s∈(jh pis i).i.ur->j<m->(jh pis j).d=some s.1->tb bs i j=true/\(jh pis j).g.isPrefixOf ((jh pis i).g++s.2)=true
 chain:∀(i:Nat) (q:Nat×Bool),i<m->q∈(jh pis i).g->∃j,j<m/\(jh pis j).d=some q.1/\tb bs i j=true
 last:∀(i:Nat) (ch:gd) (t:Nat) (b:Bool) (j:Nat),i<m->(jh pis i).g=ch++[(t,b)]->j<m->(jh pis j).d=some t->(jh pis j).g=ch
 mono:∀(i j t:Nat),i<m->(jh pis i).i.fD=true->j<m->(jh pis j).i.fD=true->(jh pis j).d=some t->t∈looks (jh pis i)->Mm bs ls j<=Mm bs ls i
theorem uR{P:bG}{ops:Array Oper}:∀{l:List Oper} {a:List Pi},wu P ops l=S a->Y a=Y l/\∀(i:Nat) (o:Oper),l[i]?=S o->∃p,a[i]?=S p/\cPi P ops o=S p
 |[],a,h=>by simp only[wu,ab]at h;subst h;simp
 |o::l,a,h=>by simp only[wu]at h;split at h<;>simp only[ab,reduceCtorEq]at h;rename_i p j g b;subst h;obtain⟨d,e⟩:=uR b;refine⟨by simp[d],λi f c=>?_⟩;cases i with|zero=>simp only[aC,ab]at c;subst c;exact⟨p,rfl,g⟩|succ i=>exact e i f (by simpa using c)
abbrev oT(listed:Array Bool)(i:Nat):Prop:=listed.getD i G=θ
theorem jA{listed:Array Bool}{i j:Nat}(a:i<listed.size):oT (listed.setIfInBounds i θ) j<->j=i\/oT listed j:=by
 simp only[oT,cZ];by_cases h:i=j;.subst h;simp[a]
 rw[gP h];simp[EM h]
theorem z7{listed:Array Bool}(f:listed.size=H.size)(h:B∈Region.ready .any H listed):
  B<H.size/\¬oT listed B/\∃o,H[B]?=S o/\∀e∈o.after,Region.binds .any e=θ->oT listed e.on:=by obtain⟨a,o,c,d⟩:=mem_ready.1 h;have b:B<H.size:=(cY.1 c).1;refine⟨b,?_,o,c,d⟩;simp only[oT,cZ]at a |-;rw[cq (by rw[f];exact b)]at a |-;simp at a |-;exact a
section
variable {P:bG} {ops:Array Oper} {pis:List Pi} {bs:fb} {m:Nat} {ls fl:fb}
theorem H2.ready(c:H2 ops pis bs m ls fl)(v:Y pis=ops.size){listed:Array Bool}(r:listed.size=ops.size) (q:∀i j,i<Y pis->j<Y pis->oT listed i->tb bs i j=θ->oT listed j) {i:Nat} (h:i∈Region.ready .any ops listed) {j:Nat} (g:j<Y pis) (n:tb bs i j=θ):oT listed j:=by
 obtain⟨s,t,o,k,p⟩:=z7 r h;obtain⟨w,u,b,e,l,f,a⟩:=c.clo i j (by omega) g n;rw[k]at b;simp only[ab]at b;subst b;have d:=p e l f;rcases a with rfl|a;.exact d
 have:=c.back i o k e l f;exact q e.on j (by omega) g d a
theorem H2.first(d:H2 ops pis bs m ls fl){listed:Array Bool}(g:listed.size=ops.size)(h:Region.ready .any ops listed=[]):∀i,i<ops.size->oT listed i:=by
 intro i;induction i using Nat.strongRecOn with
 |ind i ih =>
 intro b;refine cp λa=>?_;have:i∈Region.ready .any ops listed:=by
  rw[mem_ready];refine⟨?_,ops[i],by simp[b],λe f c=>?_⟩;.simp only[oT,cZ]at a |-;rw[cq (by rw[g];exact b)]at a |-;simp at a |-;exact a
  have j:=d.back i ops[i] (by simp[b]) e f c;exact ih e.on j (by omega)
 rw[h]at this;simp at this
theorem Mt{listed:Array Bool}(d:listed.size=ops.size)(h:∀i,i<ops.size->oT listed i):Region.ready .any ops listed=[]:=by refine dM.2 λi a=>?_;obtain⟨b,c,_⟩:=z7 d a;exact c (h i b)
theorem Ic(x:H2 ops pis bs m ls fl)(W:wu P ops ops.toList=S pis){n B:Nat}{R:fb}{X ws:bQ}{t:aj}{s:Mem}{K:ck}{Q:Exit->Act->bQ->Prop} (hQ:∀u w c a,K u->l8 P B X w u.J c->FR w u.J c u.fr a->jI n ws t s w u.J c->Q .normal a w) : ∀(b q:Nat) (listed:Array Bool) (D:List (Nat×gd)) (fr:aB) (J:aj) (w:bQ) (c:Mem) (a:Act),m<=q->q<=Y pis->listed.size=ops.size->(∀i,i<Y pis->(oT listed i<->i<q))->Y pis - q<=b ->Lx D (pis.drop q) R=θ->oC P R (pis.drop q) K ⟨fr,J⟩->l8 P B X w J c->Mb w J c fr (Ed D) a->jI n ws t s w J c->wpAny P .any ops Q b listed a w:=by
 have hn:Y pis=ops.size:=by rw[(uR W).1,bf]
 intro b;induction b with
 |zero =>
  intro q listed D fr J w c a N hq g f hf e k z C A;have l:q=Y pis:=by omega
  subst l;rw[tW]at e k;refine wpAny_done (Mt g λi y=>(f i (by omega)).2 (by omega)) ?_ 0;exact hQ _ w c a k z (C.ends e) A
 |succ b ih =>
 intro q listed D fr J w c a N hq g f hf e k z C A;by_cases l:q=Y pis;.subst l;rw[tW]at e k;refine wpAny_done (Mt g λi y=>(f i (by omega)).2 (by omega)) ?_ _;exact hQ _ w c a k z (C.ends e) A
 have d:q<Y pis:=by omega
 refine⟨λh=>?_,λi y=>?_⟩;.have:=x.first g h q (by omega);rw[f q d]at this;omega
 obtain⟨h1,h2,o,U,h4⟩:=z7 g y;have F:i=q:=by have I:¬i<q:=λh=>h2 ((f i (by omega)).2 h);refine cp λjw=>?_;have O:=x.ready hn g (λV j v E M ht=>by rw[f V v]at M;have:=(x.clo V j v E ht).1;exact(f j E).2 (by omega)) y d (x.tail i q (by omega) (by omega) (by omega));rw[f q d]at O;omega
 subst F;obtain⟨p,I,O⟩:=(uR W).2 i o (by simpa using U);have H:pis.drop i=p::pis.drop (i+1):=by rw[gG d];congr 1;rw[aD d]at I;simpa using I
 rw[H]at e k;simp only[Lx,aZ]at e;simp only[wpOp,U];refine opG O z C (Jt e.1) k ?_;intro r J' L a' w' k1 k2 T k4;rw[ET]at T;exact ih (i+1) _ _ _ J' w' L a' (by omega) (by omega) (by simpa using g) (λj E=>by rw[jA (by omega),f j E];omega) (by omega) e.2 k1 k2 T (A.trans k4.Ua)
end
variable(X:List Pi)
def uz(m:Nat)(listed:Array Bool)(t:Nat):Option (gd) :=
 match (List.range m).find? (λi=>(jh X i).d==S t)with|none=>S []|some i=>if listed.getD i G then S (jh X i).g else Z
section
variable {P:bG} {ops:Array Oper} {pis:List Pi} {bs:fb} {m:Nat} {ls fl:fb}
theorem H2.HJ(e:H2 ops pis bs m ls fl){listed:Array Bool}{i t:Nat}(b:i<m)(a:(jh pis i).d=S t):uz pis m listed t=if listed.getD i G then S (jh pis i).g else Z:=by
 unfold uz;split;.rename_i h;rw[Df]at h;exact absurd (h i (eU.2 b)) (by simp[a])
 rename_i j h;have c:=Bc h;have f:=eU.1 (tZ h);simp only[ez]at c;rw[e.dst j i t f b c a]
theorem Mg{listed:Array Bool}{t:Nat}(h:∀i,i<m->(jh pis i).d≠S t):uz pis m listed t=S []:=by
 unfold uz;split;.rfl
 rename_i j b;have a:=Bc b;have c:=eU.1 (tZ b);simp only[ez]at a;exact absurd a (h j c)
theorem qy{listed:Array Bool}{t:Nat}{a:gd}(h:uz pis m listed t=S a): (a=[]/\∀i,i<m->(jh pis i).d≠S t)\/∃i,i<m/\(jh pis i).d=S t/\oT listed i/\a=(jh pis i).g:=by
 unfold uz at h;split at h;.rename_i c;rw[Df]at c;simp only[ab]at h;exact .inl ⟨h.symm,λi k f=>c i (eU.2 k) (by simp[f])⟩
 rename_i j e;have b:=Bc e;have l:=eU.1 (tZ e);simp only[ez]at b;split at h<;>simp only[ab,reduceCtorEq]at h;rename_i n;exact .inr ⟨j,l,b,n,h.symm⟩
theorem H2.xR(a:H2 ops pis bs m ls fl){i j t:Nat}(c:i<m)(f:j<m)(b:(jh pis j).d=S t)(e:t∈looks (jh pis i)):tb bs i j=θ:=by
 simp only[looks,bW,cv]at e;rcases e with⟨s,n,rfl⟩|⟨q,k,rfl⟩;.exact(a.slot i s j c n f b).1
 obtain⟨g,h,l,o⟩:=a.chain i q c k;rw[a.dst j g _ f h b l];exact o
theorem H2.lt(a:H2 ops pis bs m ls fl){i j:Nat}(c:i<m)(b:j<m)(h:tb bs i j=θ):j<i :=(a.clo i j (im c a.mn) (im b a.mn) h).1
theorem H2.aqr(a:H2 ops pis bs m ls fl){listed:Array Bool}(C:∀i j,i<Y pis->j<Y pis->oT listed i->tb bs i j=θ->oT listed j){i:Nat}(h:i<m)(B:¬oT listed i) (w:∀j,j<Y pis->tb bs i j=θ->oT listed j):TR (uz pis m listed) (jh pis i):=by
 have H:=a.mn;refine⟨λs A=>?_,λy t b x=>?_,λd f=>⟨λq o e=>?_,λt y n q o e=>?_⟩⟩
 .by_cases z:∃j,j<m/\(jh pis j).d=S s.1;.obtain⟨j,c,f⟩:=z;have:=a.slot i s j h A c f;have E:=w j (by omega) this.1;refine⟨(jh pis j).g,?_,this.2⟩;rw[a.HJ c f,E];rfl
  exact⟨[],Mg λj c f=>z ⟨j,c,f⟩,by simp⟩
 .obtain⟨j,c,f,n⟩:=a.chain i (t,b) h (by rw[x];simp);rw[a.HJ c f,w j (by omega) n,a.last i y t b j h x c f];rfl
 .obtain⟨j,c,l,n⟩:=a.chain i q h o;rw[e]at l;have:=a.dst i j d h c f l;subst this;have:=a.lt h h n;omega
 rcases qy n with⟨rfl,_⟩|⟨j,c,F,r,rfl⟩;.simp at o
 obtain⟨v,u,k,p⟩:=a.chain j q c o;have D:=C j v (by omega) (by omega) r p;rw[e]at k;have:=a.dst i v d h u f k;subst this;exact B D
theorem H2.zK(f:H2 ops pis bs m ls fl){listed:Array Bool}{i:Nat}(h:i<m)(a:i<listed.size):zK (uz pis m listed) (jh pis i)=uz pis m (listed.setIfInBounds i θ):=by
 funext t;simp only[Pm.zK];by_cases b:(jh pis i).d=S t;.have:(listed.setIfInBounds i θ).getD i G=θ:=(jA a).2 (.inl rfl);rw[aQ b,f.HJ h b,this];rfl
 rw[aw b];unfold uz;split;.rfl
 rename_i j l;have c:=Bc l;simp only[ez]at c;have g:j≠i:=λe=>b (e▸c);have:(listed.setIfInBounds i θ).getD j G=listed.getD j G:=by have k:=jA (listed:=listed) (j:=j) a;simp only[g,pW,oT]at k;cases n:listed.getD j G<;>simp_all
 rw[this]
def CE(P:bG)(pis:List Pi)(bs:fb)(m:Nat)(ls:fb)(a:ck)(k:Nat)(fr:aB)(J:aj):Prop :=
 match ls[k]? with
 |some L=>gI P (jh pis L) (λst2=>(∀p∈(aey pis bs m ls k L).map (jh pis),KO p st2)/\zx P (K6 pis bs m ls (k+1) (ls.drop (k+1))) ((tE pis bs m ls (Y ls)).map (jh pis)) a st2) ⟨fr,J⟩
 |none=>a ⟨fr,J⟩
theorem ir{k i:Nat}:i∈tE pis bs m ls k<->i<m/\(jh pis i).i.fD=θ/\Mm bs ls i=k:=by simp[tE]
theorem H2.aja(b:H2 ops pis bs m ls fl){x:ck}{k:Nat}(y:k<=Y ls){fr:aB}{J:aj} (h:zx P (K6 pis bs m ls k (ls.drop k)) ((tE pis bs m ls (Y ls)).map (jh pis)) x ⟨fr,J⟩) : ∃fr',CE P pis bs m ls x k fr' J/\(∀i∈tE pis bs m ls k,Fact (jh pis i) fr' J)/\(∀t,(∀i∈tE pis bs m ls k,(jh pis i).d≠S t)->fr'[t]?=fr[t]?)/\Y fr'=Y fr:=by
 have w:(tE pis bs m ls k).Pairwise (λi j=>∀t,(jh pis j).d=S t->t ∉ looks (jh pis i)/\(jh pis i).d≠S t):=by
  refine ar6 ?_ (zD _ avk);intro i j a c z t f;replace a:=(ir (k:=k)).1 a;replace c:=(ir (k:=k)).1 c;refine⟨λn=>?_,λo=>?_⟩;.have:=b.lt a.1 c.1 (b.xR a.1 c.1 f n);omega
  have:=b.dst i j t a.1 c.1 o f;omega
 have u:∀i∈tE pis bs m ls k,∀t,(jh pis i).d=S t->t ∉ looks (jh pis i):=λi a t f n=>by rw[ir]at a;have:=b.lt a.1 a.1 (b.xR a.1 a.1 f n);omega
 have s:∀i∈tE pis bs m ls k,(jh pis i).i.fD=θ:=λi a=>(ir.1 a).2.1;by_cases v:k<Y ls;.have e:ls.drop k=ls[k]::ls.drop (k+1):=gG v;rw[e]at h;simp only[K6,zx]at h;obtain⟨fr',p,g,l,r⟩:=EZ _ _ h s w u;refine⟨fr',?_,g,l,r⟩;simp only[CE,aD v];exact p
 have q:k=Y ls:=by omega
 subst q;rw[tW]at h;simp only[K6,zx]at h;obtain⟨fr',p,g,l,r⟩:=EZ _ _ h s w u;refine⟨fr',?_,g,l,r⟩;have e:ls[Y ls]?=Z:=cH (aM _);simp only[CE,e];exact p
def NR(n:Nat)(listed:Array Bool):Nat:=Y ((List.range n).filter λi=>!listed.getD i G)
theorem Q4{n m:Nat}{listed:Array Bool}(b:m<=n)(h:∀i,m<=i->i<n->¬oT listed i):n - m<=NR n listed:=by
 have e:List.range n=List.range m++(List.range (n - m)).map (m+·):=by rw[<- List.range_add];congr 1;omega
 unfold NR;rw[e,jv,ah];have:((List.range (n - m)).map (m+·)).filter (λi=>!listed.getD i G)=(List.range (n - m)).map (m+·):=by rw[List.filter_eq_self];intro i a;simp only[cv,eU]at a;obtain⟨j,c,rfl⟩:=a;have:=h (m+j) (by omega) (by omega);simpa[oT]using this
 rw[this];simp
theorem Wj{n:Nat}{listed:Array Bool}{i:Nat}(a:i<n)(h:¬oT listed i):0<NR n listed:=by unfold NR;rw[List.length_pos_iff_exists_mem];exact⟨i,by simp only[eB,eU];exact⟨a,by simpa[oT]using h⟩⟩
theorem Wi{n:Nat}{listed:Array Bool}{i:Nat}(o:i<n)(a:i<listed.size)(h:¬oT listed i):NR n (listed.setIfInBounds i θ)+1<=NR n listed:=by
 induction n with
 |zero=>omega
 |succ n ih =>
 have g:∀l:Array Bool,NR (n+1) l=NR n l+if l.getD n G then 0 else 1:=by intro l;unfold NR;rw[u6,jv,ah];congr 1;rw[jc];cases p:l.getD n G<;>rfl
 rw[g,g];by_cases f:i=n
 .subst f;have d:(listed.setIfInBounds i θ).getD i G=θ:=(jA a).2 (.inl rfl);have b:listed.getD i G=G:=by simpa[oT]using h
  rw[d,b];have:NR i (listed.setIfInBounds i θ)=NR i listed:=by
   unfold NR;congr 1;refine List.filter_congr λj k=>?_;rw[eU]at k;have b:=jA (listed:=listed) (j:=j) a;have c:j≠i:=by omega
   simp only[c,pW,oT]at b;cases m:listed.getD j G<;>simp_all
  simp[this]
 have d:=ih (by omega);have b:=jA (listed:=listed) (j:=n) a;have c:n≠i:=λe=>f e.symm;simp only[c,pW,oT]at b;have:(listed.setIfInBounds i θ).getD n G=listed.getD n G:=by cases m:listed.getD n G<;>simp_all
 rw[this];omega
def D0(pis:List Pi)(m:Nat):List (Nat×gd):=(List.range m).filterMap λi=>(jh pis i).d.map λd=>(d,(jh pis i).g)
theorem SC{t:Nat}{x:gd}:∀{D:List (Nat×gd)},(∀v,(t,v)∈D->v=x)->(∃v,(t,v)∈D)->wK D t=x
 |[],_,h=>by obtain⟨v,c⟩:=h;simp at c
 |(s,v)::D,h,he=>by
  simp only[wK,ae1];by_cases b:t=s;.subst b;simp[h v (by simp)]
  have f:(t==s)=G:=by simpa using b
  rw[f];refine SC (D:=D) (λv c=>h v (by simp[c])) ?_;obtain⟨d,a⟩:=he;rcases bd.1 a with e|a;.simp only[bm]at e;exact absurd e.1 b
  exact⟨d,a⟩
theorem H2.all(k:H2 ops pis bs m ls fl){listed:Array Bool}(h:∀i,i<m->oT listed i):uz pis m listed=Ed (D0 pis m):=by
 funext t;have c:∀v,(t,v)∈D0 pis m<->∃i,i<m/\(jh pis i).d=S t/\v=(jh pis i).g:=by
  intro v;simp only[D0,V9,eU,aL,bm];constructor;.rintro⟨i,a,d,b,rfl,rfl⟩;exact⟨i,a,b,rfl⟩
  rintro⟨i,a,b,rfl⟩;exact⟨i,a,t,b,rfl,rfl⟩
 by_cases e:∃i,i<m/\(jh pis i).d=S t;.obtain⟨i,a,b⟩:=e;rw[k.HJ a b,h i a];simp only[aU,Ed,ab];refine(SC (λv l=>?_) ⟨_,(c _).2 ⟨i,a,b,rfl⟩⟩).symm;obtain⟨j,o,n,rfl⟩:=(c v).1 l;rw[k.dst i j t a o b n]
 rw[Mg λi a b=>e ⟨i,a,b⟩];simp only[Ed,ab];rcases Bz (D:=D0 pis m) (t:=t)with f|f;.exact f.symm
 obtain⟨i,a,b,_⟩:=(c _).1 f;exact absurd ⟨i,a,b⟩ e
end
theorem X8{P:bG}{p:Pi}{fr:aB}{J:aj}(h:Fact p fr J):GI P p (λa=>a=⟨fr,J⟩) fr J:=by
 obtain⟨c,f,r,b,k⟩:=h;cases c with
 |false=>exact⟨G,f,.inr ⟨rfl,r,by rw[b]⟩⟩
 |true =>
 obtain⟨m,e,l⟩:=k rfl;refine⟨θ,f,.inl ⟨rfl,λa=>a=⟨fr,J⟩,?_,λ_ h=>h⟩⟩;obtain⟨d,g,i⟩:=p;have j:=DY e;cases i<;>first|(simp[I.fD]at j;done)|skip
 all_goals
  simp only[oU];simp only at e b;rw[e];exact⟨l,by rw[b]⟩
section
variable {P:bG} {ops:Array Oper} {pis:List Pi} {bs:fb} {m:Nat} {ls fl:fb}
theorem DX(c:H2 ops pis bs m ls fl)(hp:wu P ops ops.toList=S pis){n B:Nat}{gs:fb}{w0 ws:bQ}{ad:aj}{an:Mem}{K:ck}{Q:Exit->Act->bQ->Prop} (hQ:∀st w C a,K st->l8 P B w0 w st.J C->FR w st.J C st.fr a->jI n ws ad an w st.J C->Q .normal a w) (u:Lx (D0 pis m) (pis.drop m) gs=θ) : ∀(g k:Nat) (listed:Array Bool) (fr:aB) (J:aj) (w:bQ) (C:Mem) (a:Act),listed.size=ops.size->(∀f∈fl,oT listed f) ->(∀i j,i<Y pis->j<Y pis->oT listed i->tb bs i j=θ->oT listed j)->(∀i,m<=i->i<Y pis->¬oT listed i)->k<=Y ls ->(∀j L,ls[j]?=S L->(oT listed L<->j<k))->(∀i,i<m->(jh pis i).i.fD=θ->Mm bs ls i<=k->¬oT listed i->Fact (jh pis i) fr J) ->CE P pis bs m ls (oC P gs (pis.drop m) K) k fr J->NR pis.length listed<=g ->l8 P B w0 w J C->Mb w J C fr (uz pis m listed) a->jI n ws ad an w J C->wpAny P .any ops Q g listed a w:=by
 have hn:Y pis=ops.size:=by rw[(uR hp).1,bf]
 have hm:=c.mn;intro g;induction g with
 |zero =>
  intro k listed fr J w C a O yi hc Cs hk W xY J3 hu hS hF S2;have a6:∀i,i<Y pis->oT listed i:=λi D=>cp λh=>by have:=Wj D h;omega
  have M:∀i,i<m->oT listed i:=λi D=>a6 i (by omega);have vO:k=Y ls:=by
   refine cp λjw=>?_;have eW:k<Y ls:=by omega
   have:=(W k ls[k] (aD eW)).1 (M _ (c.lsm _ (eJ eW)).1);omega
  subst vO;have e:ls[Y ls]?=Z:=cH (aM _);simp only[CE,e]at J3;rw[c.all M]at hF;exact Ic c hp hQ 0 m listed _ fr J w C a (aM _) hm O (λi D=>⟨λh=>cp λH=>Cs i (by omega) D h,λh=>M i h⟩) (by have:=Q4 hm Cs;omega) u J3 hS hF S2
 |succ g ih =>
 intro k listed fr J w C a O yi hc Cs hk W xY J3 hu hS hF S2;by_cases M:∀i,i<m->oT listed i
 .have vO:k=Y ls:=by
   refine cp λjw=>?_;have eW:k<Y ls:=by omega
   have:=(W k ls[k] (aD eW)).1 (M _ (c.lsm _ (eJ eW)).1);omega
  subst vO;have e:ls[Y ls]?=Z:=cH (aM _);simp only[CE,e]at J3;rw[c.all M]at hF;exact Ic c hp hQ _ m listed _ fr J w C a (aM _) hm O (λi D=>⟨λh=>cp λH=>Cs i (by omega) D h,λh=>M i h⟩) (by have:=Q4 hm Cs;omega) u J3 hS hF S2
 refine⟨λh=>absurd (λi D=>c.first O h i (by omega)) M,λi D=>?_⟩;obtain⟨bc,ZJ,o,ho,_⟩:=z7 O D;have HU:i<Y pis:=by omega
 have Cx:∀j,j<Y pis->tb bs i j=θ->oT listed j:=λj v u=>c.ready hn O hc D v u;have E:i<m:=by refine cp λh=>M λj v=>?_;exact Cx j (by omega) (c.tail i j (by omega) HU (by omega))
 obtain⟨p,a9,Vv⟩:=(uR hp).2 i o (by simpa using ho);have I:jh pis i=p:=by simp[jh,aA,a9]
 have iu:TR (uz pis m listed) p:=I▸c.aqr hc E ZJ Cx;have s:∀x j,x<Y pis->j<Y pis->oT (listed.setIfInBounds i θ) x->tb bs x j=θ->oT (listed.setIfInBounds i θ) j:=by
  intro x j b v l u;rw[jA (by omega)]at l |-;rcases l with rfl|l;.exact .inr (Cx j v u)
  exact .inr (hc x j b v l u)
 have V:∀x,m<=x->x<Y pis->¬oT (listed.setIfInBounds i θ) x:=by
  intro x b a7 l;rw[jA (by omega)]at l;rcases l with rfl|l;.omega
  exact Cs x b a7 l
 have au:NR pis.length (listed.setIfInBounds i θ)<=g:=by have:=Wi HU (by omega:i<listed.size) ZJ;omega
 have af:∀x,x<m->(jh pis x).i.fD=θ->(∀j,j<Y pis->tb bs x j=θ->oT listed j)->Mm bs ls x<=k:=by
  intro x b hs ap;refine cp λeW=>?_;have h1:Mm bs ls x<=Y ls:=kW _ _;have H:k<Y ls:=by omega
  have N:=(c.QE x k ls[k] b hs (aD H)).2 (by omega);have h4:=ap ls[k] (by have:=(c.lsm _ (eJ H)).1;omega) N;have:=(W k ls[k] (aD H)).1 h4;omega
 simp only[wpOp,ho];by_cases hs:p.i.fD=θ;.
  have T:(jh pis i).i.fD=θ:=by rw[I];exact hs
  have hf:=xY i E T (af i E T Cx) ZJ;rw[I]at hf;refine aj3 Vv hS hF iu (X8 hf) ?_;intro r J' F a' w' k1 k2 R k4;simp only[St.mk.injEq]at k1;obtain⟨k1,rfl⟩:=k1;rw[k1]at R;have e:zK (uz pis m listed) p=uz pis m (listed.setIfInBounds i θ):=by rw[<- I];exact c.zK E (by omega)
  rw[e]at R;refine ih k _ fr J' w' F a' (by simpa using O) (λf hf=>(jA (by omega)).2 (.inr (yi f hf))) s V hk (λj L hL=>?_) (λx b U ZH BC=>xY x b U ZH λh=>BC ((jA (by omega)).2 (.inr h))) J3 au k2 R (S2.trans k4.Ua);rw[jA (by omega),W j L hL];have:L≠i:=λe=>by have:=(c.lsm L (aS hL)).2;rw[e,T]at this;simp at this
  simp[this]
 have T:(jh pis i).i.fD=G:=by rw[I];simpa using hs
 obtain⟨j,v⟩:=cm.1 ((c.SB i E T).resolve_right λh=>ZJ (yi i h));have av:j=k:=by
  have h1:¬j<k:=λh=>ZJ ((W j i v).2 h);refine cp λjw=>?_;have tY:=(ag.1 v).1;have vO:k<Y ls:=by omega
  have H:=c.agm k j i ls[k] (by omega) (aD vO) v;have N:=Cx ls[k] (by have:=(c.lsm _ (eJ vO)).1;omega) H;have:=(W k ls[k] (aD vO)).1 N;omega
 subst av;have tY:j<Y ls:=(ag.1 v).1;simp only[CE,v,I]at J3;refine opG Vv hS hF iu J3 ?_;intro r J' F a' w' k1 k2 R k4;obtain⟨a5,gQ⟩:=k1;obtain⟨fr',h1,H,N,h4⟩:=c.aja (k:=j+1) (by omega) gQ;have e:zK (uz pis m listed) p=uz pis m (listed.setIfInBounds i θ):=by rw[<- I];exact c.zK E (by omega)
 rw[e]at R;have oP:∀x∈tE pis bs m ls (j+1),¬oT (listed.setIfInBounds i θ) x:=by
  intro x b l;rw[ir]at b;rw[jA (by omega)]at l;rcases l with rfl|l;.rw[T]at b;simp at b
  have:=af x b.1 b.2.1 λy A u=>hc x y (by omega) A l u;omega
 have Kf:∀t y,y<m->(jh pis y).d=S t->oT (listed.setIfInBounds i θ) y->fr'[t]?=(iM fr p.d r)[t]?:=by intro t y A hd l;refine N t λx b a2=>oP x b ?_;rw[c.dst x y t (ir.1 b).1 A a2 hd];exact l
 have a4:Mb w' J' F fr' (uz pis m (listed.setIfInBounds i θ)) a':=by
  refine⟨R.1,by rw[h4];exact R.2.1,λt x b ch GK=>?_⟩;have a8:fr'[t]?=(iM fr p.d r)[t]?:=by
   rcases qy GK with⟨_,uN⟩|⟨y,A,hd,l,_⟩;.exact N t λx b=>uN x (ir.1 b).1
   exact Kf t y A hd l
  have Hr:chainB fr' ch=chainB (iM fr p.d r) ch:=by
   refine se λq hq=>?_;rcases qy GK with⟨rfl,_⟩|⟨y,A,hd,l,rfl⟩;.simp at hq
   obtain⟨z,hz,ba,aK⟩:=c.chain y q A hq;exact Kf q.1 z hz ba (s y z (by omega) (by omega) l aK)
  rw[Hr];rw[a8]at b;exact R.2.2 t x b ch GK
 refine ih (j+1) _ fr' J' w' F a' (by simpa using O) (λf hf=>(jA (by omega)).2 (.inr (yi f hf))) s V (by omega) (λy L hL=>?_) (λx b U ZH BC=>?_) h1 au k2 a4 (S2.trans k4.Ua)
 .rw[jA (by omega),W y L hL];constructor
  .rintro(rfl|h);.refine cp λjw=>?_;have h5:=c.agm j y L L (by omega) v hL;have:=c.lt E E h5;omega
   omega
  intro h;rcases jP y j with h5|h5;.exact .inr h5
  have:y=j:=by omega
  subst this;rw[hL]at v;simp only[ab]at v;exact .inl v
 by_cases a0:Mm bs ls x=j+1;.exact H x (ir.2 ⟨b,U,a0⟩)
 have X:Mm bs ls x<=j:=by omega
 have am:¬oT listed x:=λh=>BC ((jA (by omega)).2 (.inr h));have aE:¬tb bs i x=θ:=λh=>am (Cx x (by omega) h);have a3:Fact (jh pis x) (iM fr p.d r) J':=by
  by_cases hr:(jh pis x).i.reads=θ;.exact(a5 (jh pis x) (cv.2 ⟨x,by simp[aey,b,U,hr,X,aE],rfl⟩)).fact
  have a1:(jh pis x).i.reads=G:=by simpa using hr
  refine Fact.still (Fact.agree (xY x b U X am) (λt u=>?_) (λt u=>?_) vg) a1;.refine pd λhd=>?_;have h5:=c.xR b E (I▸hd) u;have:=(c.QE x j i b U v).1 h5;omega
  refine pd λhd=>?_;have:=c.dst x i t b E u (I▸hd);subst this;rw[U]at T;simp at T
 refine Fact.agree a3 (λt u=>?_) (λt u=>?_) h4;.refine N t λy A ac=>?_;rw[ir]at A;have:=c.mono x y t b U A.1 A.2.1 ac u;omega
 refine N t λy A ac=>?_;rw[ir]at A;have:=c.dst x y t b A.1 u ac;subst this;omega
end
variable(X:Array Oper)(U:List Pi)
def okX(bs:fb)(m:Nat)(ls fl:fb):Bool :=decide (m<=Y U) &&
 (((List.range X.size).all λi=>match X[i]? with
  |some o=>o.after.toList.all λe=>!Region.binds .any e||decide (e.on<i)
  |none=>θ) &&
 (((List.range (Y U)).all λi=>(List.range (Y U)).all λj=>!tb bs i j||(decide (j<i)&&match X[i]? with
  |some o=>o.after.toList.any λe=>Region.binds .any e&&(e.on==j||tb bs e.on j)
  |none=>G)) &&
 (((List.range (Y U)).all λi=>decide (i<m)||(List.range i).all λj=>tb bs i j) &&
 (((List.range m).all λi=>(List.range i).all λj=>match (jh U i).d with
  |none=>θ
  |some t=>(jh U j).d != S t) &&
 (((List.range m).all λi=>(jh U i).i.fD||(ls.contains i||fl.contains i)) &&
 ((ls.all λL=>decide (L<m)&&!(jh U L).i.fD) &&
 (((List.range (Y ls)).all λk=>(List.range k).all λj=>tb bs (ls.getD k 0) (ls.getD j 0)) &&
 (((List.range m).all λi=>!(jh U i).i.fD||(List.range (Y ls)).all λk=>tb bs i (ls.getD k 0)==decide (k<Mm bs ls i)) &&
 (((List.range m).all λi=>(jh U i).i.ur.all λs=>(List.range m).all λj=>(jh U j).d != S s.1||(tb bs i j&&(jh U j).g.isPrefixOf ((jh U i).g++s.2))) &&
 (((List.range m).all λi=>(jh U i).g.all λq=>(List.range m).any λj=>(jh U j).d==S q.1&&tb bs i j) &&
 (((List.range m).all λi=>match (jh U i).g.getLast? with
  |none=>θ
  |some q=>(List.range m).all λj=>(jh U j).d != S q.1||(jh U j).g==(jh U i).g.dropLast) &&
 ((List.range m).all λi=>!(jh U i).i.fD||(List.range m).all λj=>!(jh U j).i.fD||match (jh U j).d with|none=>θ|some t=>!(looks (jh U i)).contains t||decide (Mm bs ls j<=Mm bs ls i)))))))))))))
section
variable {P:bG} {ops:Array Oper} {pis:List Pi} {bs:fb} {m:Nat} {ls fl:fb}
theorem Qe{ls:fb}{k L:Nat}(h:ls[k]?=S L):ls.getD k 0=L:=by rw[aA,h];rfl
theorem acm(h:okX ops pis bs m ls fl=θ)(_hn:Y pis=ops.size):H2 ops pis bs m ls fl:=by
 simp only[okX,aZ,df,eU,bE]at h;obtain⟨P,I,K,R,O,U,N,H,J,E,Q,C,z⟩:=h;constructor;.exact P
 .intro i o u e B v;have:=I i (cY.1 u).1;rw[u]at this;simp only[df,iR,dG,bE]at this;rcases this e (Array.mem_toList_iff.2 B)with h|h;.rw[v]at h;simp at h
  exact h
 .intro i j a c A;have:=K i a j c;rw[A]at this;simp only[k7,ow,aZ,bE]at this;refine⟨this.1,?_⟩;have h:=this.2;split at h;.rename_i o u;simp only[dF,aZ,iR,ez]at h;obtain⟨e,B,v,D⟩:=h;exact⟨o,u,e,Array.mem_toList_iff.1 B,v,D⟩
  simp at h
 .intro i j T a c;have:=R i a;simp only[iR,bE,df,eU]at this;rcases this with h|h;.omega
  exact h j c
 .intro i j t a c r p;have n:∀i j,i<m->j<i->(jh pis i).d=S t->(jh pis j).d=S t->False:=by intro i j a c r p;have:=O i a j c;rw[r]at this;simp only[V8,gA]at this;exact this p
  rcases Nat.lt_trichotomy i j with h|h|h;.exact(n j i c h p r).elim
  .exact h
  exact(n i j a h r p).elim
 .intro i a f;have:=U i a;rw[f]at this;simpa using this
 .intro L g;have:=N L g;simpa using this
 .intro j k L V w y g;have:=H k (ag.1 g).1 j w;rwa [Qe g,Qe y]at this
 .intro i k L a f g;have:=J i a;rw[f]at this;simp only[k7,ow,df,eU,ez]at this;have:=this k (ag.1 g).1;rw[Qe g]at this;rw[this];simp
 .intro i s j a f c l;have:=E i a s f j c;simp only[iR,V8,gA,aZ]at this;rcases this with h|h;.exact absurd l h
  exact h
 .intro i q a F;have:=Q i a q F;simp only[dF,eU,aZ,ez]at this;obtain⟨j,c,h⟩:=this;exact⟨j,c,h⟩
 .intro i W t b j a M c l;have:=C i a;rw[M]at this;simp only[lJ,kg,pX,List.dropLast_concat,df,eU,iR,V8,gA,ez]at this;rcases this j c with h|h;.exact absurd l h
  exact h
 intro i j t a f c x l A;have:=z i a;rw[f]at this;simp only[k7,ow,df,eU]at this;have:=this j c;rw[x,l]at this;simp only[k7,ow,iR,dG,bE]at this;rcases this with h|h;.simp at h;exact absurd A h
 exact h
def mX(bs:fb):Nat->Nat|0=>0|i+1=>if bs.getD i 0==2^i - 1 then mX bs i else i+1
theorem DD{n B:Nat}{q:fb}{K:ck}{Q:Exit->Act->bQ->Prop}(u:wu P ops ops.toList=S pis)(I:okX ops pis bs m ls []=θ) (F:Lx (D0 pis m) (pis.drop m) q=θ) {fr:aB} {J:aj} {v w:bQ} {g:Mem} {a:Act} (h:zx P (K6 pis bs m ls 0 ls) ((tE pis bs m ls ls.length).map (jh pis)) (oC P q (pis.drop m) K) ⟨fr,J⟩) (T:l8 P B v w J g) (D:FR w J g fr a) (N:∀b w' c f,K b->l8 P B v w' b.J c->FR w' b.J c b.fr f->jI n w J g w' b.J c->Q .normal f w'):wpAny P .any ops Q ops.size (Array.replicate ops.size G) a { w with drawn:=w.drawn+1 }:=by
 have s:pis.length=ops.size:=by rw[(uR u).1,bf]
 have z:=acm I s;obtain⟨o,A⟩:=T.grown (w':={ w with drawn:=w.drawn+1 }) ⟨rfl,rfl,rfl,aM _,λ_ _ _=>rfl⟩;have d:=D.eY A.eY;obtain⟨fr',X,V,E,h4⟩:=z.aja (k:=0) (jK _) (by simpa using h);have l:∀i,¬oT (Array.replicate ops.size G) i:=by intro i;simp only[oT,cZ,FN];split<;>simp
 refine DX (n:=n) z u (λb w' c f U O W H=>N b w' c f U O W (jI.trans A.eY.Ua H)) F ops.size 0 _ fr' J _ g a (by simp) (by simp) (λi j _ _ e=>absurd e (l i)) (λi _ _=>l i) (jK _) (λj L hL=>⟨λe=>absurd e (l L),λh=>by omega⟩) (λi p C M _=>V i (ir.2 ⟨p,C,by omega⟩)) X (by rw[s];unfold NR;exact cE (kW _ _) (by simp)) o ?_ (jI.refl _ _ _ _);refine⟨d.1,by rw[h4];exact d.2.1,λt x r ch R=>?_⟩;rcases qy R with⟨rfl,uN⟩|⟨y,hy,hd,e,_⟩;.rw[E t λi p=>uN i (ir.1 p).1]at r;exact⟨λ_=>d.2.2 t x r,λh=>by simp[chainB]at h⟩
 exact absurd e (l y)
theorem Ru{id n B:Nat}{g:fb}{K:ck}{Q:Exit->Act->bQ->Prop}(q:P.follows .mixedOrders=θ)(r:wu P ops ops.toList=S pis)(k:okX ops pis bs m ls []=θ) (p:Lx (D0 pis m) (pis.drop m) g=θ) {fr:aB} {J:aj} {f w:bQ} {e:Mem} {a:Act} (h:zx P (K6 pis bs m ls 0 ls) ((tE pis bs m ls (Y ls)).map (jh pis)) (oC P g (pis.drop m) K) ⟨fr,J⟩) (j:l8 P B f w J e) (l:FR w J e fr a) (o:∀b d c i,K b->l8 P B f d b.J c->FR d b.J c b.fr i->jI n w J e d b.J c->Q .normal i d):(Code.region id ops θ).wp P Q a w :=wp_region_any q (DD r k p h j l o)
end
variable(X:Array Oper)(i:Nat)(j:Nat){T:Array Oper}
def P8(o:Oper)(j:Nat):Oper:={ o with after:=o.after.push { on:=j,ground:=.data } }
def waitsFor:Array Oper:=X.mapIdx λk o=>if k=i then P8 o j else o
theorem nH:(waitsFor X i j).size=X.size:=by simp[waitsFor]
theorem yn(k:Nat):(waitsFor X i j)[k]?=(X[k]?).map λo=>if k=i then P8 o j else o:=by simp[waitsFor]
theorem mu{e:Region.Mode}{listed:Array Bool}{i j x:Nat}:x∈Region.ready e (waitsFor T i j) listed<->x∈Region.ready e T listed/\(x=i->listed.getD j G=θ):=by
 simp only[Region.ready,eB,eU,nH,yn];rw[and_assoc];refine and_congr_right λh=>?_;have g:T[x]?=S T[x]:=cq h;simp only[g,dV,pY];by_cases a:x=i
 .subst a;have f:Region.binds e { on:=j,ground:=Ground.data }=θ:=rfl;simp only[aU,P8,Array.all_push,f,k7,ow,aZ,forall_const];constructor;.rintro⟨c,d,b⟩;exact⟨⟨c,d⟩,b⟩
  rintro⟨⟨c,d⟩,b⟩;exact⟨c,d,b⟩
 simp only[a,bw,cA,cK]
theorem Lb(a:Array Value):yielded (waitsFor X i j) a=yielded X a:=by funext k;simp only[yielded,yn];cases X[k]? with|none=>rfl|some o =>simp only[dV,kz];by_cases h:k=i<;>simp[h,P8]
section
variable {P:bG} {Q:Exit->Act->bQ->Prop}
theorem ym{ops:Array Oper}{i j x:Nat}{K:Act->bQ->Prop}{a:Act}{w:bQ}:wpOp P (waitsFor ops i j) Q x K a w<->wpOp P ops Q x K a w:=by
 simp only[wpOp,yn,Lb];cases ops[x]? with
 |none=>exact QK
 |some o =>
 simp only[dV];by_cases h:x=i;.simp only[h,aU];exact QK
 simp only[h,bw]
def wE:Op->Bool
 |.move _|.assign _|.alloc _|.box _ _|.load _ _|.store _ _ _|.fieldAddr _ _ _=>θ
 |_=>G
theorem Um{s:Sem Value}{w c:bQ}{n:Next}(h:(do pure (Next.value (<- s)):Sem Next).run P w=.ok n c):∃v,n=.value v:=by
 rw[Sem.run_bind]at h;cases a:s.run P w with
 |ok v b =>
  rw[a]at h;simp only[Result.andThen_ok,Sem.run_pure,Result.ok.injEq]at h;exact⟨v,h.1.symm⟩
 |halt x b=>rw[a]at h;simp[Result.andThen]at h
theorem YB{s:Sem Unit}{w c:bQ}{n:Next}(h:(do s;pure Next.skip:Sem Next).run P w=.ok n c):n=.skip:=by
 rw[Sem.run_bind]at h;cases a:s.run P w with
 |ok v b =>
  rw[a]at h;simp only[Result.andThen_ok,Sem.run_pure,Result.ok.injEq]at h;exact h.1.symm
 |halt x b=>rw[a]at h;simp[Result.andThen]at h
theorem VF{o:Oper}{e:Operand->Value}{w c:bQ}{n:Next}(a:wE o.op=θ)(h:(execOp e o).run P w=.ok n c):(∃v,n=.value v)\/n=.skip:=by
 obtain⟨d,b,t,p,f,g⟩:=o;simp only at a;cases b<;>simp only[wE,aP]at a;all_goals simp only[execOp]at h
 all_goals first
  |exact .inl (Um h)
  |exact .inr (YB h)
  |(simp only[Sem.run_pure,Result.ok.injEq]at h;exact .inl ⟨_,h.1.symm⟩)
theorem ajE{o:Oper}(f:wE o.op=θ){a:Act}{w:bQ}{d c:Act->bQ->Prop}(h1:o.wp P a w d Q)(b:o.wp P a w c Q):o.wp P a w (λa w=>d a w/\c a w) Q:=by
 unfold Oper.wp at *;generalize g:(execOp a.eval o).run P w=r at *;cases r with
 |ok n e =>
  rcases VF f g with⟨v,rfl⟩|rfl;.exact⟨h1,b⟩
  exact⟨h1,b⟩
 |halt x e=>cases x<;>simp only[Oper.upon]at h1 b |-<;>exact h1
theorem aaZ{ops:Array Oper}{x:Nat}(g:∀o,ops[x]?=S o->wE o.op=θ){e f:Act->bQ->Prop}{a:Act}{w:bQ}(h1:wpOp P ops Q x e a w)(b:wpOp P ops Q x f a w): wpOp P ops Q x (λa w=>e a w/\f a w) a w:=by
 unfold wpOp at *;cases c:ops[x]? with
 |none=>simp only[c]at h1 b |-;exact⟨h1,b⟩
 |some o =>
 simp only[c]at h1 b |-;split
 .rename_i d;simp only[d,aU]at h1 b;rcases h1 with h1|h1
  .rcases b with b|b;.exact .inl (ajE (g o c) h1 b)
   exact .inr b
  exact .inr h1
 rename_i d;simp only[d]at h1 b;exact⟨h1,b⟩
theorem zg{f:Region.Mode}{ops:Array Oper}{i j:Nat}:∀(b:Nat) (listed:Array Bool) (a:Act) (w:bQ),listed.getD j G=θ->wpAny P f (waitsFor ops i j) Q b listed a w->wpAny P f ops Q b listed a w:=by
 intro b;induction b with
 |zero =>intro listed a w c h;refine⟨?_,h.2⟩;refine dM.2 λx e=>?_;exact dM.1 h.1 x (mu.2 ⟨e,λ_=>c⟩)
 |succ b ih =>
 intro listed a w c h;refine⟨λl=>h.1 (dM.2 λx e=>dM.1 l x (mu.1 e).1),λx e=>?_⟩;have:=h.2 x (mu.2 ⟨e,λ_=>c⟩);rw[ym]at this;refine wpOp_mono (λa w g=>ih _ a w ?_ g) this;simp only[cZ]at c |-;by_cases d:x=j
 .subst d;by_cases k:x<listed.size;.simp[Be,k]
  rw[xq (by omega)]at c;simp at c
 rw[gP d];exact c
theorem QO{n:Region.Mode}{ops:Array Oper}{i j:Nat}(r:i≠j)(t:∀x o,x≠i->x≠j->ops[x]?=S o->wE o.op=θ): ∀(b:Nat) (listed:Array Bool) (a:Act) (w:bQ),listed.size=ops.size->i<ops.size->j<ops.size->wpAny P n (waitsFor ops i j) Q b listed a w->wpAny P n (waitsFor ops j i) Q b listed a w->wpAny P n ops Q b listed a w:=by
 intro b;induction b with
 |zero =>
  intro listed a w k l p f h;refine⟨?_,f.2⟩;refine dM.2 λx c=>?_;by_cases d:x=i;.exact dM.1 h.1 x (mu.2 ⟨c,λe=>absurd (d.symm.trans e) r⟩)
  exact dM.1 f.1 x (mu.2 ⟨c,λe=>absurd e d⟩)
 |succ b ih =>
 intro listed a w k l p f h;refine⟨λv=>f.1 (dM.2 λx c=>dM.1 v x (mu.1 c).1),λx c=>?_⟩;by_cases d:x=i;.have:=h.2 x (mu.2 ⟨c,λe=>absurd (d.symm.trans e) r⟩);rw[ym]at this;refine wpOp_mono (λa w g=>zg b _ a w ?_ g) this;subst d;simp[cZ,Be,k,l]
 by_cases m:x=j;.have:=f.2 x (mu.2 ⟨c,λe=>absurd e d⟩);rw[ym]at this;refine wpOp_mono (λa w g=>zg b _ a w ?_ g) this;subst m;simp[cZ,Be,k,p]
 have q:=f.2 x (mu.2 ⟨c,λe=>absurd e d⟩);have s:=h.2 x (mu.2 ⟨c,λe=>absurd e m⟩);rw[ym]at q s;refine wpOp_mono (λa w g=>ih _ a w (by simp[k]) l p g.1 g.2) (aaZ (λo u=>t x o d m u) q s)
end
variable(U:Array Oper)(i:Nat)(j:Nat){X:Array Oper}{R T:Nat}
def sw(k:Nat):Nat:=if k=i then j else if k=j then i else k
theorem Ie(k:Nat):sw i j (sw i j k)=k:=by simp only[sw];(repeat' split)<;>omega
theorem Mk{i j k n:Nat}(a:i<n)(b:j<n):sw i j k<n<->k<n:=by simp only[sw];(repeat' split)<;>omega
def Rt(o:Oper):Oper:={ o with after:=o.after.map λe=>{ e with on:=sw i j e.on },guard:=o.guard.map λg=>(sw i j g.1,g.2) }
def wv:Array Oper:=U.mapIdx λk o=>Rt i j ((U[sw i j k]?).getD o)
theorem Ig:(wv U i j).size=U.size:=by simp[wv]
theorem EX(d:R<X.size)(c:T<X.size)(k:Nat):(wv X R T)[k]?=(X[sw R T k]?).map (Rt R T):=by
 simp only[wv,Me];by_cases a:k<X.size;.have b:=(Mk (k:=k) d c).2 a;simp[cq a,cq b]
 have b:¬sw R T k<X.size:=λh=>a ((Mk d c).1 h);rw[xq (by omega),xq (by omega)];rfl
theorem aeG(a:Region.Mode)(e:Edge)(n:Nat):Region.binds a { e with on:=n }=Region.binds a e:=rfl
theorem IF{f:Region.Mode}{listed a:Array Bool}(b:R<X.size)(c:T<X.size)(e:∀k d,a.getD k d=listed.getD (sw R T k) d){x:Nat}:
  x∈Region.ready f (wv X R T) a<->sw R T x∈Region.ready f X listed:=by simp only[Region.ready,eB,eU,Ig,EX b c,Mk b c,e];refine and_congr_right λh=>?_;have g:=(Mk (k:=x) b c).2 h;simp only[cq g,dV,pY,Rt,Array.all_map,Function.comp_def,aeG,e,Ie]
theorem T0(c:R<X.size)(b:T<X.size)(a:Array Value)(k:Nat):yielded (wv X R T) a (sw R T k)=yielded X a k:=by simp only[yielded,EX c b,Ie];cases X[k]?<;>rfl
section
variable {P:bG} {Q:Exit->Act->bQ->Prop}
theorem afn{ops:Array Oper}{i j x:Nat}(b:i<ops.size)(c:j<ops.size){K:Act->bQ->Prop}{a:Act}{w:bQ}:wpOp P (wv ops i j) Q x K a w<->wpOp P ops Q (sw i j x) K a w:=by
 simp only[wpOp,EX b c];cases ops[sw i j x]? with
 |none=>exact QK
 |some o =>
 simp only[dV];have e:Region.wanted (Rt i j o) (yielded (wv ops i j) a.tmps)=Region.wanted o (yielded ops a.tmps):=by obtain⟨d,f,t,p,h,g⟩:=o;cases g with|none=>rfl|some g=>simp only[Region.wanted,Rt,dV,T0 b c]
 rw[e];exact QK
theorem aa0{r:Region.Mode}{ops:Array Oper}{i j:Nat}(l:i<ops.size)(n:j<ops.size):∀(c:Nat) (listed b:Array Bool) (a:Act) (w:bQ),listed.size=ops.size->b.size=ops.size->(∀k d,b.getD k d=listed.getD (sw i j k) d) ->wpAny P r (wv ops i j) Q c b a w->wpAny P r ops Q c listed a w:=by
 intro c;induction c with
 |zero =>intro listed b a w q g o h;refine⟨?_,h.2⟩;refine dM.2 λx f=>?_;exact dM.1 h.1 (sw i j x) ((IF l n o).2 (by rw[Ie];exact f))
 |succ c ih =>
 intro listed b a w q g o h;refine⟨λt=>h.1 (dM.2 λx f=>dM.1 t _ ((IF l n o).1 f)),λx f=>?_⟩;have:=h.2 (sw i j x) ((IF l n o).2 (by rw[Ie];exact f));rw[afn l n,Ie]at this;have s:x<ops.size:=by simp only[Region.ready,eB,eU]at f;exact f.1
 refine wpOp_mono (λa w m=>ih _ _ a w (by simp[q]) (by simp[g]) (λk d=>?_) m) this;have p:=o k d;simp only[cZ]at p |-;have v:=(Mk (k:=x) l n).2 s;by_cases m:sw i j x=k;.subst m;rw[Ie,NO (by omega),NO (by omega)]
 have u:x≠sw i j k:=λe=>m (by rw[e,Ie]);rw[gP m,gP u];exact p
theorem Od{ops:Array Oper}{id i j:Nat}{a:Act}{w:bQ}(f:P.follows .mixedOrders=θ)(e:i≠j)(b:i<ops.size)(c:j<ops.size)(h:∀x o,x≠i->x≠j->ops[x]?=S o->wE o.op=θ) (h1:wpAny P .any (waitsFor ops j i) Q ops.size (Array.replicate ops.size G) a { w with drawn:=w.drawn+1 }) (g:wpAny P .any (wv (waitsFor ops i j) i j) Q ops.size (Array.replicate ops.size G) a { w with drawn:=w.drawn+1 }):(Code.region id ops θ).wp P Q a w:=by refine wp_region_any f (QO e h _ _ _ _ (by simp) b c ?_ h1);refine aa0 (by rw[nH];exact b) (by rw[nH];exact c) _ _ _ _ _ (by simp[nH]) (by simp[nH]) (λk d=>?_) g;simp only[cZ,FN,Mk b c]
end
def Le(J J':aj):Prop:=∀(id:Nat) (o:Ob),J[id]?=S o->o=Ob.dead\/J'[id]?=S o
section
variable {J J':aj} (h:Le J J')
include h
theorem Le.box{id T:Nat}{cs:aB}(e:J[id]?=S (.box T cs)):J'[id]?=S (.box T cs):=(h id _ e).resolve_left (by simp)
theorem Le.row{id E sz by' g:Nat}{sh:Bool}{xs:fx}(e:J[id]?=S (.row E sz by' g sh xs)):J'[id]?=S (.row E sz by' g sh xs):=(h id _ e).resolve_left (by simp)
theorem Le.map{id K E:Nat}{a:List (V×V)}(e:J[id]?=S (.map K E a)):J'[id]?=S (.map K E a):=(h id _ e).resolve_left (by simp)
theorem ND{x:V}(a:kZ J x=θ):kZ J' x=θ:=by
 unfold kZ at a |-;repeat' split at a
 all_goals first|(simp at a;done)|skip
 all_goals first|(rename_i e;simp only[h.row e];exact a)|rfl
theorem Jv{x:V}(a:lf J x=θ):lf J' x=θ:=by
 unfold lf at a |-;split at a;.rw[df]at a |-;exact λy b=>ND h (a y b)
 exact ND h a
theorem YI{b:Nat}{x:V}{r:fx}(a:rowsOf J b x=S r):rowsOf J' b x=S r:=by unfold rowsOf at a |-;split at a<;>(try exact a)<;>split at a<;>(try (simp at a;done));all_goals (rename_i e;simp only[h.row e];exact a)
theorem U4{b:Nat}{m k:V}{r:Option (Nat×V)}(a:lH J b m k=S r):lH J' b m k=S r:=by unfold lH at a |-;split at a<;>(try exact a);split at a<;>(try (simp at a;done));rename_i e;simp only[h.map e];exact a
theorem ab8{fr:aB}{i:I}{d:Prop}{r:V}(b:ct fr J i=S (d,r))(c:d):∃j,ct fr J' i=S (j,r)/\j:=by
 cases i;case build zs parts =>simp only[ct]at b |-;split at b<;>simp only[ab,bm,reduceCtorEq]at b;obtain⟨rfl,rfl⟩:=b;rename_i e;exact⟨_,by simp only[e],λp s=>Jv h (c p s)⟩
 case gM sz szs xs =>simp only[ct,ab,bm]at b |-;obtain⟨rfl,rfl⟩:=b;exact⟨_,⟨rfl,rfl⟩,λx f=>Jv h (c.1 x f),c.2⟩
 case load k a =>
  simp only[ct]at b |-;split at b;.split at b<;>(try (simp at b;done));rename_i e;simp only[h.box e];exact⟨d,b,c⟩
  .exact⟨d,b,c⟩
  .split at b<;>(try (simp at b;done));rename_i e;simp only[h.row e];exact⟨d,b,c⟩
  simp at b
 case Cn x =>simp only[ct]at b |-;split at b<;>(try exact⟨d,b,c⟩);split at b<;>(try (simp at b;done));rename_i e;simp only[h.row e];exact⟨d,b,c⟩
 case tU off x =>simp only[ct]at b |-;split at b<;>(try exact⟨d,b,c⟩);split at b<;>(try (simp at b;done));rename_i e;simp only[h.row e];exact⟨d,b,c⟩
 case b2s x =>simp only[ct]at b |-;split at b<;>(try (simp at b;done));rename_i e;simp only[YI h e];exact⟨d,b,c⟩
 case look kd z ok m k =>simp only[ct]at b |-;split at b<;>(try (simp at b;done));all_goals (rename_i e;simp only[U4 h e];exact⟨d,b,c⟩)
 case LD x =>simp only[ct]at b |-;split at b<;>(try exact⟨d,b,c⟩);split at b<;>(try (simp at b;done));rename_i e;simp only[h.map e];exact⟨d,b,c⟩
 case len str x =>
  cases str
  .simp only[ct]at b |-;split at b<;>(try exact⟨d,b,c⟩);all_goals
    split at b<;>(try (simp at b;done));rename_i e;simp only[h.row e];exact⟨d,b,c⟩
  exact⟨d,b,c⟩
 case idx sz x i =>
  simp only[ct]at b |-;split at b<;>(try (simp at b;done));split at b<;>(try exact⟨d,b,c⟩);all_goals
   split at b<;>(try (simp at b;done));rename_i e;simp only[h.row e];exact⟨d,b,c⟩
 case slice sz x lo hi =>
  by_cases f:∃id g,ev fr x=.own id g
  .obtain⟨id,g,f⟩:=f;simp only[ct,f]at b |-;cases l:J[id]? with
   |none=>simp[l]at b
   |some o =>
   rcases h id o l with rfl|q;.simp[l]at b
   rw[l]at b;rw[q];exact⟨d,b,c⟩
  have e:ct fr J' (.slice sz x lo hi)=ct fr J (.slice sz x lo hi):=by simp only[ct];cases n:ev fr x<;>first|rfl|(exact absurd ⟨_,_,n⟩ f)
  rw[e];exact⟨d,b,c⟩
 all_goals exact⟨d,b,c⟩
end
variable{B:Nat}{p:Pi}{T:aB}{N:aj}{R:bG}
theorem Fact.le{J':aj}(f:Fact p T N)(h:Le N J'):Fact p T J':=by obtain⟨c,d,r,g,a⟩:=f;exact⟨c,d,r,g,λe=>by obtain⟨j,b,i⟩:=a e;exact ab8 h b i⟩
theorem ael{l w:bQ}{g:Mem}(m:l8 R B l w N g){id:Nat}(c:N[id]?=S .dead)(T:Nat)(e:aB)(d:Array Value)(h:CR w N g e d): ∃μ',l8 R B l (w.alloc (.cells d T)) (N.set id (.box T e)) μ'/\VR (w.alloc (.cells d T)) (N.set id (.box T e)) μ' (.ptr id 0) (.pointer (S ⟨w.heap.size,0,Z⟩))/\uo w N g (w.alloc (.cells d T)) (N.set id (.box T e)) μ':=by
 have u:id<Y N:=(ag.1 c).1;have i:(N.set id (.box T e))[id]?=S (.box T e):=aT u;have p:=m.update (w':=w.alloc (.cells d T)) (J':=N.set id (.box T e)) (μ':=Bh g id (.pointer (S ⟨w.heap.size,0,Z⟩))) id Z (World.grownBy_alloc w _ Z) (by simp) (by simp)
  (λj f=>bN (EM f)) (λj f=>xw g _ _ j f) (λb k=>by rw[iy]at k;simp only[nQ,ab]at k;exact .inr (by omega))
  (λb r v o a t=>by rw[c]at a;simp only[ab]at a;exact absurd a.symm t)
  (λF q a=>by rw[c]at a;simp at a) (λK E A a=>by rw[c]at a;simp at a)
  (λE z s H C D _ a=>by rw[i]at a;simp at a)
  (λy o a=>by
   rw[i]at a;simp only[ab]at a;subst a;rw[iy];refine⟨w.heap.size,d,rfl,m.base,heap_alloc_new w _,h.1.symm,λj x n=>?_⟩;have f:j<d.size:=by rw[<- h.1];exact(ag.1 n).1
   exact⟨d[j],cq f,by have:=(h.2 j x n).mono y;simpa[f]using this⟩);exact⟨_,p.1,.ptr _ 0 _ ⟨T,e,i⟩ (iy _ _ _),p.2⟩
theorem V3{ops:Array Oper}{o:Oper}{d:Nat}{zs:aB}(u:cPi R ops o=S p)(H:p=⟨S B,[],.alloc d zs⟩){m:Nat->Option (gd)}{e:Nat}{O w:bQ}{J:aj}{μ:Mem}{a:Act} (W:l8 R e O w J μ) (hF:Mb w J μ T m a) (P:TR m p) {id:Nat} (E:J[id]?=S .dead) {f:Act->bQ->Prop} {Q:Exit->Act->bQ->Prop} (U:∀k L A,l8 R e O A (J.set id (.box d zs)) k->Mb A (J.set id (.box d zs)) k (iM T (S B) (.ptr id 0)) (zK m p) L->uS w J μ A (J.set id (.box d zs)) k->f L A) : if Region.wanted o (yielded ops a.tmps)then o.wp R a w f Q\/(o.asks R a w/\LetsOut Q)else f (a.put o.dst undef) w:=by
 unfold cPi at u;split at u<;>simp only[ab,reduceCtorEq]at u;rename_i g s;rw[H]at u;simp only[Pi.mk.injEq]at u;obtain⟨hd,rfl,q⟩:=u;have hw:Region.wanted o (yielded ops a.tmps)=θ:=by cases y:o.guard with|none=>simp[Region.wanted,y]|some jb =>obtain⟨j,b⟩:=jb;rw[y]at s;simp only[Ez]at s;split at s<;>(try simp only[reduceCtorEq]at s);split at s<;>simp at s
 rw[aQ hw];refine .inl ?_;have i:compile R o=S (.alloc d zs):=by cases M:compile R o with|none=>rw[M]at q;simp at q|some j=>rw[M]at q;simp only[pY]at q;rw[q]
 have jU:∃t z,o.op=.alloc d/\R.info? d=S t/\t.zero=S z/\nC z.cells.toList=S zs:=by
  cases l:o.op;case alloc T' =>simp only[compile,l]at i;split at i<;>(try simp only[reduceCtorEq]at i);rename_i t F;split at i<;>(try simp only[reduceCtorEq]at i);rename_i z C;simp only[aL,I.alloc.injEq]at i;obtain⟨V,D,rfl,rfl⟩:=i;exact⟨t,z,rfl,F,C,D⟩
  case call c =>exfalso;simp only[compile,l,ri]at i;revert i;(repeat' split)<;>simp
  case makeFunc fn first caps =>exfalso;cases fn<;>simp only[compile,l,reduceCtorEq]at i;revert i;split<;>simp
  case makeMap T' n =>exfalso;cases n<;>simp only[compile,l,reduceCtorEq]at i;revert i;split<;>simp
  case slice T' x lo q mx =>exfalso;cases mx<;>simp only[compile,l,reduceCtorEq]at i;revert i;(repeat' split)<;>simp
  all_goals
   exfalso;simp only[compile,l]at i;revert i;(try (repeat' split))<;>simp;all_goals (intro x _;split<;>simp)
 obtain⟨t,z,l,F,C,D⟩:=jU;have gQ:(execOp a.eval o).run R w=.ok (.value (.pointer (S ⟨w.heap.size,0,Z⟩))) (w.alloc (.cells z.cells d)):=by simp[execOp,l,Instr.alloc,zeroValue,typeInfo,F,C,newVar,newRow]
 obtain⟨k,h1,X,N⟩:=ael W E d _ _ (qJ (w:=w) (J:=J) (μ:=μ) D);unfold Oper.wp;rw[gQ];simp only[Oper.upon];rw[H]at P;have K:o.dst=S B:=hd;rw[K];have:=hF.Bh (v:=.pointer (S ⟨w.heap.size,0,Z⟩)) (r:=.ptr id 0) P N.eY (λ_ _ _ _=>X) (λh=>by simp[chainB]at h);rw[H]at U;exact U k _ _ h1 this N.eY
end Go.Pm

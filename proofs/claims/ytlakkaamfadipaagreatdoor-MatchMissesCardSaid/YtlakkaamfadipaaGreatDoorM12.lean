/- A part of a proof; the claim's last text says of what. -/
import Derived.Orders
import Derived.Test.YtlakkaamfadipaaGreatDoorM11
set_option linter.all false
open Option renaming some->N,none->Y
open Bool renaming true->A,false->Z
open List renaming length->F

namespace Go.Pm
open Go Go.RowKit
variable(f:Nat)(T:aM)(x:Nat){a:Act}{U:Mem}{B H:Nat}{X:Oper}{R:St}{E:V}{w:aT}{K:ag}{G:bk}{M:cy}
structure Pi where
 d:bP
 g:dF
 i:I
def zm:Pi:=⟨N f,[],.aV (.t x)⟩
def zl:Pi:=⟨N f,[],.load Y (.t x)⟩
def zL(a:Nat):Pi:=⟨N f,[],.load (N x) (.t a)⟩
def zf(a:Nat):Pi:=⟨N f,[],.fV x (.t a)⟩
def z(d:Nat)(i:I):Pi:=⟨N d,[],i⟩
def zs(i:I):Pi:=⟨Y,[],i⟩
def xk(ops:Array Oper):Nat->Option (Nat×Bool)->Option (dF)
 |_,Y=>N []
 |0,N _=>Y
 |f+1,N (j,b)=>match ops[j]? with
  |some o=>match o.dst,xk ops f o.guard with
   |some t,N a=>N (a++[(t,b)])
   |_,_=>Y
  |none=>Y
def cPi(ops:Array Oper)(o:Oper):Option Pi :=
 match xk ops 8 o.guard with|some g=>N ⟨o.dst,g,(compile T o).getD .stop⟩|none=>Y
def rP(P:aM)(ops:Array Oper):List Oper->Option (List Pi)
 |[]=>N []
 |o::os=>match cPi P ops o,rP P ops os with
  |some p,N a=>N (p::a)
  |_,_=>Y
def ek(fr:ao):bP->V->ao|none,_=>fr|some n,v=>fr.set n v
def Iz(f:Nat):Bool:=match T.funcs[f]? with|some a=>a.body.isSome&&a.name != "runtime.NumGoroutine"|none=>Z
def jO(p:Pi)(K:bk)(a:St):Prop :=
 match p.i with
 |.call f args=>PC T f (args.map (ev a.fr)) a.J (λr c=>K ⟨ek a.fr p.d r,c⟩)
 |.l6 x args=>match ev a.fr x with
  |.fn f caps=>Iz T f=A/\PC T f (args.map (ev a.fr)++caps) a.J (λr c=>K ⟨ek a.fr p.d r,c⟩)
  |_=>False
 |.next x=>match BH a.J (ev a.fr x)with
  |some (j,m,E,n,e)=>(e=[]->K ⟨ek a.fr p.d (.gy [.b Z]),a.J⟩)/\∀q∈e,K ⟨ek a.fr p.d (.gy [.b A,.u,.u]),a.J.set j (.iter Z m E n (e.filter λi=>i != q) (N q))⟩
  |none=>False
 |i=>match ba a.fr a.J i with
  |some (g,v)=>g/\K ⟨ek a.fr p.d v,a.J⟩
  |none=>match cc a.fr a.J i with
   |some (g,v,c)=>g/\K ⟨ek a.fr p.d v,c⟩
   |none=>False
def FR.put{fr:ao}(h:FR w K U fr a)(d:bP){v:Value}(e:VR w K U E v):FR w K U (ek fr d E) (a.put d v):=by
 cases d with
 |none=>exact h
 |some n =>
 obtain⟨j,g,k⟩:=h;refine⟨j,by simp[Act.put,ek,g],λi y b=>?_⟩;simp only[ek]at b;simp only[Act.put];by_cases c:n=i
 .subst c;by_cases f:n<F fr
  .rw[aw f]at b;simp only[aa]at b;subst b;have:n<a.tmps.size:=by omega
   simpa[this]using e
  rw[bK (by simp;omega)]at b;simp at b
 rw[aN c]at b;have:=k i y b;simp only[bJ,cT c]at this |-;exact this
def LV{P:aM}{a:Act}{w:aT}{args:Array Operand}{e:Array TypeId}{b:Func}(d:X.op=.call { callee:=.value (.func B),args,argTypes:=e })(c:P.funcs[B]?=N b)(j:b.body.isSome=A)(h:b.name ≠ "runtime.NumGoroutine") : (execOp a.eval X).run P w=.ok (.enter B (args.map a.eval)) w:=by
 have g:(b.name == "runtime.NumGoroutine")=Z:=by simpa using h
 have f:b.body.isNone=Z:=by cases i:b.body<;>simp_all
 simp only[execOp,d,resolve,Act.eval,Deferred.ofValue,invoke,callFunc,Sem.run_bind,Sem.run_pure,Result.andThen_ok,run_program,c,g,f,aI,aQ,L9,Ma]
def JC{P:aM}{a:Act}{w:aT}{args:Array Operand}{h:Array TypeId}{c:Array Value}(f:X.op=.call { callee:=.value (.tmp B),args,argTypes:=h })(j:a.tmps.getD B undef=.func (.func H) #[] c)(b:Iz P H=A): (execOp a.eval X).run P w=.ok (.enter H (args.map a.eval++c)) w:=by
 unfold Iz at b;split at b
 .rename_i d e;simp only[aP,nq,fJ]at b;have k:(d.name == "runtime.NumGoroutine")=Z:=by simpa using b.2
  have i:d.body.isNone=Z:=by cases l:d.body<;>simp_all
  have g:a.eval (.tmp B)=.func (.func H) #[] c:=j;simp only[execOp,f,resolve,g,Deferred.ofValue,invoke,callFunc,Sem.run_bind,Sem.run_pure,Result.andThen_ok,run_program,e,k,i,aI,aQ,L9]
 simp at b
def KY{b n:Nat}(h:BH K E=N (B,H,b,n,M)):E=.it B/\∃c a d,K[B]?=N (.iter Z H b n M c)/\K[H]?=N (.map a b d)/\F d=n:=by
 unfold BH at h;split at h
 .rename_i j;split at h
  .rename_i o l k f c e;split at h
   .rename_i a m d g;split at h;.rename_i i;obtain⟨rfl,rfl⟩:=i;simp only[aa,aB]at h;obtain⟨rfl,rfl,rfl,rfl,rfl⟩:=h;exact⟨rfl,c,a,d,e,g,rfl⟩
    simp at h
   simp at h
  simp at h
 simp at h
def KX{P:aM}{d:bP}{f:aT}{x0:Operand}{x:O}(fc:X.op=.next x0 Z)(hx:cO x0=N x)(hd:X.dst=d){m E n:Nat}(hn:BH R.J (ev R.fr x)=N (H,m,E,n,M)) (h:(M=[]->G ⟨ek R.fr d (.gy [.b Z]),R.J⟩)/\∀q∈M,G ⟨ek R.fr d (.gy [.b A,.u,.u]),R.J.set H (.iter Z m E n (M.filter λi=>i != q) (N q))⟩) (hS:gU P B w f R.J U) (hF:FR f R.J U R.fr a) {Q:Exit->Act->aT->Prop} : X.wp P a f (λa' w'=>∃o μ',G o/\gU P B w w' o.J μ'/\FR w' o.J μ' o.fr a'/\nM f R.J U w' o.J μ'/\(∃v,a'=a.put X.dst v)/\∃r,o.fr=ek R.fr d r) Q:=by
 obtain⟨h0,h3⟩:=h;obtain⟨a2,c,K0,es,C,L,z⟩:=KY hn;have h1:=dp hF hx;rw[a2]at h1;obtain⟨r,T,since,j,q1,q2,q3,q4,q5,K3,E3,bt,g,clock,q6,V,q8,q9⟩:=hS.obj _ _ C;rw[L]at q6;simp only[aa,Ob.map.injEq]at q6;obtain⟨rfl,rfl,rfl⟩:=q6;obtain⟨a3,I,a5⟩:=(q9 rfl).2 z;subst a3;obtain⟨r',am,af,D,_,hh,hR⟩:=hS.obj _ _ L;rw[q4]at D;simp only[Value.map.injEq,aa]at D;subst D;rw[V]at hh;simp only[aa,Obj.map.injEq]at hh;obtain⟨rfl,rfl⟩:=hh;have Sq:a.eval x0=.pointer (N ⟨r,0,Y⟩):=h1.Lc.1.trans q1;have dA:=run_next_at (P:=P) f X.type r T clock clock j g clock q3 V (λy l=>by obtain⟨i,s⟩:=eC.1 l;exact hR.2.2.1 i y (by simpa using s)) (ax _);have lz:H<R.J.length:=(ab.1 C).1;have nS:r<f.heap.size:=(bh.1 q3).1;have aE:m≠H:=by rintro rfl;rw[C]at L;simp at L
 have aV:T≠r:=by rintro rfl;rw[q3]at V;simp at V
 unfold Oper.wp;rcases dA with⟨hz,dA⟩|⟨e,he,w1,Nh,dA⟩
 .have mD:M=[]:=by
   cases M with
   |nil=>rfl
   |cons p M =>
   exfalso;have hp:=q5 p (by simp);have ac:p<g.size:=by rw[hR.1,z];exact hp
   have:=(I p g[p] (bD ac)).2 (by simp);have pr:g[p]∈leftOf g j:=by simp only[leftOf,Array.mem_filter];exact⟨Array.getElem_mem ac,by rw[this];rfl⟩
   have gn:leftOf g j=#[]:=rW hz;rw[gn]at pr;simp at pr
  have th:(execOp a.eval X).run P f=.ok (.value (.tuple #[.bool Z])) f:=by simp[execOp,fc,Sq,dA]
  rw[th];simp only[Oper.upon];refine⟨_,U,h0 mD,hS,?_,nM.refl _ _ _,⟨_,rfl⟩,_,rfl⟩;rw[hd];exact hF.put d (.gy _ _ rfl λi y l=>by cases i with|zero=>simp only[aH,aa]at l;subst l;exact .b _|succ i=>simp at l)
 have S:e∈g/\j.contains e.born=Z:=by
  have:e∈leftOf g j:=by simpa using he
  simp only[leftOf,Array.mem_filter]at this;exact⟨this.1,by simpa using this.2⟩
 obtain⟨q,a1,av⟩:=Array.mem_iff_getElem.1 S.1;have t:g[q]?=N e:=by rw[bD a1,av]
 have ap:q∈M:=(I q e t).1 S.2;have th:(execOp a.eval X).run P f=.ok (.value (.tuple #[.bool A,e.key,e.val])) (ChangeMaps.setBlock w1 r (.mapIter (N T) clock (j.push e.born) clock)):=by simp[execOp,fc,Sq,dA]
 rw[th];simp only[Oper.upon];have W:w1.heap=f.heap:=by rcases Nh with rfl|rfl<;>rfl
 have pj:=hS.update (w':=ChangeMaps.setBlock w1 r (.mapIter (N T) clock (j.push e.born) clock)) (J':=R.J.set H (.iter Z m E n (M.filter λi=>i != q) (N q))) (μ':=U) H (N r) (by
   rcases Nh with rfl|rfl;.exact⟨rfl,rfl,rfl,by simp[ChangeMaps.setBlock],λi _ s=>by simp only[ChangeMaps.setBlock];rw[cT (λe=>s (by rw[e]))]⟩
   exact⟨rfl,rfl,rfl,by simp[ChangeMaps.setBlock],λi _ s=>by simp only[ChangeMaps.setBlock];rw[cT (λe=>s (by rw[e]))];rfl⟩) (λb ky=>⟨_,C,by simp,by simp only[aa]at ky;subst ky;simp[q1,js]⟩) (by simp) (λi s=>aN (λe=>s e.symm)) (λ_ _=>rfl) (λb ky=>.inl ⟨_,C,by simp,ky⟩) (λb bn v2 o2 k _ K h6 _=>by
   simp only[q1,js,aa]at K;subst K;simp[World.cell?,q3]at h6) (λT2 bw k=>by rw[C]at k;simp at k) (λK2 E2 a9 k=>by rw[C]at k;simp at k) (λE2 a4 be g2 bs bi _ k=>by simp[lz]at k) (λzW o2 k=>by
   simp only[aw lz,aa]at k;subst k;refine⟨r,T,clock,j.push e.born,q1,q2,by simp[ChangeMaps.setBlock,W,nS],q4,λp hp=>q5 p (cV.1 hp).1,_,E,_,g,clock,(aN (λe=>aE e.symm)).trans L,?_,ax _,λ_=>⟨by omega,λ_=>⟨rfl,λi e2 s=>?_,λc hc=>?_⟩⟩⟩;.simp only[ChangeMaps.setBlock,W];rw[cT (λe=>aV e.symm)];exact V
   .have:=I i e2 s;rw[contains_push,kJ,this];simp only[cV,nq,fJ,cU];constructor;.rintro⟨K,h6⟩;refine⟨K,λa0=>h6 ?_⟩;subst a0;rw[t]at s;simp only[aa]at s;rw[s]
    rintro⟨K,h6⟩;refine⟨K,λad=>h6 (hR.2.2.2 i q e2 e s t ?_)⟩;first|exact ad|exact ad.symm
   simp only[aa]at hc;subst hc;exact⟨e,t,by simp⟩)
  (λbv m2 E2 n2 bp c2 k=>by rw[C]at k;simp only[aa,Ob.iter.injEq]at k;obtain⟨rfl,rfl,rfl,rfl,rfl,rfl⟩:=k;exact⟨⟨_,_,aw lz⟩,rfl⟩);refine⟨_,U,h3 q ap,pj.1,?_,pj.2.fU,⟨_,rfl⟩,_,rfl⟩;rw[hd];exact(hF.fU pj.2.fU).put d (.gy _ _ rfl λi y l=>by match i with|0=>simp only[aH,aa]at l;subst l;exact .b _|1=>simp only[bS,aH,aa]at l;subst l;exact .u _|2=>simp only[bS,aH,aa]at l;subst l;exact .u _|i+3=>simp at l)
def HN{P:aM}{p:Pi}{w0 w:aT}{a:Act}(b:compile P X=N p.i)(S:X.dst=p.d)(h:jO P p G R)(hS:gU P B w0 w R.J U)(D:FR w R.J U R.fr a){Q:Exit->Act->aT->Prop}: X.wp P a w (λa' L=>∃z k,G z/\gU P B w0 L z.J k/\FR L z.J k z.fr a'/\nM w R.J U L z.J k/\(∃v,a'=a.put X.dst v)/\∃r,z.fr=ek R.fr p.d r) Q:=by
 unfold jO at h;split at h;.
  rename_i f ac hi;rw[hi]at b;cases o:X.op with
  |call c =>
   simp only[compile,o]at b;obtain⟨callee,g,argTypes⟩:=c;unfold kQ at b;dsimp only at b;split at b;.split at b<;>simp at b
   .split at b<;>simp at b
   .split at b<;>simp at b
   .split at b<;>(try simp at b;done);split at b<;>(try simp at b;done);split at b<;>(try simp at b;done);split at b;.split at b<;>simp at b
    split at b<;>(try simp at b;done)
   . (repeat' split at b)<;>(simp at b;done)
   . (repeat' split at b)<;>(simp at b;done)
   .rename_i f' e1;split at b<;>(try simp only[reduceCtorEq]at b);rename_i fn BX;split at b;rotate_left;. (repeat' split at b)<;>(simp at b;done)
    rename_i gJ;simp only[al,I.call.injEq]at b;obtain⟨ys,Aw,rfl,rfl⟩:=b;have dA:=LV (P:=P) (a:=a) (w:=w) o BX gJ.1 gJ.2;unfold Oper.wp;rw[dA];simp only[Oper.upon];obtain⟨V,h2⟩:=CD D _ _ Aw;refine(h B w0 w U (g.map a.eval) hS ⟨by simp[V],λi y W=>?_⟩).mono ?_;.have:=h2 i y W;simpa[aq]using this
    rintro e L ⟨r,v,J',k,rfl,H,l,C,hk⟩;refine⟨_,k,H,l,?_,hk,⟨_,rfl⟩,_,rfl⟩;rw[S];exact(D.fU hk).put p.d C
   .simp at b
   simp at b
  |buildSlice T len parts =>exfalso;simp only[compile,o]at b;(repeat' split at b)<;>(try (simp only[reduceCtorEq]at b;done));simp only[al]at b;obtain⟨xs,_,s⟩:=b;split at s<;>simp at s
  |_ =>exfalso;simp only[compile,o]at b;(repeat' split at b)<;>first|(simp at b;done)|(simp_all;done)
 .
  rename_i x ac hi;split at h;rotate_left;.exact h.elim
  rename_i f ad s;obtain⟨jf,h⟩:=h;rw[hi]at b;cases o:X.op with
  |call c =>
   simp only[compile,o]at b;obtain⟨callee,g,argTypes⟩:=c;unfold kQ at b;dsimp only at b;split at b;.split at b<;>simp at b
   .split at b<;>simp at b
   .split at b<;>simp at b
   .split at b<;>(try simp at b;done);split at b<;>(try simp at b;done);split at b<;>(try simp at b;done);split at b;.split at b<;>simp at b
    split at b<;>(try simp at b;done)
   . (repeat' split at b)<;>(simp at b;done)
   . (repeat' split at b)<;>(simp at b;done)
   . (repeat' split at b)<;>(simp at b;done)
   .rename_i t;simp only[al,I.l6.injEq]at b;obtain⟨ys,Aw,rfl,rfl⟩:=b;have C:=D.at t;simp only[ev]at s;rw[s]at C;generalize hg:a.tmps.getD t undef=u at C;cases C with
    |fn _ _ vs hl wI =>
    have dA:=JC (P:=P) (a:=a) (w:=w) o hg jf;unfold Oper.wp;rw[dA];simp only[Oper.upon];obtain⟨V,h2⟩:=CD D _ _ Aw;refine(h B w0 w U (g.map a.eval++vs) hS ⟨by simp[V,hl],λi y W=>?_⟩).mono ?_
    .rcases gF i (F (ys.map (ev R.fr))) with dC|PI
     .rw[aj dC]at W;have h3:=h2 i y W;have K:i<g.size:=by simpa[V]using dC
      simpa[bJ,iu,K,aq]using h3
     rw[aD PI]at W;have h3:=wI _ y W;have K:g.size<=i:=by simpa[V]using PI
     simpa[bJ,Array.getElem?_append_right,K,V]using h3
    rintro e L ⟨r,v,J',k,rfl,H,l,C,hk⟩;refine⟨_,k,H,l,?_,hk,⟨_,rfl⟩,_,rfl⟩;rw[S];exact(D.fU hk).put p.d C
   simp at b
  |buildSlice T len parts =>exfalso;simp only[compile,o]at b;(repeat' split at b)<;>(try (simp only[reduceCtorEq]at b;done));simp only[al]at b;obtain⟨xs,_,s⟩:=b;split at s<;>simp at s
  |_ =>exfalso;simp only[compile,o]at b;(repeat' split at b)<;>first|(simp at b;done)|(simp_all;done)
 .
  rename_i x hi;split at h;rotate_left;.exact h.elim
  rename_i j m E n ps hn;rw[hi]at b;cases o:X.op with
  |next x0 q =>
   cases q with
   |true=>simp[compile,o]at b
   |false =>simp only[compile,o,al,I.next.injEq]at b;obtain⟨x',s,rfl⟩:=b;exact KX o s S hn h hS D
  |call c =>exfalso;simp only[compile,o]at b;unfold kQ at b;(repeat' split at b)<;>(simp at b;done)
  |buildSlice T len parts =>exfalso;simp only[compile,o]at b;(repeat' split at b)<;>(try (simp only[reduceCtorEq]at b;done));simp only[al]at b;obtain⟨xs,_,s⟩:=b;split at s<;>simp at s
  |_ =>exfalso;simp only[compile,o]at b;(repeat' split at b)<;>first|(simp at b;done)|(simp_all;done)
 rename_i i gn am af;split at h;.rename_i ob v hp;obtain⟨dP,H⟩:=h;obtain⟨u,L,O,hg,C⟩:=Ij b D hS hp dP;obtain⟨l,M⟩:=hS.grown hg;unfold Oper.wp;rw[O];simp only[Oper.upon];exact⟨_,U,H,l,by rw[S];exact(D.fU M.fU).put p.d C,M.fU,⟨_,rfl⟩,_,rfl⟩
 split at h
 .rename_i ob v J' s;obtain⟨dP,H⟩:=h;obtain⟨u,L,k,O,l,C,M⟩:=Hr b D hS s dP;unfold Oper.wp;rcases O with O|⟨O,rfl⟩;.rw[O];simp only[Oper.upon];exact⟨_,k,H,l,by rw[S];exact(D.fU M.fU).put p.d C,M.fU,⟨_,rfl⟩,_,rfl⟩
  rw[O];simp only[Oper.upon];exact⟨_,k,H,l,by rw[S];exact(D.fU M.fU).put p.d (.u _),M.fU,⟨_,rfl⟩,_,rfl⟩
 exact h.elim
def I.os:I->List O|.aV x=>[x]|.pick c a b=>[c,a,b]|.box _ x=>[x]|.alloc _ _=>[]|.build _ parts=>parts.map (·.2.2)|.bN _ _ xs=>xs|.JJ _ _ _ _ xs=>xs|.load _ a=>[a]|.store _ _ a x=>[a,x]|.dE x=>[x]|.bin _ x y=>[x,y]|.beq _ _ x y=>[x,y]|.Yd _ x y=>[x,y]|.un _ x=>[x]|.Hm _ x=>[x]|.G5 x=>[x]|.slice _ x lo hi=>x::(lo.toList++hi.toList)|.fM x lo hi=>x::(lo.toList++hi.toList)|.fV _ x=>[x]|.idx _ x i=>[x,i]|.fN x i=>[x,i]|.JP _ _ x i=>[x,i]|.asl _ x=>[x]|.ext _ x=>[x]|.len _ x=>[x]|.max2 x y=>[x,y]|.min2 x y=>[x,y]|.app _ _ _ x y=>[x,y]|.apps _ x y=>[x,y]|.mk _ _ _ _ l c=>[l,c]|.nJ _ _=>[]|.look _ _ _ m k=>[m,k]|.vf _ _ m k x=>[m,k,x]|.BJ x=>[x]|.call _ args=>args|.l6 x args=>x::args|.TH _ xs=>xs|.Hn _ _ x=>[x]|.Dx _ m k=>[m,k]|.wA _ _ m k=>[m,k]|.wz _ m s x=>[m,s,x]|.range x=>[x]|.next x=>[x]|.Nz x=>[x]|.Kd _ x=>[x]|.NS _ x i=>[x,i]|.clip _ x h m=>[x,h,m]|.Ed x y=>[x,y]|.XI _ _ l c=>[l,c]|.stop=>[]
def O.slot:O->cy|.t n=>[n]|.c _=>[]
def I.nU:I->List (Nat×dF)|.pick (.t c) a b=>(c,[])::(a.slot.map (·,[(c,A)])++b.slot.map (·,[(c,Z)]))|i=>(i.os.flatMap O.slot).map (·,[])
def I.de:I->Bool
 |.box _ _|.alloc _ _|.store _ _ _ _|.app _ _ _ _ _|.apps _ _ _|.mk _ _ _ _ _ _|.XI _ _ _ _|.JJ _ _ _ _ _|.nJ _ _|.vf _ _ _ _ _|.Hn _ _ _|.Dx _ _ _|.wA _ _ _ _|.wz _ _ _ _|.range _|.next _|.call _ _|.l6 _ _|.stop=>Z
 |_=>true
def I.reads:I->Bool
 |.build _ _|.bN _ _ _|.load _ _|.dE _|.G5 _|.slice _ _ _ _|.fV _ _|.idx _ _ _|.len _ _|.BJ _|.look _ _ _ _ _|.Nz _=>A
 |_=>Z
section
variable {fr fr':ao} {J:ag}
def zd{i:I}(h:∀x∈i.os,ev fr x=ev fr' x):ba fr J i=ba fr' J i:=by
 cases i with
 |build zs parts =>
  have g:∀p∈parts,ev fr p.2.2=ev fr' p.2.2:=λp d=>h _ (br.2 ⟨p,d,rfl⟩);have s:(parts.map λ(e,j,x)=>(e,j,fH (ev fr x)))=parts.map λ(e,j,x)=>(e,j,fH (ev fr' x)) :=
   di λp d=>by have u:=g p d;obtain⟨a,b,c⟩:=p;simp only at u |-;rw[u]
  have t:(∀p∈parts,gD J (ev fr p.2.2)=A)=(∀p∈parts,gD J (ev fr' p.2.2)=A) :=propext ⟨λk p d=>g p d▸k p d,λk p d=>(g p d).symm▸k p d⟩;simp only[ba,s,t]
 |bN j o l =>
  have g:∀p∈l,ev fr p=ev fr' p:=λp d=>h _ d;have s:(l.map λx=>cZ o (fH (ev fr x)))=l.map λx=>cZ o (fH (ev fr' x)) :=
   di λp d=>by rw[g p d]
  have t:(∀p∈l,gD J (ev fr p)=A)=(∀p∈l,gD J (ev fr' p)=A) :=propext ⟨λk p d=>g p d▸k p d,λk p d=>(g p d).symm▸k p d⟩;simp only[ba,s,t]
 |slice j x n m =>have r:=h x (by simp[I.os]);have v:∀y,n=N y->ev fr y=ev fr' y:=λy f=>h y (by simp[I.os,f]);have w:∀y,m=N y->ev fr y=ev fr' y:=λy f=>h y (by simp[I.os,f]);cases n<;>cases m<;>simp_all [ba]
 |fM x n m =>have r:=h x (by simp[I.os]);have v:∀y,n=N y->ev fr y=ev fr' y:=λy f=>h y (by simp[I.os,f]);have w:∀y,m=N y->ev fr y=ev fr' y:=λy f=>h y (by simp[I.os,f]);cases n<;>cases m<;>simp_all [ba]
 |len q x =>have r:=h x (by simp[I.os]);cases q<;>simp only[ba,r]
 |_=>simp_all [ba,I.os]
def Hs{i:I}(h:∀x∈i.os,ev fr x=ev fr' x):cc fr J i=cc fr' J i:=by cases i<;>simp_all [cc,I.os]
def Ii{a:ag}{i:I}(h:i.reads=Z):ba fr J i=ba fr a i:=by cases i<;>simp_all [ba,I.reads]
def wq{i:I}{r:Prop×V}(h:ba fr J i=N r):i.de=A:=by cases i<;>simp_all [ba,I.de]
def vL{i:I}(h:i.de=A):cc fr J i=Y:=by cases i<;>simp_all [cc,I.de]
end
variable(f:aM)(C:List Pi)(v:cy)(Q:Pi)(n:Nat)(D:List (Nat×dF))(T:Nat->Option (dF))(x:ao){a:Act}{K:Array Oper}{H:Mem}{B:Nat}{U:Nat->Option (dF)}{S:Pi}{l:Value}{G:aM}{w:aT}{R:ag}{X h:ao}{r:bP}{E:bk}
def chainB(fr:ao):dF->Option Bool
 |[]=>N A
 |(t,b)::r=>match fr.getD t .u with
  |.b x=>match chainB fr r with
   |some y=>N ((x==b)&&y)
   |none=>Y
  |_=>Y
def zF{fr:ao}:∀{ch:dF},chainB fr ch=N A<->∀p∈ch,fr.getD p.1 .u=.b p.2
 |[]=>by simp[chainB]
 |(t,b)::r=>by
  have ih:=zF (fr:=fr) (ch:=r);simp only[chainB,bE,forall_eq_or_imp];rw[<- ih];split
  .rename_i x c;split;.rename_i y a;rw[c,a];cases x<;>cases b<;>cases y<;>simp
   rename_i a;simp[a]
  rename_i c;simp only[reduceCtorEq,T9,not_and];intro h;exact absurd h (c b)
def DR{a b:dF}(h:chainB X b=N A)(d:a.isPrefixOf b=A):chainB X a=N A:=by rw[zF]at *;exact λp c=>h p ((List.isPrefixOf_iff_prefix.1 d).subset c)
def p9{fr:ao}:∀{a b:dF},chainB fr (a++b)=match chainB fr a,chainB fr b with
  |some x,N y=>N (x&&y)
  |_,_=>Y
 |[],b=>by simp only[bg,chainB];cases chainB fr b<;>simp
 |(t,w)::r,b=>by simp only[bo,chainB,p9 (a:=r) (b:=b)];cases fr.getD t .u<;>simp;cases chainB fr r<;>cases chainB fr b<;>simp[Bool.and_assoc]
def Td{m:Nat}{x y:V}(h:B≠m):(X.set B x).getD m y=X.getD m y:=by simp[aq,aN h]
def tC{fr:ao}{d:bP}{r:V}:∀{ch:dF},(∀p∈ch,d≠N p.1)->chainB (ek fr d r) ch=chainB fr ch
 |[],_=>by simp[chainB]
 |(t,b)::ch,h=>by have ih:=tC (fr:=fr) (d:=d) (r:=r) (ch:=ch) λp a=>h p (by simp[a]);have c:=h (t,b) (by simp);simp only[chainB,ih];cases d with|none=>rfl|some n =>have:n≠t:=λe=>c (by simp[e]);simp only[ek,Td this]
def wS(P:aM)(p:Pi)(c:Bool)(K:bk)(b:St):Prop :=
 match p.i with
 |.call f args=>(c=A->PC P f (args.map (ev b.fr)) b.J (λh g=>K ⟨ek b.fr p.d h,g⟩))/\(c=Z->∃r,K ⟨ek b.fr p.d r,b.J⟩)
 |.l6 x args=>(c=A->match ev b.fr x with
  |.fn f caps=>Iz P f=A/\PC P f (args.map (ev b.fr)++caps) b.J (λh g=>K ⟨ek b.fr p.d h,g⟩)
  |_=>False)/\(c=Z->∃r,K ⟨ek b.fr p.d r,b.J⟩)
 |.load k a=>match ev b.fr a with
  |.ptr _ _=>match ba b.fr b.J (.load k a)with
   |some (e,v)=>(c=A->e)/\K ⟨ek b.fr p.d v,b.J⟩
   |none=>False
  |_=>∃v,(c=A->∃e,ba b.fr b.J (.load k a)=N (e,v)/\e)/\K ⟨ek b.fr p.d v,b.J⟩
 |i=>match ba b.fr b.J i with
  |some (e,v)=>(c=A->e)/\K ⟨ek b.fr p.d v,b.J⟩
  |none=>False
def gI(K:bk)(a:St):Prop :=
 match Q.g with
 |[]=>jO f Q K a
 |_::_=>match chainB a.fr Q.g with
  |some c=>wS f Q c K a
  |none=>False
def B8{c:Bool}{e:St}(h:wS G S c E e)(q:∀f b,S.i≠.call f b)(s:∀x b,S.i≠.l6 x b): ∃r,E ⟨ek e.fr S.d r,e.J⟩/\(c=A->jO G S (λm=>m=⟨ek e.fr S.d r,e.J⟩) e):=by
 obtain⟨d,g,i⟩:=S;cases i with
 |call f b=>exact absurd rfl (q f b)
 |load k a =>
  simp only[wS]at h;split at h
  .split at h;.rename_i n v l;exact⟨v,h.2,λj=>by simp only[jO,l];exact⟨h.1 j,trivial⟩⟩
   exact h.elim
  obtain⟨v,u,o⟩:=h;refine⟨v,o,λj=>?_⟩;obtain⟨n,p,t⟩:=u j;simp only[jO,p];exact⟨t,trivial⟩
 |l6 x b=>exact absurd rfl (s x b)
 |next x=>simp[wS,ba]at h
 |_ =>
 simp only[wS]at h;split at h;.rename_i n v l;exact⟨v,h.2,λj=>by simp only[jO,l];exact⟨h.1 j,trivial⟩⟩
 exact h.elim
def AF{x:O}(a:∀s∈x.slot,X.getD s .u=h.getD s .u):ev X x=ev h x:=by cases x with|t n=>exact a n (by simp[O.slot])|c v=>rfl
def Q4{J:ag}(a:∀x∈S.i.os,ev X x=ev h x)(c:jO G S E ⟨X,J⟩): jO G S (λl=>∃r,l.fr=ek h S.d r/\E ⟨ek X S.d r,l.J⟩) ⟨h,J⟩:=by
 obtain⟨d,g,i⟩:=S;by_cases z:∃f b,i=.call f b;.obtain⟨f,b,rfl⟩:=z;have e:b.map (ev X)=b.map (ev h):=di λx D=>a x D;simp only[jO]at c |-;rw[<- e];exact c.mono λr n o=>⟨r,rfl,o⟩
 by_cases t:∃x b,i=.l6 x b
 .obtain⟨x,b,rfl⟩:=t;have e:b.map (ev X)=b.map (ev h):=di λy C=>a y (by simp[I.os,C]);have k:=a x (by simp[I.os]);simp only[jO]at c |-;rw[<- e,<- k];split at c;.exact⟨c.1,c.2.mono λr n o=>⟨r,rfl,o⟩⟩
  exact c.elim
 by_cases u:∃x,i=.next x
 .obtain⟨x,rfl⟩:=u;have k:=a x (by simp[I.os]);simp only[jO]at c |-;rw[<- k];split at c;.exact⟨λH=>⟨_,rfl,c.1 H⟩,λq B=>⟨_,rfl,c.2 q B⟩⟩
  exact c.elim
 have w:=zd (J:=J) a;have k:=Hs (J:=J) a;have s:∀(j:ao) (m:bk),jO G ⟨d,g,i⟩ m ⟨j,J⟩=match ba j J i with
   |some (p,v)=>p/\m ⟨ek j d v,J⟩
   |none=>match cc j J i with
    |some (p,v,n)=>p/\m ⟨ek j d v,n⟩
    |none=>False:=by intro j m;cases i<;>first|rfl|(exfalso;exact z ⟨_,_,rfl⟩)|(exfalso;exact t ⟨_,_,rfl⟩)|(exfalso;exact u ⟨_,rfl⟩)
 simp only at w k;rw[s]at c |-;rw[<- w,<- k];split at c;.exact⟨c.1,_,rfl,c.2⟩
 split at c;.exact⟨c.1,_,rfl,c.2⟩
 exact c.elim
def HO{p:Pi}{fr fr':ao}(h:∀s∈p.i.nU,chainB fr s.2=N A->fr.getD s.1 .u=fr'.getD s.1 .u)(m:jO G p E ⟨fr,R⟩): jO G p (λl=>∃r,l.fr=ek fr' p.d r/\E ⟨ek fr p.d r,l.J⟩) ⟨fr',R⟩:=by
 by_cases w:∃c a b,p.i=.pick (.t c) a b
 .obtain⟨c,x,y,n⟩:=w;obtain⟨d,g,i⟩:=p;simp only at n;subst n;have B:fr.getD c .u=fr'.getD c .u:=h (c,[]) (by simp[I.nU]) (by simp[chainB]);have o:fr.getD c .u=.b A->ev fr x=ev fr' x:=λk=>AF λs f=>h (s,[(c,A)]) (by simp[I.nU,f]) (by simp only[chainB,k];rfl);have z:fr.getD c .u=.b Z->ev fr y=ev fr' y:=λk=>AF λs f=>h (s,[(c,Z)]) (by simp[I.nU,f]) (by simp only[chainB,k];rfl);simp only[jO,ba,ev]at m |-;rw[<- B];split at m
  .rename_i C v j;split at j
   .rename_i b k;simp only[aa,aB]at j;obtain⟨rfl,rfl⟩:=j;refine⟨trivial,_,rfl,?_⟩;have e:(match ev fr x,ev fr y with
      |.b p,.b q=>V.b (bif b then p else q)
      |p,q=>bif b then p else q)=(match ev fr' x,ev fr' y with
      |.b p,.b q=>V.b (bif b then p else q)
      |p,q=>bif b then p else q):=by
     have gen:∀p q:V,(match p,q with|.b p,.b q=>V.b (bif b then p else q)|p,q=>bif b then p else q)=bif b then p else q:=by intro p q;cases b<;>cases p<;>cases q<;>rfl
     rw[gen,gen];cases b;.simp only[L7];exact z k
     simp only[cond_true];exact o k
    exact Eq.mp (congrArg (λv=>E ⟨ek fr d v,R⟩) e) m.2
   simp at j
  rename_i j;split at j;.simp at j
  simp only[cc]at m
 refine Q4 (λx o=>AF λs f=>h (s,[]) ?_ (by simp[chainB])) m;have:p.i.nU=(p.i.os.flatMap O.slot).map (·,[]):=by
  unfold I.nU;split;.rename_i c a b n;exact absurd ⟨c,a,b,n⟩ w
  rfl
 rw[this];exact br.2 ⟨s,jN.2 ⟨x,o,f⟩,rfl⟩
def DW(w:aT)(J:ag)(d:Mem)(fr:ao)(c:Nat->Option (dF))(a:Act):Prop :=a.defers=[]/\a.tmps.size=F fr/\∀t x,fr[t]?=N x->∀b,c t=N b ->(chainB fr b=N A->VR w J d x (a.tmps.getD t undef))/\(chainB fr b=N Z->a.tmps.getD t undef=undef)
def XJ:ao:=x.mapIdx λt a=>match T t with|some b=>if chainB x b=N A then a else .u|none=>.u
def DW.mask(h:DW w R H X U a):FR w R H (XJ U X) a:=by
 refine⟨h.1,by simp[XJ,h.2.1],λt x b=>?_⟩;simp only[XJ,List.getElem?_mapIdx,al]at b;obtain⟨y,c,rfl⟩:=b;split
 .rename_i e d;split;.rename_i f;exact(h.2.2 t y c e d).1 f
  exact .u _
 exact .u _
def YP{a:dF}(b:U B=N a)(c:chainB X a=N A):(XJ U X).getD B .u=X.getD B .u:=by simp only[XJ,aq,List.getElem?_mapIdx,b,c,aU];cases X[B]?<;>rfl
structure JU (inf:Nat->Option (dF)) (p:Pi):Prop where
 nU:∀s∈p.i.nU,∃ch,inf s.1=some ch/\ch.isPrefixOf (p.g++s.2)=true
 guard:∀ch t b,p.g=ch++[(t,b)]->inf t=some ch
 fresh:∀d,p.d=some d->(∀q∈p.g,q.1≠d)/\∀t ch,inf t=some ch->∀q∈ch,q.1≠d
def sE(p:Pi):Nat->Option (dF):=λt=>if p.d=N t then N p.g else T t
def OC(h:r≠N B):(a.put r l).tmps.getD B undef=a.tmps.getD B undef:=by cases r with|none=>rfl|some n =>have b:n≠B:=λe=>h (by simp[e]);simp only[Act.put,bJ,cT b]
def Ib(h:B<a.tmps.size):(a.put (N B) l).tmps.getD B undef=l:=by simp[Act.put,h]
def kK{a:V}(h:r≠N B):(ek X r a)[B]?=X[B]?:=by cases r with|none=>rfl|some n =>have b:n≠B:=λe=>h (by simp[e]);simp only[ek,aN b]
def oG{a:V}:F (ek X r a)=F X:=by cases r<;>simp[ek]
def Ia:(a.put r l).tmps.size=a.tmps.size/\(a.put r l).defers=a.defers:=by cases r<;>simp[Act.put]
def DW.r7{l:aT}{m:ag}{f:Mem}{p:Pi}{r:V}{v:Value}(h:DW w R H X U a)(o:JU U p)(y:nM w R H l m f) (h1:∀t,p.d=N t->t<F X->chainB X p.g=N A->VR l m f r v) (u:chainB X p.g=N Z->v=undef):DW l m f (ek X p.d r) (sE U p) (a.put p.d v):=by
 refine⟨by rw[Ia.2];exact h.1,by rw[Ia.1,oG];exact h.2.1,λt x i k j=>?_⟩;by_cases c:p.d=N t
 .have s:=o.fresh t c;simp only[sE,c,aU,aa]at j;subst j;have b:t<F X:=by have:=(ab.1 i).1;rwa [oG]at this
  rw[c]at i;simp only[ek,aw b,aa]at i;subst i;have e:chainB (ek X p.d r) p.g=chainB X p.g:=tC λq n e=>s.1 q n (by rw[c]at e;exact(iE e).symm);rw[e,c,Ib (by rw[h.2.1];exact b)];exact⟨h1 t c b,u⟩
 simp only[sE,c,aQ]at j;rw[kK c]at i;have e:chainB (ek X p.d r) k=chainB X k:=tC λq n e=>(o.fresh q.1 e).2 t k j q n rfl;rw[e,OC c];have:=h.2.2 t x i k j;exact⟨λz=>y _ _ (this.1 z),this.2⟩
def GI(K:bk)(fr:ao)(J:ag):Prop :=∃c,chainB fr Q.g=N c/\((c=A/\∃b:bk,jO f Q b ⟨fr,J⟩/\∀a,b a->K a)\/(c=Z/\∃r,K ⟨ek fr Q.d r,J⟩))
def aeZ(h:gI G S E ⟨X,R⟩):GI G S E X R:=by
 unfold gI at h;split at h;.rename_i o;exact⟨A,by rw[o];rfl,.inl ⟨rfl,E,h,λ_ h=>h⟩⟩
 split at h
 .rename_i c b;by_cases m:∃f a,S.i=.call f a
  .obtain⟨f,a,j⟩:=m;obtain⟨d,g,i⟩:=S;simp only at j;subst j;cases c with
   |true=>exact⟨A,b,.inl ⟨rfl,E,h.1 rfl,λ_ h=>h⟩⟩
   |false=>exact⟨Z,b,.inr ⟨rfl,h.2 rfl⟩⟩
  by_cases l:∃x a,S.i=.l6 x a
  .obtain⟨x,a,j⟩:=l;obtain⟨d,g,i⟩:=S;simp only at j;subst j;cases c with
   |true=>exact⟨A,b,.inl ⟨rfl,E,h.1 rfl,λ_ h=>h⟩⟩
   |false=>exact⟨Z,b,.inr ⟨rfl,h.2 rfl⟩⟩
  obtain⟨r,k,n⟩:=B8 h (λf a e=>m ⟨f,a,e⟩) λx a e=>l ⟨x,a,e⟩;cases c with
  |true=>exact⟨A,b,.inl ⟨rfl,_,n rfl,λp e=>e▸k⟩⟩
  |false=>exact⟨Z,b,.inr ⟨rfl,r,k⟩⟩
 exact h.elim
def YJ{o:Oper}{p:Pi}(S:cPi G K o=N p){f:aT} (hS:gU G B w f R H) (M:DW f R H X U a) (jf:JU U p) (hK:GI G p E X R) {e:Act->aT->Prop} {Q:Exit->Act->aT->Prop} (hR:∀r J' m a' L,E ⟨ek X p.d r,J'⟩->gU G B w L J' m->DW L J' m (ek X p.d r) (sE U p) a'->nM f R H L J' m->e a' L) : if Region.wanted o (yielded K a.tmps)then o.wp G a f e Q\/(o.asks G a f/\LetsOut Q)else e (a.put o.dst undef) f:=by
 unfold cPi at S;split at S<;>simp only[aa,reduceCtorEq]at S;rename_i g n;obtain⟨i,C⟩:∃i,i=(compile G o).getD .stop:=⟨_,rfl⟩;rw[<- C]at S;subst S;have ac:∀K':bk,chainB X g=N A->jO G ⟨o.dst,g,i⟩ K' ⟨X,R⟩->(∀u,K' u->E u)->o.wp G a f e Q:=by
  intro K' zr hs Nn;have hi:compile G o=N i:=by cases QD:compile G o with|none=>rw[QD]at C;simp only[Ae]at C;subst C;simp[jO,ba,cc]at hs|some j=>rw[QD]at C;simp only[gM]at C;rw[C]
  have V:=HO (fr':=XJ U X) (λs ad af=>by obtain⟨ch,D,h3⟩:=jf.nU s ad;exact(YP D (DR (by rw[p9,zr,af];rfl) h3)).symm) hs;refine Oper.wp_mono ?_ (HN (p:=⟨o.dst,g,i⟩) hi rfl V hS M.mask);rintro a' L ⟨u,m,⟨r,D,h3⟩,h4,h5,h6,⟨v,rfl⟩,_⟩;have P:F (XJ U X)=F X:=by simp[XJ]
  refine hR r u.J m _ L (Nn _ h3) h4 (M.r7 jf h6 (λt O I _=>?_) λh=>by simp only at h;rw[zr]at h;simp at h) h6;simp only at O D;have h7:=h5.2.2 t r (by rw[D,O];simp only[ek];rw[aw (by rw[P];exact I)]);rwa [O,Ib (by rw[M.2.1];exact I)]at h7
 have guard:∀c,chainB X g=N c->Region.wanted o (yielded K a.tmps)=c:=by
  intro c k;cases T:o.guard with
  |none =>rw[T]at n;simp only[xk,aa]at n;subst n;simp only[chainB,aa]at k;subst k;simp[Region.wanted,T]
  |some jb =>
  obtain⟨j,b⟩:=jb;rw[T]at n;simp only[xk]at n;split at n<;>(try simp only[reduceCtorEq]at n);rename_i oj am;split at n<;>simp only[aa,reduceCtorEq]at n;rename_i t ch O zr;subst n;have ZH:=jf.guard ch t b rfl;rw[p9]at k;split at k<;>simp only[aa,reduceCtorEq]at k;rename_i x y hx W;simp only[chainB]at W;split at W<;>simp only[aa,reduceCtorEq]at W;rename_i z hz;simp only[dM]at W;have I:t<F X:=by
   rcases gF t (F X) with h|h;.exact h
   rw[aq,bK h]at hz;simp at hz
  have fG:X[t]?=N (.b z):=by rw[aq,an I]at hz;rw[an I];simpa using hz
  have hv:=M.2.2 t _ fG ch ZH;have Lr:t<a.tmps.size:=by rw[M.2.1];exact I
  have l:yielded K a.tmps j=match a.tmps.getD t undef with|.bool q=>N q|_=>Y:=by
   unfold yielded;simp only[am,iV,O];rw[bD Lr];have:a.tmps.getD t undef=a.tmps[t]:=by simp[Lr]
   rw[this];cases a.tmps[t]<;>rfl
  subst k W;cases x;.rw[hv.2 hx]at l;simp only[undef]at l;simp[Region.wanted,T,l]
  rw[(hv.1 hx).oR]at l;simp[Region.wanted,T,l]
 obtain⟨c,k,td⟩:=hK;rcases td with⟨rfl,K',V,D⟩|⟨rfl,r,V⟩;.rw[aK (guard A k)];exact .inl (ac K' k V D)
 have hw:=guard Z k;rw[hw];simp only[aI,aQ];exact hR r R H _ f V hS (M.r7 (p:=⟨o.dst,g,i⟩) jf (nM.refl _ _ _) (λt _ _ h=>by simp only at h;rw[k]at h;simp at h) λ_=>rfl) (nM.refl _ _ _)
def opG{o:Oper}(m:cPi G K o=N S){c:aT} (i:gU G B w c R H) (n:DW c R H X U a) (l:JU U S) (k:gI G S E ⟨X,R⟩) {b:Act->aT->Prop} {Q:Exit->Act->aT->Prop} (j:∀r f e h g,E ⟨ek X S.d r,f⟩->gU G B w g f e->DW g f e (ek X S.d r) (sE U S) h->nM c R H g f e->b h g) : if Region.wanted o (yielded K a.tmps)then o.wp G a c b Q\/(o.asks G a c/\LetsOut Q)else b (a.put o.dst undef) c :=
 YJ m i n l (aeZ k) j
def Hn:ao:=v.foldl (λx s=>x.set s .u) x
def kL(P:aM)(a:cy):List Pi->(bk)->bk|[],K,st=>K ⟨Hn a st.fr,st.J⟩|p::ps,K,st=>gI P p (kL P a ps K) st
def qH(t:Nat):dF:=(D.lookup t).getD []
def aaT(p:Pi):List (Nat×dF):=match p.d with|some d=>(d,p.g)::D|none=>D
def RC(p:Pi):Bool :=p.i.nU.all (λs=>(qH D s.1).isPrefixOf (p.g++s.2)) &&
 (match p.g.getLast? with
  |none=>A
  |some q=>qH D q.1==p.g.dropLast) &&
 (match p.d with|none=>A|some d=>p.g.all (λq=>q.1 != d)&&D.all λe=>e.2.all λq=>q.1 != d)
def Hc:List (Nat×dF)->List Pi->cy->Bool
 |D,[],gs=>D.all λe=>e.2.isEmpty||gs.contains e.1
 |D,p::ps,gs=>RC D p&&Hc (aaT D p) ps gs
def wF(t:Nat):Option (dF):=N (qH D t)
def yf{D:List (Nat×dF)}{t:Nat}:qH D t=[]\/(t,qH D t)∈D:=by
 induction D with
 |nil=>exact .inl rfl
 |cons e D ih =>
 obtain⟨s,a⟩:=e;simp only[qH,Ud];by_cases h:t=s;.subst h;right;simp
 have:(t==s)=Z:=by simpa using h
 rw[this];simp only[qH]at ih;rcases ih with h|h;.exact .inl h
 exact .inr (dw _ h)
def Iy{D:List (Nat×dF)}(h:RC D S=A):JU (wF D) S:=by
 simp only[RC,aP,cv]at h;obtain⟨⟨i,e⟩,c⟩:=h;refine⟨λs k=>⟨_,rfl,i s k⟩,λj t b l=>?_,λd g=>?_⟩;.rw[l]at e;simp only[kI,ju,qc,List.dropLast_concat,b9]at e;simp[wF,e]
 rw[g]at c;simp only[aP,cv,nq,fJ]at c;refine⟨λq a=>c.1 q a,λt j f q a=>?_⟩;simp only[wF,aa]at f;subst f;rcases yf (D:=D) (t:=t)with h|h;.rw[h]at a;simp at a
 exact c.2 _ h q a
def D3{D:List (Nat×dF)}:sE (wF D) S=wF (aaT D S):=by
 funext t;simp only[sE,wF,aaT];cases b:S.d with
 |none=>simp
 |some d =>
 by_cases h:d=t;.subst h;simp[qH]
 have a:(t==d)=Z:=by simpa using λe=>h e.symm
 simp[h,qH,Ud,a]
def TF:∀(a:cy) (fr:ao) (t:Nat),(Hn a fr)[t]?=if t∈a then(fr[t]?).map (λ_=>V.u)else fr[t]?
 |[],fr,t=>by simp[Hn]
 |s::a,fr,t=>by
  have ih:=TF a (fr.set s .u) t;simp only[Hn,dK]at ih |-;rw[ih];by_cases b:s=t;.subst b;simp only[bE,Ho,aU];rw[Ah];split<;>cases fr[s]?<;>rfl
  rw[aN b];have:(t∈s::a)<->t∈a:=by simp[Qm b]
  simp only[this]
def DW.ends{D:List (Nat×dF)}{b:cy}(h:DW w R H X (wF D) a)(e:Hc D [] b=A):FR w R H (Hn b X) a:=by
 refine⟨h.1,?_,λt x c=>?_⟩
 .rw[h.2.1];have:∀(b:cy) (X:ao),F (Hn b X)=F X:=by intro b;induction b with|nil=>intro X;rfl|cons s b ih=>intro X;simp only[Hn,dK]at ih |-;rw[ih];simp
  rw[this]
 rw[TF]at c;split at c;.rw[al]at c;obtain⟨_,_,rfl⟩:=c;exact .u _
 rename_i f;refine(h.2.2 t x c _ rfl).1 ?_;have:qH D t=[]:=by
  rcases yf (D:=D) (t:=t)with h|h;.exact h
  simp only[Hc,cv]at e;have:=e _ h;simp only[dW,List.isEmpty_iff,List.contains_eq_mem,a7]at this;rcases this with d|d;.exact d
  exact absurd d f
 rw[this];simp[chainB]
def iI(B:Nat)(h w:aT)(J:ag)(d:Mem)(K:bj)(e:Exit)(g:Act)(c:aT):Prop :=∃a b,K e a/\gU f B h c a.J b/\FR c a.J b a.fr g/\fX n w J d c a.J b
def Ba{P:aM}{ops:Array Oper}{n B:Nat}{gs:cy}{w0 ws:aT}{σs:ag}{μs:Mem}{K:bk}{Q:Exit->Act->aT->Prop} (g:∀d w b a,K d->gU P B w0 w d.J b->FR w d.J b d.fr a->fX n ws σs μs w d.J b->Q .normal a w) : ∀(l:List Oper) (k:Nat) (c:List Pi) (D:List (Nat×dF)) (fr:ao) (J:ag) (w:aT) (b:Mem) (a:Act),(∀j,l[j]?=ops[k+j]?)->rP P ops l=N c->Hc D c gs=A->kL P gs c K ⟨fr,J⟩ ->gU P B w0 w J b->DW w J b fr (wF D) a->fX n ws σs μs w J b ->wpOps P ops Q ((List.range (F l)).map (k+·)) a w
 |[],k,c,D,fr,J,w,b,a,_,hc,hD,hr,hS,hF,hk=>by simp only[rP,aa]at hc;subst hc;exact g _ w b a hr hS (hF.ends hD) hk
 |o::l,k,c,D,fr,J,w,b,a,hl,hc,hD,hr,hS,hF,hk=>by
  simp only[rP]at hc;split at hc<;>simp only[aa,reduceCtorEq]at hc;rename_i p y u f;subst hc;simp only[Hc,aP]at hD;have v:ops[k]?=N o:=by have:=hl 0;simpa using this.symm
  have z:(List.range (F (o::l))).map (k+·)=k::(List.range (F l)).map (k+1+·):=by rw[ah,CT,aC,im];simp only[dQ];congr 1;apply di;intro x _;simp only[Function.comp];omega
  rw[z];simp only[wpOps,v];refine opG u hS hF (Iy hD.1) hr ?_;intro r C e q i t m h s;rw[D3]at h;exact Ba g l (k+1) y _ _ _ i e q (λj=>by have:=hl (j+1);rw[bS]at this;rw[this];congr 1;omega) f hD.2 t m h (hk.trans s.NW)
def FR.toI(h:FR w R H X a):DW w R H X (wF []) a :=⟨h.1,h.2.1,λt x c d b=>by simp only[wF,qH,List.lookup_nil,Ae,aa]at b;subst b;exact⟨λ_=>h.2.2 t x c,λh=>by simp[chainB]at h⟩⟩
def tb(j:Nat):Bool:=(v.getD n 0).testBit j
def fq:Pi:=C.getD n ⟨Y,[],.alloc 0 []⟩
def Eg(ls:cy)(i:Nat):Nat:=F (ls.filter (tb v i))
def nC(ls:cy)(k:Nat):cy:=(List.range n).filter λi=>(fq C i).i.de&&Eg v ls i==k
def TO(ls:cy)(k L:Nat):cy :=(List.range n).filter λi=>(fq C i).i.de&&((fq C i).i.reads&&(decide (Eg v ls i<=k)&&!tb v L i))
def CY(pis:List Pi)(bs:cy)(m:Nat)(ls:cy):Nat->cy->List (List Pi×Pi×List Pi)|_,[]=>[]|k,L::r=>((nC pis bs m ls k).map (fq pis),fq pis L,(TO pis bs m ls k L).map (fq pis))::CY pis bs m ls (k+1) r
def CC(a:St):Prop :=
 match chainB a.fr Q.g with
 |some c=>match Q.d with
  |some d=>c=A->∃b,ba a.fr a.J Q.i=N (b,a.fr.getD d .u)/\b
  |none=>c=A->∃b r,ba a.fr a.J Q.i=N (b,r)/\b
 |none=>False
def so(P:aM):List (List Pi×Pi×List Pi)->List Pi->(bk)->bk|[],last,K,st=>kL P [] last K st|(Hb,L,chk)::ds,last,K,st=>kL P [] Hb (λb=>gI P L (λa=>(∀p∈chk,CC p a)/\so P ds last K a) b) st
def looks:cy:=Q.i.nU.map (·.1)++Q.g.map (·.1)
def Fact(J:ag):Prop :=∃c,chainB x Q.g=N c/\∃r,ek x Q.d r=x/\(c=A->∃a,ba x J Q.i=N (a,r)/\a)
def Q8{r:V}:X.set B r=X<->(B<F X->X[B]?=N r):=by
 constructor;.intro h a;rw[<- h,aw a]
 intro h;refine jw λi=>?_;by_cases b:B=i
 .subst b;rw[Ah];rcases gF B (F X) with a|a;.rw[h a];rfl
  rw[bK a];rfl
 rw[aN b]
def qv{a:V}:ek X r a=X<->∀t,r=N t->t<F X->X[t]?=N a:=by cases r with|none=>simp[ek]|some t=>simp only[ek,Q8,aa];exact⟨λh s b=>b▸h,λh=>h t rfl⟩
def Ry{i:I}{x:O}(e:x∈i.os)(d:B∈x.slot):B∈i.nU.map (·.1):=by
 unfold I.nU;split
 .rename_i c a b;simp only[I.os,bE,fK,vA]at e;rcases e with rfl|rfl|rfl;.simp only[O.slot,cj]at d;simp[d]
  .simp[d]
  simp[d]
 simp only[im,br,jN,Function.comp];exact⟨B,⟨x,e,d⟩,rfl⟩
def mm{fr fr':ao}:∀{ch:dF},(∀q∈ch,fr'[q.1]?=fr[q.1]?)->chainB fr' ch=chainB fr ch|[],_=>rfl|(t,b)::ch,h=>by have a:fr'[t]?=fr[t]?:=h (t,b) (by simp);have ih:=mm (fr:=fr) (fr':=fr') (ch:=ch) λq c=>h q (by simp[c]);simp only[chainB,ih,aq,a]
def ze(a:∀t∈S.i.nU.map (·.1),h[t]?=X[t]?):ba h R S.i=ba X R S.i :=zd λx c=>AF λs b=>by rw[aq,aq,a s (Ry c b)]
def Fact.agree(a:Fact S X R)(f:∀t∈looks S,h[t]?=X[t]?)(i:∀t,S.d=N t->h[t]?=X[t]?)(b:F h=F X):Fact S h R:=by
 obtain⟨c,m,r,g,j⟩:=a;refine⟨c,by rw[mm λq k=>f q.1 (by simp only[looks,bR,br];exact .inr ⟨q,k,rfl⟩)];exact m,r,?_,λn=>?_⟩;.rw[qv]at g |-;intro t e l;rw[i t e];exact g t e (b▸l)
 rw[ze λt e=>f t (by simp only[looks,bR];exact .inl e)];exact j n
def Fact.still{J a:ag}(h:Fact S X J)(d:S.i.reads=Z):Fact S X a:=by obtain⟨c,e,r,b,f⟩:=h;exact⟨c,e,r,b,λg=>by rw[<- Ii (J:=J) d];exact f g⟩
def CC.fact{f:St}(h:CC S f):Fact S f.fr f.J:=by
 unfold CC at h;split at h
 .rename_i c e;split at h;.rename_i d a;refine⟨c,e,_,?_,h⟩;rw[qv];intro t b i;rw[a]at b;simp only[aa]at b;subst b;rw[aq,an i];rfl
  rename_i a;by_cases g:c=A;.obtain⟨l,r,k,j⟩:=h g;exact⟨c,e,r,by rw[a];rfl,λ_=>⟨l,k,j⟩⟩
  exact⟨c,e,.u,by rw[a];rfl,λh=>absurd h g⟩
 exact h.elim
def PU(h:gI G S E ⟨X,R⟩)(j:S.i.de=A): ∃c r,chainB X S.g=N c/\E ⟨ek X S.d r,R⟩/\(c=A->∃a,ba X R S.i=N (a,r)/\a):=by
 have l:∀o,jO G S o ⟨X,R⟩->∃r,o ⟨ek X S.d r,R⟩/\∃a,ba X R S.i=N (a,r)/\a:=by
  intro o b;obtain⟨d,g,i⟩:=S;cases i<;>first|(simp[I.de]at j;done)|skip
  all_goals
   simp only[jO]at b;split at b;.rename_i a v y;exact⟨v,b.2,a,y,b.1⟩
   rw[vL (by simpa using j)]at b;exact b.elim
 unfold gI at h;split at h;.rename_i u;obtain⟨r,m,n⟩:=l _ h;exact⟨A,r,by rw[u];rfl,m,λ_=>n⟩
 split at h
 .rename_i c s;obtain⟨r,m,n⟩:=B8 h (λf k e=>by rw[e]at j;simp[I.de]at j) λx k e=>by rw[e]at j;simp[I.de]at j
  by_cases p:c=A;.obtain⟨t,q,w⟩:=l _ (n p);simp only[St.mk.injEq,lq]at q;subst p;refine⟨A,t,s,?_,λ_=>w⟩;rw[q];exact m
  exact⟨c,r,s,m,λh=>absurd h p⟩
 exact h.elim
def xP{P:aM}{pis:List Pi}{K:bk}{J:ag}:∀(l:cy) (fr:ao),kL P [] (l.map (fq pis)) K ⟨fr,J⟩->(∀i∈l,(fq pis i).i.de=A) ->l.Pairwise (λi j=>∀t,(fq pis j).d=N t->t ∉ looks (fq pis i)/\(fq pis i).d≠N t)->(∀i∈l,∀t,(fq pis i).d=N t->t ∉ looks (fq pis i)) ->∃fr',K ⟨fr',J⟩/\(∀i∈l,Fact (fq pis i) fr' J)/\(∀t,(∀i∈l,(fq pis i).d≠N t)->fr'[t]?=fr[t]?)/\F fr'=F fr
 |[],fr,h,_,_,_=>⟨fr,h,by simp,λ_ _=>rfl,rfl⟩
 |i::l,fr,h,hs,hp,wM=>by
  simp only[aC,kL]at h;obtain⟨c,r,v,o,x⟩:=PU h (hs i (by simp));rw[lU]at hp;obtain⟨fr',u,w,f,m⟩:=xP l _ o (λj a=>hs j (by simp[a])) hp.2 λj a=>wM j (by simp[a]);have g:∀t∈looks (fq pis i),fr'[t]?=fr[t]?:=λt b=>by rw[f t λj a e=>(hp.1 j a t e).1 b];exact kK λe=>wM i (by simp) t e b
  refine⟨fr',u,λj a=>?_,λt b=>?_,by rw[m,oG]⟩
  .rcases bE.1 a with rfl|a
   .refine⟨c,by rw[mm λq s=>g q.1 (by simp only[looks,bR,br];exact .inr ⟨q,s,rfl⟩)];exact v,r,?_,λy=>?_⟩
    .rw[qv];intro t b n;rw[f t λk p e=>(hp.1 k p t e).2 b,b];have:t<F fr:=by rw[m,oG]at n;exact n
     simp only[ek,aw this]
    rw[ze λt b=>g t (by simp only[looks,bR];exact .inl b)];exact x y
   exact w j a
  rw[f t λj a=>b j (by simp[a])];exact kK (b i (by simp))
structure AK (ops:Array Oper) (pis:List Pi) (bs:cy) (m:Nat) (ls fl:cy):Prop where
 mn:m<=pis.length
 back:∀i o,ops[i]?=some o->∀e∈o.after,Region.binds .any e=true->e.on<i
 TH:∀(i j:Nat),i<pis.length->j<pis.length->tb bs i j=true->j<i/\∃o,ops[i]?=some o/\∃e∈o.after,Region.binds .any e=true/\(e.on=j\/tb bs e.on j=true)
 tail:∀(i j:Nat),m<=i->i<pis.length->j<i->tb bs i j=true
 dst:∀(i j:Nat) (t:Nat),i<m->j<m->(fq pis i).d=some t->(fq pis j).d=some t->i=j
 IH:∀(i:Nat),i<m->(fq pis i).i.de=false->i∈ls\/i∈fl
 Ue:∀L∈ls,L<m/\(fq pis L).i.de=false
 Vf:∀(j k L L':Nat),j<k->ls[j]?=some L'->ls[k]?=some L->tb bs L L'=true
 Hb:∀(i k L:Nat),i<m->(fq pis i).i.de=true->ls[k]?=some L->(tb bs i L=true<->k<Eg bs ls i)
 slot:∀(i:Nat) (s:Nat×dF) (j:Nat),i<m->s∈(fq pis i).i.nU->j<m->(fq pis j).d=some s.1->tb bs i j=true/\(fq pis j).g.isPrefixOf ((fq pis i).g++s.2)=true
 chain:∀(i:Nat) (q:Nat×Bool),i<m->q∈(fq pis i).g->∃j,j<m/\(fq pis j).d=some q.1/\tb bs i j=true
 last:∀(i:Nat) (ch:dF) (t:Nat) (b:Bool) (j:Nat),i<m->(fq pis i).g=ch++[(t,b)]->j<m->(fq pis j).d=some t->(fq pis j).g=ch
 mono:∀(i j t:Nat),i<m->(fq pis i).i.de=true->j<m->(fq pis j).i.de=true->(fq pis j).d=some t->t∈looks (fq pis i)->Eg bs ls j<=Eg bs ls i
def ou{P:aM}{ops:Array Oper}:∀{l:List Oper} {a:List Pi},rP P ops l=N a->F a=F l/\∀(i:Nat) (o:Oper),l[i]?=N o->∃p,a[i]?=N p/\cPi P ops o=N p
 |[],a,h=>by simp only[rP,aa]at h;subst h;simp
 |o::l,a,h=>by simp only[rP]at h;split at h<;>simp only[aa,reduceCtorEq]at h;rename_i p j d c;subst h;obtain⟨g,e⟩:=ou c;refine⟨by simp[g],λi f b=>?_⟩;cases i with|zero=>simp only[aH,aa]at b;subst b;exact⟨p,rfl,d⟩|succ i=>exact e i f (by simpa using b)
abbrev kz(listed:Array Bool)(i:Nat):Prop:=listed.getD i Z=A
def fF{listed:Array Bool}{i j:Nat}(a:i<listed.size):kz (listed.setIfInBounds i A) j<->j=i\/kz listed j:=by
 simp only[kz,bJ];by_cases h:i=j;.subst h;simp[a]
 rw[cT h];simp[Qm h]
def sR{listed:Array Bool}(f:listed.size=K.size)(h:B∈Region.ready .any K listed):
  B<K.size/\¬kz listed B/\∃o,K[B]?=N o/\∀e∈o.after,Region.binds .any e=A->kz listed e.on:=by obtain⟨a,o,b,d⟩:=mem_ready.1 h;have c:B<K.size:=(bh.1 b).1;refine⟨c,?_,o,b,d⟩;simp only[kz,bJ]at a |-;rw[bD (by rw[f];exact c)]at a |-;simp at a |-;exact a
section
variable {P:aM} {ops:Array Oper} {pis:List Pi} {bs:cy} {m:Nat} {ls fl:cy}
def AK.ready(f:AK ops pis bs m ls fl)(u:F pis=ops.size){listed:Array Bool}(n:listed.size=ops.size) (r:∀i j,i<F pis->j<F pis->kz listed i->tb bs i j=A->kz listed j) {i:Nat} (h:i∈Region.ready .any ops listed) {j:Nat} (g:j<F pis) (p:tb bs i j=A):kz listed j:=by
 obtain⟨v,s,o,d,q⟩:=sR n h;obtain⟨w,t,a,e,k,c,b⟩:=f.TH i j (by omega) g p;rw[d]at a;simp only[aa]at a;subst a;have l:=q e k c;rcases b with rfl|b;.exact l
 have:=f.back i o d e k c;exact r e.on j (by omega) g l b
def AK.first(g:AK ops pis bs m ls fl){listed:Array Bool}(d:listed.size=ops.size)(h:Region.ready .any ops listed=[]):∀i,i<ops.size->kz listed i:=by
 intro i;induction i using Nat.strongRecOn with
 |ind i ih =>
 intro b;refine bC λa=>?_;have:i∈Region.ready .any ops listed:=by
  rw[mem_ready];refine⟨?_,ops[i],by simp[b],λe j f=>?_⟩;.simp only[kz,bJ]at a |-;rw[bD (by rw[d];exact b)]at a |-;simp at a |-;exact a
  have c:=g.back i ops[i] (by simp[b]) e j f;exact ih e.on c (by omega)
 rw[h]at this;simp at this
def Em{listed:Array Bool}(c:listed.size=ops.size)(h:∀i,i<ops.size->kz listed i):Region.ready .any ops listed=[]:=by refine ck.2 λi d=>?_;obtain⟨b,a,_⟩:=sR c d;exact a (h i b)
def AU(x:AK ops pis bs m ls fl)(X:rP P ops ops.toList=N pis){n B:Nat}{V:cy}{w0 W:aT}{l:ag}{v:Mem}{K:bk}{Q:Exit->Act->aT->Prop} (T:∀u w c a,K u->gU P B w0 w u.J c->FR w u.J c u.fr a->fX n W l v w u.J c->Q .normal a w) : ∀(b q:Nat) (listed:Array Bool) (D:List (Nat×dF)) (fr:ao) (J:ag) (w:aT) (c:Mem) (a:Act),m<=q->q<=F pis->listed.size=ops.size->(∀i,i<F pis->(kz listed i<->i<q))->F pis - q<=b ->Hc D (pis.drop q) V=A->kL P V (pis.drop q) K ⟨fr,J⟩->gU P B w0 w J c->DW w J c fr (wF D) a->fX n W l v w J c->wpAny P .any ops Q b listed a w:=by
 have hn:F pis=ops.size:=by rw[(ou X).1,aW]
 intro b;induction b with
 |zero =>
  intro q listed D fr J w c a O hq f e hf d g G z y;have k:q=F pis:=by omega
  subst k;rw[nN]at d g;refine wpAny_done (Em f λi C=>(e i (by omega)).2 (by omega)) ?_ 0;exact T _ w c a g G (z.ends d) y
 |succ b ih =>
 intro q listed D fr J w c a O hq f e hf d g G z y;by_cases k:q=F pis;.subst k;rw[nN]at d g;refine wpAny_done (Em f λi C=>(e i (by omega)).2 (by omega)) ?_ _;exact T _ w c a g G (z.ends d) y
 have s:q<F pis:=by omega
 refine⟨λh=>?_,λi C=>?_⟩;.have:=x.first f h q (by omega);rw[e q s]at this;omega
 obtain⟨h1,h2,o,h3,h4⟩:=sR f C;have L:i=q:=by have I:¬i<q:=λh=>h2 ((e i (by omega)).2 h);refine bC λgn=>?_;have R:=x.ready hn f (λi' j t E S ht=>by rw[e i' t]at S;have:=(x.TH i' j t E ht).1;exact(e j E).2 (by omega)) C s (x.tail i q (by omega) (by omega) (by omega));rw[e q s]at R;omega
 subst L;obtain⟨p,I,R⟩:=(ou X).2 i o (by simpa using h3);have H:pis.drop i=p::pis.drop (i+1):=by rw[cX s];congr 1;rw[an s]at I;simpa using I
 rw[H]at d g;simp only[Hc,aP]at d;simp only[wpOp,h3];refine opG R G z (Iy d.1) g ?_;intro r J' M a' w' k1 k2 U k4;rw[D3]at U;exact ih (i+1) _ _ _ J' w' M a' (by omega) (by omega) (by simpa using f) (λj E=>by rw[fF (by omega),e j E];omega) (by omega) d.2 k1 k2 U (y.trans k4.NW)
end
variable(X:List Pi)
def nX(m:Nat)(listed:Array Bool)(t:Nat):Option (dF) :=
 match (List.range m).find? (λi=>(fq X i).d==N t)with|none=>N []|some i=>if listed.getD i Z then N (fq X i).g else Y
section
variable {P:aM} {ops:Array Oper} {pis:List Pi} {bs:cy} {m:Nat} {ls fl:cy}
def AK.Am(f:AK ops pis bs m ls fl){listed:Array Bool}{i t:Nat}(c:i<m)(a:(fq pis i).d=N t):nX pis m listed t=if listed.getD i Z then N (fq pis i).g else Y:=by
 unfold nX;split;.rename_i h;rw[List.find?_eq_none]at h;exact absurd (h i (dt.2 c)) (by simp[a])
 rename_i j h;have b:=C7 h;have e:=dt.1 (xz h);simp only[b9]at b;rw[f.dst j i t e c b a]
def D1{listed:Array Bool}{t:Nat}(h:∀i,i<m->(fq pis i).d≠N t):nX pis m listed t=N []:=by
 unfold nX;split;.rfl
 rename_i j a;have b:=C7 a;have c:=dt.1 (xz a);simp only[b9]at b;exact absurd b (h j c)
def lP{listed:Array Bool}{t:Nat}{a:dF}(h:nX pis m listed t=N a): (a=[]/\∀i,i<m->(fq pis i).d≠N t)\/∃i,i<m/\(fq pis i).d=N t/\kz listed i/\a=(fq pis i).g:=by
 unfold nX at h;split at h;.rename_i b;rw[List.find?_eq_none]at b;simp only[aa]at h;exact .inl ⟨h.symm,λi n f=>b i (dt.2 n) (by simp[f])⟩
 rename_i j c;have e:=C7 c;have l:=dt.1 (xz c);simp only[b9]at e;split at h<;>simp only[aa,reduceCtorEq]at h;rename_i k;exact .inr ⟨j,l,e,k,h.symm⟩
def AK.qG(a:AK ops pis bs m ls fl){i j t:Nat}(e:i<m)(f:j<m)(b:(fq pis j).d=N t)(c:t∈looks (fq pis i)):tb bs i j=A:=by
 simp only[looks,bR,br]at c;rcases c with⟨s,l,rfl⟩|⟨q,n,rfl⟩;.exact(a.slot i s j e l f b).1
 obtain⟨g,o,h,k⟩:=a.chain i q e n;rw[a.dst j g _ f o b h];exact k
def AK.lt(a:AK ops pis bs m ls fl){i j:Nat}(c:i<m)(b:j<m)(h:tb bs i j=A):j<i :=(a.TH i j (dq c a.mn) (dq b a.mn) h).1
def AK.adx(a:AK ops pis bs m ls fl){listed:Array Bool}(G:∀i j,i<F pis->j<F pis->kz listed i->tb bs i j=A->kz listed j){i:Nat}(h:i<m)(C:¬kz listed i) (x:∀j,j<F pis->tb bs i j=A->kz listed j):JU (nX pis m listed) (fq pis i):=by
 have H:=a.mn;refine⟨λs B=>?_,λu t b v=>?_,λd f=>⟨λq n e=>?_,λt u k q n e=>?_⟩⟩
 .by_cases p:∃j,j<m/\(fq pis j).d=N s.1;.obtain⟨j,c,f⟩:=p;have:=a.slot i s j h B c f;have z:=x j (by omega) this.1;refine⟨(fq pis j).g,?_,this.2⟩;rw[a.Am c f,z];rfl
  exact⟨[],D1 λj c f=>p ⟨j,c,f⟩,by simp⟩
 .obtain⟨j,c,f,k⟩:=a.chain i (t,b) h (by rw[v];simp);rw[a.Am c f,x j (by omega) k,a.last i u t b j h v c f];rfl
 .obtain⟨j,c,l,k⟩:=a.chain i q h n;rw[e]at l;have:=a.dst i j d h c f l;subst this;have:=a.lt h h k;omega
 rcases lP k with⟨rfl,_⟩|⟨j,c,I,y,rfl⟩;.simp at n
 obtain⟨w,o,r,D⟩:=a.chain j q c n;have E:=G j w (by omega) (by omega) y D;rw[e]at r;have:=a.dst i w d h o f r;subst this;exact C E
def AK.sE(g:AK ops pis bs m ls fl){listed:Array Bool}{i:Nat}(l:i<m)(b:i<listed.size):sE (nX pis m listed) (fq pis i)=nX pis m (listed.setIfInBounds i A):=by
 funext t;simp only[Pm.sE];by_cases a:(fq pis i).d=N t;.have:(listed.setIfInBounds i A).getD i Z=A:=(fF b).2 (.inl rfl);rw[aK a,g.Am l a,this];rfl
 rw[au a];unfold nX;split;.rfl
 rename_i j h;have c:=C7 h;simp only[b9]at c;have f:j≠i:=λe=>a (e▸c);have:(listed.setIfInBounds i A).getD j Z=listed.getD j Z:=by have k:=fF (listed:=listed) (j:=j) b;simp only[f,qb,kz]at k;cases n:listed.getD j Z<;>simp_all
 rw[this]
def uX(P:aM)(pis:List Pi)(bs:cy)(m:Nat)(ls:cy)(b:bk)(k:Nat)(fr:ao)(J:ag):Prop :=
 match ls[k]? with
 |some L=>gI P (fq pis L) (λa=>(∀p∈(TO pis bs m ls k L).map (fq pis),CC p a)/\so P (CY pis bs m ls (k+1) (ls.drop (k+1))) ((nC pis bs m ls (F ls)).map (fq pis)) b a) ⟨fr,J⟩
 |none=>b ⟨fr,J⟩
def eB{k i:Nat}:i∈nC pis bs m ls k<->i<m/\(fq pis i).i.de=A/\Eg bs ls i=k:=by simp[nC]
def AK.XF(b:AK ops pis bs m ls fl){v:bk}{k:Nat}(y:k<=ls.length){fr:ao}{J:ag} (h:so P (CY pis bs m ls k (ls.drop k)) ((nC pis bs m ls ls.length).map (fq pis)) v ⟨fr,J⟩) : ∃fr',uX P pis bs m ls v k fr' J/\(∀i∈nC pis bs m ls k,Fact (fq pis i) fr' J)/\(∀t,(∀i∈nC pis bs m ls k,(fq pis i).d≠N t)->fr'[t]?=fr[t]?)/\fr'.length=fr.length:=by
 have u:(nC pis bs m ls k).Pairwise (λi j=>∀t,(fq pis j).d=N t->t ∉ looks (fq pis i)/\(fq pis i).d≠N t):=by
  refine afg ?_ (List.Pairwise.filter _ ajW);intro i j a c z t f;replace a:=(eB (k:=k)).1 a;replace c:=(eB (k:=k)).1 c;refine⟨λl=>?_,λr=>?_⟩;.have:=b.lt a.1 c.1 (b.qG a.1 c.1 f l);omega
  have:=b.dst i j t a.1 c.1 r f;omega
 have s:∀i∈nC pis bs m ls k,∀t,(fq pis i).d=N t->t ∉ looks (fq pis i):=λi a t f l=>by rw[eB]at a;have:=b.lt a.1 a.1 (b.qG a.1 a.1 f l);omega
 have w:∀i∈nC pis bs m ls k,(fq pis i).i.de=A:=λi a=>(eB.1 a).2.1;by_cases x:k<ls.length;.have e:ls.drop k=ls[k]::ls.drop (k+1):=cX x;rw[e]at h;simp only[CY,so]at h;obtain⟨fr',p,g,q,o⟩:=xP _ _ h w u s;refine⟨fr',?_,g,q,o⟩;simp only[uX,an x];exact p
 have n:k=ls.length:=by omega
 subst n;rw[nN]at h;simp only[CY,so]at h;obtain⟨fr',p,g,q,o⟩:=xP _ _ h w u s;refine⟨fr',?_,g,q,o⟩;have e:ls[ls.length]?=Y:=bK (ax _);simp only[uX,e];exact p
def Fa(n:Nat)(listed:Array Bool):Nat:=F ((List.range n).filter λi=>!listed.getD i Z)
def Hw{n m:Nat}{listed:Array Bool}(b:m<=n)(h:∀i,m<=i->i<n->¬kz listed i):n - m<=Fa n listed:=by
 have e:List.range n=List.range m++(List.range (n - m)).map (m+·):=by rw[<- List.range_add];congr 1;omega
 unfold Fa;rw[e,iW,ai];have:((List.range (n - m)).map (m+·)).filter (λi=>!listed.getD i Z)=(List.range (n - m)).map (m+·):=by rw[lj];intro i a;simp only[br,dt]at a;obtain⟨j,c,rfl⟩:=a;have:=h (m+j) (by omega) (by omega);simpa[kz]using this
 rw[this];simp
def Mf{n:Nat}{listed:Array Bool}{i:Nat}(a:i<n)(h:¬kz listed i):0<Fa n listed:=by unfold Fa;rw[List.length_pos_iff_exists_mem];exact⟨i,by simp only[cV,dt];exact⟨a,by simpa[kz]using h⟩⟩
def Me{n:Nat}{listed:Array Bool}{i:Nat}(p:i<n)(c:i<listed.size)(h:¬kz listed i):Fa n (listed.setIfInBounds i A)+1<=Fa n listed:=by
 induction n with
 |zero=>omega
 |succ n ih =>
 have d:∀l:Array Bool,Fa (n+1) l=Fa n l+if l.getD n Z then 0 else 1:=by intro l;unfold Fa;rw[C5,iW,ai];congr 1;rw[dS];cases o:l.getD n Z<;>rfl
 rw[d,d];by_cases f:i=n
 .subst f;have g:(listed.setIfInBounds i A).getD i Z=A:=(fF c).2 (.inl rfl);have a:listed.getD i Z=Z:=by simpa[kz]using h
  rw[g,a];have:Fa i (listed.setIfInBounds i A)=Fa i listed:=by
   unfold Fa;congr 1;refine List.filter_congr λj m=>?_;rw[dt]at m;have a:=fF (listed:=listed) (j:=j) c;have b:j≠i:=by omega
   simp only[b,qb,kz]at a;cases k:listed.getD j Z<;>simp_all
  simp[this]
 have g:=ih (by omega);have a:=fF (listed:=listed) (j:=n) c;have b:n≠i:=λe=>f e.symm;simp only[b,qb,kz]at a;have:(listed.setIfInBounds i A).getD n Z=listed.getD n Z:=by cases k:listed.getD n Z<;>simp_all
 rw[this];omega
def D0(pis:List Pi)(m:Nat):List (Nat×dF):=(List.range m).filterMap λi=>(fq pis i).d.map λd=>(d,(fq pis i).g)
def IJ{t:Nat}{x:dF}:∀{D:List (Nat×dF)},(∀v,(t,v)∈D->v=x)->(∃v,(t,v)∈D)->qH D t=x
 |[],_,h=>by obtain⟨v,c⟩:=h;simp at c
 |(s,v)::D,h,he=>by
  simp only[qH,Ud];by_cases b:t=s;.subst b;simp[h v (by simp)]
  have f:(t==s)=Z:=by simpa using b
  rw[f];refine IJ (D:=D) (λv c=>h v (by simp[c])) ?_;obtain⟨d,a⟩:=he;rcases bE.1 a with e|a;.simp only[aB]at e;exact absurd e.1 b
  exact⟨d,a⟩
def AK.all(k:AK ops pis bs m ls fl){listed:Array Bool}(h:∀i,i<m->kz listed i):nX pis m listed=wF (D0 pis m):=by
 funext t;have e:∀v,(t,v)∈D0 pis m<->∃i,i<m/\(fq pis i).d=N t/\v=(fq pis i).g:=by
  intro v;simp only[D0,lV,dt,al,aB];constructor;.rintro⟨i,a,d,b,rfl,rfl⟩;exact⟨i,a,b,rfl⟩
  rintro⟨i,a,b,rfl⟩;exact⟨i,a,t,b,rfl,rfl⟩
 by_cases f:∃i,i<m/\(fq pis i).d=N t;.obtain⟨i,a,b⟩:=f;rw[k.Am a b,h i a];simp only[aU,wF,aa];refine(IJ (λv n=>?_) ⟨_,(e _).2 ⟨i,a,b,rfl⟩⟩).symm;obtain⟨j,o,l,rfl⟩:=(e v).1 n;rw[k.dst i j t a o b l]
 rw[D1 λi a b=>f ⟨i,a,b⟩];simp only[wF,aa];rcases yf (D:=D0 pis m) (t:=t)with c|c;.exact c.symm
 obtain⟨i,a,b,_⟩:=(e _).1 c;exact absurd ⟨i,a,b⟩ f
end
def Ny{P:aM}{p:Pi}{fr:ao}{J:ag}(h:Fact p fr J):GI P p (λa=>a=⟨fr,J⟩) fr J:=by
 obtain⟨c,f,r,b,j⟩:=h;cases c with
 |false=>exact⟨Z,f,.inr ⟨rfl,r,by rw[b]⟩⟩
 |true =>
 obtain⟨m,e,l⟩:=j rfl;refine⟨A,f,.inl ⟨rfl,λa=>a=⟨fr,J⟩,?_,λ_ h=>h⟩⟩;obtain⟨d,g,i⟩:=p;have k:=wq e;cases i<;>first|(simp[I.de]at k;done)|skip
 all_goals
  simp only[jO];simp only at e b;rw[e];exact⟨l,by rw[b]⟩
section
variable {P:aM} {ops:Array Oper} {pis:List Pi} {bs:cy} {m:Nat} {ls fl:cy}
def wh(c:AK ops pis bs m ls fl)(hp:rP P ops ops.toList=N pis){n B:Nat}{gs:cy}{w0 ws:aT}{ad:ag}{ap:Mem}{K:bk}{Q:Exit->Act->aT->Prop} (hQ:∀st w D a,K st->gU P B w0 w st.J D->FR w st.J D st.fr a->fX n ws ad ap w st.J D->Q .normal a w) (u:Hc (D0 pis m) (pis.drop m) gs=A) : ∀(g k:Nat) (listed:Array Bool) (fr:ao) (J:ag) (w:aT) (D:Mem) (a:Act),listed.size=ops.size->(∀f∈fl,kz listed f) ->(∀i j,i<pis.length->j<pis.length->kz listed i->tb bs i j=A->kz listed j)->(∀i,m<=i->i<pis.length->¬kz listed i)->k<=ls.length ->(∀j L,ls[j]?=N L->(kz listed L<->j<k))->(∀i,i<m->(fq pis i).i.de=A->Eg bs ls i<=k->¬kz listed i->Fact (fq pis i) fr J) ->uX P pis bs m ls (kL P gs (pis.drop m) K) k fr J->Fa pis.length listed<=g ->gU P B w0 w J D->DW w J D fr (nX pis m listed) a->fX n ws ad ap w J D->wpAny P .any ops Q g listed a w:=by
 have hn:pis.length=ops.size:=by rw[(ou hp).1,aW]
 have hm:=c.mn;intro g;induction g with
 |zero =>
  intro k listed fr J w D a W uq hc xC hk qh C2 S hu hS hF Ls;have SE:∀i,i<pis.length->kz listed i:=λi E=>bC λh=>by have:=Mf E h;omega
  have H:∀i,i<m->kz listed i:=λi E=>SE i (by omega);have sC:k=ls.length:=by
   refine bC λgn=>?_;have dC:k<ls.length:=by omega
   have:=(qh k ls[k] (an dC)).1 (H _ (c.Ue _ (cS dC)).1);omega
  subst sC;have e:ls[ls.length]?=Y:=bK (ax _);simp only[uX,e]at S;rw[c.all H]at hF;exact AU c hp hQ 0 m listed _ fr J w D a (ax _) hm W (λi E=>⟨λh=>bC λI=>xC i (by omega) E h,λh=>H i h⟩) (by have:=Hw hm xC;omega) u S hS hF Ls
 |succ g ih =>
 intro k listed fr J w D a W uq hc xC hk qh C2 S hu hS hF Ls;by_cases H:∀i,i<m->kz listed i
 .have sC:k=ls.length:=by
   refine bC λgn=>?_;have dC:k<ls.length:=by omega
   have:=(qh k ls[k] (an dC)).1 (H _ (c.Ue _ (cS dC)).1);omega
  subst sC;have e:ls[ls.length]?=Y:=bK (ax _);simp only[uX,e]at S;rw[c.all H]at hF;exact AU c hp hQ _ m listed _ fr J w D a (ax _) hm W (λi E=>⟨λh=>bC λI=>xC i (by omega) E h,λh=>H i h⟩) (by have:=Hw hm xC;omega) u S hS hF Ls
 refine⟨λh=>absurd (λi E=>c.first W h i (by omega)) H,λi E=>?_⟩;obtain⟨a5,PA,o,ho,_⟩:=sR W E;have uo:i<pis.length:=by omega
 have EO:∀j,j<pis.length->tb bs i j=A->kz listed j:=λj v u=>c.ready hn W hc E v u;have G:i<m:=by refine bC λh=>H λj v=>?_;exact EO j (by omega) (c.tail i j (by omega) uo (by omega))
 obtain⟨p,a1,QD⟩:=(ou hp).2 i o (by simpa using ho);have M:fq pis i=p:=by simp[fq,aq,a1]
 have jf:JU (nX pis m listed) p:=M▸c.adx hc G PA EO;have s:∀x j,x<pis.length->j<pis.length->kz (listed.setIfInBounds i A) x->tb bs x j=A->kz (listed.setIfInBounds i A) j:=by
  intro x j b v l u;rw[fF (by omega)]at l |-;rcases l with rfl|l;.exact .inr (EO j v u)
  exact .inr (hc x j b v l u)
 have ac:∀x,m<=x->x<pis.length->¬kz (listed.setIfInBounds i A) x:=by
  intro x b a0 l;rw[fF (by omega)]at l;rcases l with rfl|l;.omega
  exact xC x b a0 l
 have af:Fa pis.length (listed.setIfInBounds i A)<=g:=by have:=Me uo (by omega:i<listed.size) PA;omega
 have Zu:∀x,x<m->(fq pis x).i.de=A->(∀j,j<pis.length->tb bs x j=A->kz listed j)->Eg bs ls x<=k:=by
  intro x b hs am;refine bC λdC=>?_;have h1:Eg bs ls x<=ls.length:=fQ _ _;have I:k<ls.length:=by omega
  have R:=(c.Hb x k ls[k] b hs (an I)).2 (by omega);have h4:=am ls[k] (by have:=(c.Ue _ (cS I)).1;omega) R;have:=(qh k ls[k] (an I)).1 h4;omega
 simp only[wpOp,ho];by_cases hs:p.i.de=A;.
  have T:(fq pis i).i.de=A:=by rw[M];exact hs
  have hf:=C2 i G T (Zu i G T EO) PA;rw[M]at hf;refine YJ QD hS hF jf (Ny hf) ?_;intro r J' O a' w' k1 k2 X k4;simp only[St.mk.injEq]at k1;obtain⟨k1,rfl⟩:=k1;rw[k1]at X;have e:sE (nX pis m listed) p=nX pis m (listed.setIfInBounds i A):=by rw[<- M];exact c.sE G (by omega)
  rw[e]at X;refine ih k _ fr J' w' O a' (by simpa using W) (λf hf=>(fF (by omega)).2 (.inr (uq f hf))) s ac hk (λj L hL=>?_) (λx b U Zq ub=>C2 x b U Zq λh=>ub ((fF (by omega)).2 (.inr h))) S af k2 X (Ls.trans k4.NW);rw[fF (by omega),qh j L hL];have:L≠i:=λe=>by have:=(c.Ue L (bc hL)).2;rw[e,T]at this;simp at this
  simp[this]
 have T:(fq pis i).i.de=Z:=by rw[M];simpa using hs
 obtain⟨j,v⟩:=eC.1 ((c.IH i G T).resolve_right λh=>PA (uq i h));have No:j=k:=by
  have h1:¬j<k:=λh=>PA ((qh j i v).2 h);refine bC λgn=>?_;have lz:=(ab.1 v).1;have sC:k<ls.length:=by omega
  have I:=c.Vf k j i ls[k] (by omega) (an sC) v;have R:=EO ls[k] (by have:=(c.Ue _ (cS sC)).1;omega) I;have:=(qh k ls[k] (an sC)).1 R;omega
 subst No;have lz:j<ls.length:=(ab.1 v).1;simp only[uX,v,M]at S;refine opG QD hS hF jf S ?_;intro r J' O a' w' k1 k2 X k4;obtain⟨ZS,dA⟩:=k1;obtain⟨fr',h1,I,R,h4⟩:=c.XF (k:=j+1) (by omega) dA;have e:sE (nX pis m listed) p=nX pis m (listed.setIfInBounds i A):=by rw[<- M];exact c.sE G (by omega)
 rw[e]at X;have ku:∀x∈nC pis bs m ls (j+1),¬kz (listed.setIfInBounds i A) x:=by
  intro x b l;rw[eB]at b;rw[fF (by omega)]at l;rcases l with rfl|l;.rw[T]at b;simp at b
  have:=Zu x b.1 b.2.1 λy C u=>hc x y (by omega) C l u;omega
 have B5:∀t y,y<m->(fq pis y).d=N t->kz (listed.setIfInBounds i A) y->fr'[t]?=(ek fr p.d r)[t]?:=by intro t y C hd l;refine R t λx b av=>ku x b ?_;rw[c.dst x y t (eB.1 b).1 C av hd];exact l
 have aV:DW w' J' O fr' (nX pis m (listed.setIfInBounds i A)) a':=by
  refine⟨X.1,by rw[h4];exact X.2.1,λt x b ch zr=>?_⟩;have Lh:fr'[t]?=(ek fr p.d r)[t]?:=by
   rcases lP zr with⟨_,tj⟩|⟨y,C,hd,l,_⟩;.exact R t λx b=>tj x (eB.1 b).1
   exact B5 t y C hd l
  have B0:chainB fr' ch=chainB (ek fr p.d r) ch:=by
   refine mm λq hq=>?_;rcases lP zr with⟨rfl,_⟩|⟨y,C,hd,l,rfl⟩;.simp at hq
   obtain⟨z,hz,a3,a2⟩:=c.chain y q C hq;exact B5 q.1 z hz a3 (s y z (by omega) (by omega) l a2)
  rw[B0];rw[Lh]at b;exact X.2.2 t x b ch zr
 refine ih (j+1) _ fr' J' w' O a' (by simpa using W) (λf hf=>(fF (by omega)).2 (.inr (uq f hf))) s ac (by omega) (λy L hL=>?_) (λx b U Zq ub=>?_) h1 af k2 aV (Ls.trans k4.NW)
 .rw[fF (by omega),qh y L hL];constructor
  .rintro(rfl|h);.refine bC λgn=>?_;have h5:=c.Vf j y L L (by omega) v hL;have:=c.lt G G h5;omega
   omega
  intro h;rcases gF y j with h5|h5;.exact .inr h5
  have:y=j:=by omega
  subst this;rw[hL]at v;simp only[aa]at v;exact .inl v
 by_cases a4:Eg bs ls x=j+1;.exact I x (eB.2 ⟨b,U,a4⟩)
 have V:Eg bs ls x<=j:=by omega
 have Sp:¬kz listed x:=λh=>ub ((fF (by omega)).2 (.inr h));have ZA:¬tb bs i x=A:=λh=>Sp (EO x (by omega) h);have GG:Fact (fq pis x) (ek fr p.d r) J':=by
  by_cases hr:(fq pis x).i.reads=A;.exact(ZS (fq pis x) (br.2 ⟨x,by simp[TO,b,U,hr,V,ZA],rfl⟩)).fact
  have aE:(fq pis x).i.reads=Z:=by simpa using hr
  refine Fact.still (Fact.agree (C2 x b U V Sp) (λt u=>?_) (λt u=>?_) oG) aE;.refine kK λhd=>?_;have h5:=c.qG b G (M▸hd) u;have:=(c.Hb x j i b U v).1 h5;omega
  refine kK λhd=>?_;have:=c.dst x i t b G u (M▸hd);subst this;rw[U]at T;simp at T
 refine Fact.agree GG (λt u=>?_) (λt u=>?_) h4;.refine R t λy C V7=>?_;rw[eB]at C;have:=c.mono x y t b U C.1 C.2.1 V7 u;omega
 refine R t λy C V7=>?_;rw[eB]at C;have:=c.dst x y t b C.1 u V7;subst this;omega
end
variable(X:Array Oper)(U:List Pi)
def U6(bs:cy)(m:Nat)(ls fl:cy):Bool :=decide (m<=F U) &&
 (((List.range X.size).all λi=>match X[i]? with
  |some o=>o.after.toList.all λe=>!Region.binds .any e||decide (e.on<i)
  |none=>A) &&
 (((List.range (F U)).all λi=>(List.range (F U)).all λj=>!tb bs i j||(decide (j<i)&&match X[i]? with
  |some o=>o.after.toList.any λe=>Region.binds .any e&&(e.on==j||tb bs e.on j)
  |none=>Z)) &&
 (((List.range (F U)).all λi=>decide (i<m)||(List.range i).all λj=>tb bs i j) &&
 (((List.range m).all λi=>(List.range i).all λj=>match (fq U i).d with
  |none=>A
  |some t=>(fq U j).d != N t) &&
 (((List.range m).all λi=>(fq U i).i.de||(ls.contains i||fl.contains i)) &&
 ((ls.all λL=>decide (L<m)&&!(fq U L).i.de) &&
 (((List.range (F ls)).all λk=>(List.range k).all λj=>tb bs (ls.getD k 0) (ls.getD j 0)) &&
 (((List.range m).all λi=>!(fq U i).i.de||(List.range (F ls)).all λk=>tb bs i (ls.getD k 0)==decide (k<Eg bs ls i)) &&
 (((List.range m).all λi=>(fq U i).i.nU.all λs=>(List.range m).all λj=>(fq U j).d != N s.1||(tb bs i j&&(fq U j).g.isPrefixOf ((fq U i).g++s.2))) &&
 (((List.range m).all λi=>(fq U i).g.all λq=>(List.range m).any λj=>(fq U j).d==N q.1&&tb bs i j) &&
 (((List.range m).all λi=>match (fq U i).g.getLast? with
  |none=>A
  |some q=>(List.range m).all λj=>(fq U j).d != N q.1||(fq U j).g==(fq U i).g.dropLast) &&
 ((List.range m).all λi=>!(fq U i).i.de||(List.range m).all λj=>!(fq U j).i.de||match (fq U j).d with|none=>A|some t=>!(looks (fq U i)).contains t||decide (Eg bs ls j<=Eg bs ls i)))))))))))))
section
variable {P:aM} {ops:Array Oper} {pis:List Pi} {bs:cy} {m:Nat} {ls fl:cy}
def GN{ls:cy}{k L:Nat}(h:ls[k]?=N L):ls.getD k 0=L:=by rw[aq,h];rfl
def Rz(h:U6 ops pis bs m ls fl=A)(_hn:F pis=ops.size):AK ops pis bs m ls fl:=by
 simp only[U6,aP,cv,dt,a7]at h;obtain⟨O,C,H,D,Q,S,P,G,T,I,J,U,v⟩:=h;constructor;.exact O
 .intro i o r e z x;have:=C i (bh.1 r).1;rw[r]at this;simp only[cv,dW,da,a7]at this;rcases this e (Array.mem_toList_iff.2 z)with h|h;.rw[x]at h;simp at h
  exact h
 .intro i j a c w;have:=H i a j c;rw[w]at this;simp only[fL,ia,aP,a7]at this;refine⟨this.1,?_⟩;have h:=this.2;split at h;.rename_i o r;simp only[List.any_eq_true,aP,dW,b9]at h;obtain⟨e,z,x,B⟩:=h;exact⟨o,r,e,Array.mem_toList_iff.1 z,x,B⟩
  simp at h
 .intro i j E a c;have:=D i a;simp only[dW,a7,cv,dt]at this;rcases this with h|h;.omega
  exact h j c
 .intro i j t a c u p;have n:∀i j,i<m->j<i->(fq pis i).d=N t->(fq pis j).d=N t->False:=by intro i j a c u p;have:=Q i a j c;rw[u]at this;simp only[nq,fJ]at this;exact this p
  rcases Nat.lt_trichotomy i j with h|h|h;.exact(n j i c h p u).elim
  .exact h
  exact(n i j a h u p).elim
 .intro i a g;have:=S i a;rw[g]at this;simpa using this
 .intro L f;have:=P L f;simpa using this
 .intro j k L X V y f;have:=G k (ab.1 f).1 j V;rwa [GN f,GN y]at this
 .intro i k L a g f;have:=T i a;rw[g]at this;simp only[fL,ia,cv,dt,b9]at this;have:=this k (ab.1 f).1;rw[GN f]at this;rw[this];simp
 .intro i s j a g c l;have:=I i a s g j c;simp only[dW,nq,fJ,aP]at this;rcases this with h|h;.exact absurd l h
  exact h
 .intro i q a M;have:=J i a q M;simp only[List.any_eq_true,dt,aP,b9]at this;obtain⟨j,c,h⟩:=this;exact⟨j,c,h⟩
 .intro i W t b j a K c l;have:=U i a;rw[K]at this;simp only[kI,ju,qc,List.dropLast_concat,cv,dt,dW,nq,fJ,b9]at this;rcases this j c with h|h;.exact absurd l h
  exact h
 intro i j t a g c R l w;have:=v i a;rw[g]at this;simp only[fL,ia,cv,dt]at this;have:=this j c;rw[R,l]at this;simp only[fL,ia,dW,da,a7]at this;rcases this with h|h;.simp at h;exact absurd w h
 exact h
def mX(bs:cy):Nat->Nat|0=>0|i+1=>if bs.getD i 0==2^i - 1 then mX bs i else i+1
def v7{n B:Nat}{r:cy}{K:bk}{Q:Exit->Act->aT->Prop}(v:rP P ops ops.toList=N pis)(O:U6 ops pis bs m ls []=A) (E:Hc (D0 pis m) (pis.drop m) r=A) {fr:ao} {J:ag} {z w:aT} {g:Mem} {a:Act} (h:so P (CY pis bs m ls 0 ls) ((nC pis bs m ls ls.length).map (fq pis)) (kL P r (pis.drop m) K) ⟨fr,J⟩) (hS:gU P B z w J g) (X:FR w J g fr a) (U:∀b w' c f,K b->gU P B z w' b.J c->FR w' b.J c b.fr f->fX n w J g w' b.J c->Q .normal f w'):wpAny P .any ops Q ops.size (Array.replicate ops.size Z) a { w with drawn:=w.drawn+1 }:=by
 have C:pis.length=ops.size:=by rw[(ou v).1,aW]
 have q:=Rz O C;obtain⟨p,u⟩:=hS.grown (w':={ w with drawn:=w.drawn+1 }) ⟨rfl,rfl,rfl,ax _,λ_ _ _=>rfl⟩;have d:=X.fU u.fU;obtain⟨fr',V,D,M,H⟩:=q.XF (k:=0) (eR _) (by simpa using h);have l:∀i,¬kz (Array.replicate ops.size Z) i:=by intro i;simp only[kz,bJ,yQ];split<;>simp
 refine wh (n:=n) q v (λb w' c f T R G S=>U b w' c f T R G (fX.trans u.fU.NW S)) E ops.size 0 _ fr' J _ g a (by simp) (by simp) (λi j _ _ e=>absurd e (l i)) (λi _ _=>l i) (eR _) (λj L hL=>⟨λe=>absurd e (l L),λh=>by omega⟩) (λi o hs Zu _=>D i (eB.2 ⟨o,hs,by omega⟩)) V (by rw[C];unfold Fa;exact bX (fQ _ _) (by simp)) p ?_ (fX.refl _ _ _ _);refine⟨d.1,by rw[H];exact d.2.1,λt x s ch I=>?_⟩;rcases lP I with⟨rfl,W⟩|⟨y,hy,hd,e,_⟩;.rw[M t λi o=>W i (eB.1 o).1]at s;exact⟨λ_=>d.2.2 t x s,λh=>by simp[chainB]at h⟩
 exact absurd e (l y)
def H0{id n B:Nat}{i:cy}{K:bk}{Q:Exit->Act->aT->Prop}(p:P.follows .mixedOrders=A)(j:rP P ops ops.toList=N pis)(l:U6 ops pis bs m ls []=A) (k:Hc (D0 pis m) (pis.drop m) i=A) {fr:ao} {J:ag} {f w:aT} {e:Mem} {a:Act} (h:so P (CY pis bs m ls 0 ls) ((nC pis bs m ls (F ls)).map (fq pis)) (kL P i (pis.drop m) K) ⟨fr,J⟩) (q:gU P B f w J e) (r:FR w J e fr a) (o:∀b d c g,K b->gU P B f d b.J c->FR d b.J c b.fr g->fX n w J e d b.J c->Q .normal g d):(Code.region id ops A).wp P Q a w :=wp_region_any p (v7 j l k h q r o)
end
end Go.Pm

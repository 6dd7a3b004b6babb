/- A part of a proof; the claim's last text says of what. -/
import Derived.Calls
set_option linter.all false

namespace Go.Pm
open Go
variable(p:Program)(T:Frame)(l:Bool)(U:List Frame)(X:Option Dying)(m:Machine)(d:Nat)(L:Rest)(C:Bool)(J:Dying)(w:World){b:Addr}{x:Bool}{M:List Addr}{E G:Machine}{D:Nat}{P:Program}{K:Value}{R Q:World}
def Qj{c:Type}:∀(k:Ask c) (w:World),w.drawn<=(w.ask k).2.drawn:=by
 intro k;induction k with
 |done a=>intro w;exact Nat.le_refl _
 |ask b range k ih =>
 intro w;simp only[World.ask];split;.exact ih _ w
 have:=ih ((Question.extern b range).cut (w.tape w.drawn (Question.extern b range))) { w with drawn:=w.drawn+1 };exact Nat.le_trans (Nat.le_succ _) this
def N2(c:Sys):w.drawn<=(w.sys c).2.drawn:=by
 have h:=Qj (Kernel.perform c w.os) w;unfold World.sys;split;.exact Nat.le_refl _
 rename_i r os a e;rw[e]at h;exact h
def zN{a:Addr}{u:TypeId}(h:R.viewStore P b u a K x=.ok (Q,M)):Q.drawn=R.drawn:=by
 unfold World.viewStore at h;simp only[bind,Except.bind,pure,Except.pure]at h;repeat' split at h
 all_goals first
  |(simp only[Except.ok.injEq,Prod.mk.injEq]at h;obtain⟨rfl,_⟩:=h;rfl)
  |cases h
def Cn(h:R.farStore P b K x=.ok (Q,M)):Q.drawn=R.drawn:=by
 unfold World.farStore at h;split at h
 .split at h;.rename_i r e;simp only[Except.ok.injEq]at h;subst h;exact zN e
  cases h
 cases h
def GO(a:Addr)(n:Nat):(w.freeze a n).drawn=w.drawn:=by unfold World.freeze;split<;>rfl
def RD{a:Type}:Result a->Prop|.ok _ w=>d<=w.drawn|.halt _ w=>d<=w.drawn
def RD.mono{a:Type}{d e:Nat}(h:d<=e):∀{r:Result a},RD e r->RD d r|.ok _ _,k=>Nat.le_trans h k|.halt _ _,k=>Nat.le_trans h k
def Eh{a:Type}{p:Program}:∀(s:Sem a) (w:World),RD w.drawn (s.run p w):=by
 intro s;induction s with
 |pure b=>intro w;exact Nat.le_refl _
 |load m b k ih =>
  intro w;simp only[Sem.run];split;.exact ih _ _
  split;.exact ih _ _
  exact Nat.le_refl _
 |store m b v k ih =>
  intro w;cases v<;>simp only[Sem.run]<;>try exact Nat.le_refl _
  all_goals
   split
   .split;.exact Nat.le_refl _
    exact RD.mono (Nat.le_refl _) (ih _)
   split;.rename_i e;exact RD.mono (Nat.le_of_eq (Cn e).symm) (ih _)
   exact Nat.le_refl _
 |new o k ih=>intro w;simp only[Sem.run];exact RD.mono (Nat.le_refl _) (ih _ _)
 |shape r k ih=>intro w;simp only[Sem.run];exact ih _ _
 |freeze b n k ih=>intro w;simp only[Sem.run];exact RD.mono (Nat.le_of_eq (GO w b n).symm) (ih _)
 |frozen b k ih=>intro w;simp only[Sem.run];exact ih _ _
 |getObj r k ih =>
  intro w;simp only[Sem.run];split;.exact Nat.le_refl _
  .exact ih _ _
  exact Nat.le_refl _
 |setObj r o k ih =>
  intro w;simp only[Sem.run];split;.exact Nat.le_refl _
  .exact RD.mono (Nat.le_refl _) (ih _)
  exact Nat.le_refl _
 |choose q k ih =>
  intro w;simp only[Sem.run];split;.exact ih _ _
  exact RD.mono (Nat.le_succ _) (ih _ _)
 |sys c k ih=>intro w;simp only[Sem.run];exact RD.mono (N2 w c) (ih _ _)
 |program k ih=>intro w;simp only[Sem.run];exact ih _ _
 |mark m k ih=>intro w;simp only[Sem.run];exact ih _
 |halt x=>intro w;exact Nat.le_refl _
def gz{b:Type}{p:Program}{s:Sem b}{a:b}(h:s.run p R=.ok a Q):R.drawn<=Q.drawn:=by have:=Eh (p:=p) s R;rwa [h]at this
def run_halt{b:Type}{p:Program}{s:Sem b}{a:Halt}(h:s.run p R=.halt a Q):R.drawn<=Q.drawn:=by have:=Eh (p:=p) s R;rwa [h]at this
def GD:GStep->Prop
 |.go _ w _|.comm _ _ _ _ w _|.spawn _ _ w _|.count _ w _|.timer _ _ w _|.alone _ _ w _|.newcoro _ _ _ w _|.coroswitch _ _ _ w _|.collect _ w _|.watch _ w _=>d<=w.drawn
 |.ended ..=>True
def GD.after{a:Array Event}:∀{s:GStep},GD D s->GD D (s.after a):=by intro s h;cases s<;>exact h
def GD.mono{d e:Nat}(h:d<=e):∀{s:GStep},GD e s->GD d s:=by intro s k;cases s<;>first|exact Nat.le_trans h k|trivial
def GD.ite{c:Prop}[Decidable c]{x y:GStep}(h:GD D x)(k:GD D y):GD D (if c then x else y):=by split<;>assumption
def LL(a:Nat)(t:ByteArray)(o:Outcome):GD d (endWith w a t o):=by simp only[endWith];(repeat' split)<;>trivial
def tx(a:Frame)(c:List Frame)(b:Option Dying)(v:Value)(w:World):GD w.drawn (doReturn p l a c b v w):=by simp only[doReturn];(repeat' split)<;>first|trivial|exact Nat.le_refl _
def tu(v:Value)(w:World):GD w.drawn (endPrinting p T v w):=by simp only[endPrinting];(repeat' split)<;>first|trivial|exact Nat.le_refl _
def zy(m:String)(w:World):GD w.drawn (endFatal p T U X m w):=by
 simp only[endFatal];split;.rename_i e;exact gz e
 .trivial
 trivial
def J9(f:Fatal)(w:World):GD w.drawn (writeOn p T J f w):=by
 unfold writeOn;split;.trivial
 simp only;split;.rename_i e;rw[Sem.runT_eq]at e;simp only[Prod.mk.injEq]at e;exact gz e.1
 .rename_i e;rw[Sem.runT_eq]at e;simp only[Prod.mk.injEq]at e;exact run_halt e.1
 .trivial
 trivial
def aaA:GD w.drawn (die p T J w):=by
 unfold die;split;.exact J9 ..
 split
 .split;.exact Nat.le_refl _
  exact LL ..
 simp only;split;.exact Nat.le_refl _
 .split;.rename_i e;exact gz e
  trivial
 .rw[Sem.runT_eq];refine GD.after ?_;simp only;split;.rename_i e;exact gz e
  .rename_i e;exact gz e
  .trivial
  .rename_i e;exact GD.mono (run_halt e) (tu ..)
  trivial
 trivial
def Ac(d:Deferred)(w:World):GD w.drawn (callDeferred p T U X d w):=by
 simp only[callDeferred,Sem.runT_eq];refine GD.ite trivial ?_;refine GD.after ?_;(repeat' split)<;>first
  |trivial
  |exact gz ‹_›
  |exact run_halt ‹_›
  |exact GD.mono (run_halt ‹_›) (zy ..)
def NU(c:Frame)(b:List Frame)(a:Option Dying)(w:World):GD w.drawn (unwind p l c b a w):=by
 simp only[unwind,Sem.runT_eq];split
 .refine GD.after ?_;split;.exact gz ‹_›
  trivial
 .exact Ac ..
 split;.trivial
 . (repeat' split)<;>first
   |trivial
   |exact Nat.le_refl _
   |exact gz ‹_›
   |exact tu ..
 split;.exact tx ..
 refine GD.after ?_;split;.exact GD.mono (gz ‹_›) (tx ..)
 .trivial
 trivial
def Tw:GD w.drawn (early p T U X d w):=by
 simp only[early];(repeat' split)<;>first
  |trivial
  |exact Nat.le_refl _
  |exact gz ‹_›
  |exact(gz ‹Sem.run _ _ _=_›:_)
def JN(d:Frame)(c:List Frame)(b:Option Dying)(s:Sem Next)(w:World):GD w.drawn (stepG.apply p l d c b s w):=by
 simp only[stepG.apply];have a:(if l=true then s.runT p w #[]else(s.run p w,#[])).1=s.run p w:=by split<;>simp
 generalize (if l=true then s.runT p w #[]else(s.run p w,#[]))=x at a;obtain⟨r,e⟩:=x;simp only at a;subst a;refine GD.after ?_;simp only;(repeat' split)<;>first
  |trivial
  |exact gz ‹_›
  |exact run_halt ‹_›
  |exact GD.mono (run_halt ‹_›) (zy ..)
  |exact GD.mono (run_halt ‹_›) (Tw ..)
def W6(c:Frame)(b:List Frame)(a:Option Dying)(w:World):GD w.drawn (stepG.exec p l C c b a w):=by
 simp only[stepG.exec,stepG.oper,Sem.runT_eq,Option.elim]
 (repeat' split)<;>repeat' first
  |trivial
  |exact Nat.le_refl _
  |exact gz ‹_›
  |exact run_halt ‹_›
  |exact JN ..
  |exact GD.mono (gz ‹_›) (JN ..)
  |exact GD.mono (gz ‹_›) (tx ..)
  |refine GD.after ?_
  |split
def Q5(g:Goroutine)(w:World):GD w.drawn (stepG p l g w C):=by
 unfold stepG;simp only;split;.exact aaA ..
 .exact W6 ..
 exact NU ..
def SD:Stepped->Prop|.next m=>d<=m.world.drawn|.ended ..=>True
def SD.mono{d e:Nat}(h:d<=e):∀{s:Stepped},SD e s->SD d s:=by intro s k;cases s<;>first|exact Nat.le_trans h k|trivial
def M6(b:Array Goroutine)(a:Rest)(w:World):SD w.drawn (look p b a w):=by
 simp only[look];(repeat' split)<;>first
  |trivial
  |(have:=gz ‹Sem.run p _ w=Result.ok _ _›;exact this)
def Cx(j:Array Goroutine)(i:Nat)(g:Goroutine)(d:Array CommCase)(b:Bool)(k:CommShape)(w:World):SD w.drawn (communicate p L j i g d b k w).1:=by
 have e:∀a,waitingAt L d w=some a->a.drawn=w.drawn:=by intro a h;unfold waitingAt at h;(repeat' split at h)<;>simp only[Option.some.injEq,reduceCtorEq]at h<;>subst h<;>rfl
 simp only[communicate];(repeat' split)<;>first
  |trivial
  |exact Nat.le_refl _
  |exact Nat.le_of_eq (e _ ‹_›).symm
  |(have c:=gz ‹Sem.run p _ w=Result.ok _ _›;first|exact c|exact Nat.le_trans c (run_halt ‹Sem.run p _ _=Result.halt _ _›)|(have f:=gz ‹Sem.run p (choose _) _=Result.ok _ _›;exact Nat.le_trans c f))
def Ek(t:Timer)(a b:Nat):(retime m d t a b).2.world.drawn=m.world.drawn:=by unfold retime;cases e:t.chan with|none=>rfl|some c =>simp only[drain];split<;>rfl
def Ki(e:Machine)(o:TimerOp)(v:Value)(h:timerOp m o=.ok (v,e)):e.world.drawn=m.world.drawn:=by
 have i:∀(n:Machine) (d:Addr) (f:Nat->Timer->Value×Machine),(∀k t,(f k t).2.world.drawn=m.world.drawn)->timerOp.named n d f=.ok (v,e)->e.world.drawn=m.world.drawn:=by
  intro n d f j h;unfold timerOp.named at h;split at h;.rename_i k _;simp only[Except.ok.injEq]at h;have:=j k (n.rest.timers.getD k default);rwa [h]at this
  cases h
 have l:∀(d:Addr) (g:Machine),timerOp.opened m d=some g->g.world.drawn=m.world.drawn:=by intro d g h;unfold timerOp.opened at h;(repeat' split at h)<;>simp only[Option.some.injEq,reduceCtorEq]at h<;>subst h<;>rfl
 cases o with
 |new t =>simp only[timerOp]at h;(repeat' split at h)<;>simp only[Except.ok.injEq,Prod.mk.injEq,reduceCtorEq]at h<;>obtain⟨_,rfl⟩:=h<;>rfl
 |stop d =>simp only[timerOp]at h;exact i _ _ _ (λk t=>Ek ..) h
 |reset d a b =>
  simp only[timerOp]at h;split at h;.exact i _ _ _ (λk t=>(Ek ..).trans (l _ _ ‹_›)) h
  cases h
 |deadline c r w a =>simp only[timerOp,Except.ok.injEq,Prod.mk.injEq]at h;obtain⟨_,rfl⟩:=h;rfl
def Ra:SD m.world.drawn (serve p m d):=by simp only[serve];(repeat' split)<;>first|trivial|exact Nat.le_refl _
def UR(l:Bool):SD m.world.drawn (runT p m d l).1:=by
 have i:=λg=>Q5 p (d==0) l g m.world;simp only[runT];generalize m.gs.swapAt! d { (default:Goroutine)with status:=.finished }=sw;have h:=i sw.1;generalize stepG p (d==0) sw.1 m.world l=s at h;cases s with
 |go g w f=>exact h
 |comm g n b j w f=>exact SD.mono h (Cx ..)
 |spawn g c w f=>exact h
 |count g w f=>simp only;split<;>first|trivial|exact h
 |timer g k w f =>
  simp only;split;.have:=Ki _ _ _ _ ‹_›;exact Nat.le_trans h (Nat.le_of_eq this.symm)
  .simp only[endThrow,dieOf];exact h
  .trivial
  trivial
 |alone g on w f=>exact h
 |newcoro g c a w f=>exact h
 |coroswitch g c e w f =>
  simp only;split;.exact h
  .simp only[endThrow,dieOf];exact h
  trivial
 |collect g w f=>exact SD.mono h (M6 ..)
 |watch g w f=>exact h
 |ended o w f=>trivial
def MD:Move->Prop|.goroutine m _=>d<=m.world.drawn|.machine s _=>SD d s
def MD.mono{d e:Nat}(h:d<=e):∀{s:Move},MD e s->MD d s:=by intro s k;cases s<;>first|exact Nat.le_trans h k|exact SD.mono h k
def CI:MD m.world.drawn (askOn p m):=by
 have a:∀n:Machine,MD n.world.drawn (match (choose (.sched (runnable m.gs m.world.os.mono).length):Sem Nat).run p n.world with
   |.halt _ w=>.machine (.ended (.stuck "sched" "") w)
   |.ok k world =>
    if(runnable m.gs m.world.os.mono).length<=1 then .goroutine { n with world } ((runnable m.gs m.world.os.mono).getD k 0)else
    match (choose (.extern "sched.slice" 65536):Sem Nat).run p world with
    |.halt _ w=>.machine (.ended (.stuck "sched.slice" "") w)
    |.ok j world=>.goroutine { n with world,rest:={ n.rest with slice:=if j=0 then none else some ((runnable m.gs m.world.os.mono).getD k 0,j) } } ((runnable m.gs m.world.os.mono).getD k 0)):=by
  intro n;split;.trivial
  split;.exact gz ‹_›
  split;.trivial
  exact Nat.le_trans (gz ‹_›) (gz ‹_›)
 simp only[askOn];split;.trivial
 rename_i k w d;have b:=gz d;split;.exact SD.mono b (Ra p { m with world:=w } _)
 split
 .split;.exact b
  split;.exact b
  split<;>trivial
 split;.exact MD.mono b (a { m with world:=w })
 split;.trivial
 .rename_i e;exact MD.mono (Nat.le_trans b (gz e)) (a { m with world:=_ })
 .rename_i e;have c:=gz e;exact Nat.le_trans b c
 rename_i e;exact MD.mono (Nat.le_trans b (gz e)) (a (Machine.advanceTo { m with world:=_ } _))
def T0:MD m.world.drawn (ask p m):=by
 simp only[ask];split
 .split;.trivial
  .rename_i w a;have h:=M6 p m.gs m.rest w;split;.rename_i c b;rw[b]at h;exact MD.mono (Nat.le_trans (gz a) h) (CI ..)
   exact SD.mono (gz a) h
  exact MD.mono (gz ‹_›) (CI p { m with world:=_ })
 exact CI ..
def Vc:MD m.world.drawn (move p m):=by
 simp only[move];split
 .split;.exact Nat.le_refl _
  trivial
 split
 .split;.exact Nat.le_refl _
  exact T0 p { m with rest:=_ }
 exact T0 ..
def Ko(h:step P E=.next G):E.world.drawn<=G.world.drawn:=by
 have a:=Vc P E;unfold step stepT at h;split at h;.rename_i n i b;rw[b]at a;have c:=UR P n i true;rw[h]at c;exact Nat.le_trans a c
 rename_i s o b;rw[b]at a;simp only at h;subst h;exact a
def yU(h:Steps P E G):E.world.drawn<=G.world.drawn:=by
 obtain⟨n,a⟩:=h;induction n generalizing E with
 |zero=>simp only[runN,Stepped.next.injEq]at a;rw[a];exact Nat.le_refl _
 |succ n ih =>
 simp only[runN]at a;split at a;.exact Nat.le_trans (Ko ‹_›) (ih a)
 simp_all
def Calls.drawn{f:FuncId}{b:Array Value}{a:Ending->World->Prop}(h:Calls P f b R a)(l:∀d,¬a .outgrown d): Calls P f b R λe d=>a e d/\R.drawn<=d.drawn:=by intro k;obtain⟨e,d,n,i,g,m,j⟩:=h k;refine⟨e,d,n,⟨i,?_⟩,g,m,j⟩;cases e with|returned v=>exact yU g|panicked c=>exact yU g|outgrown=>exact absurd i (l _)
end Go.Pm

/- A part of a proof; the claim's last text says of what. -/
import Derived.Calls
set_option linter.all false

namespace Go.Pm
open Go
theorem IJ{α:Type}:∀ (k:Ask α) (w:World),w.drawn≤(w.ask k).2.drawn:=by
 intro k
 induction k with
 | done a=>intro w;exact Nat.le_refl _
 | ask what range k ih =>
  intro w;simp only[World.ask];split
  ·exact ih _ w
  ·have:=ih ((Question.extern what range).cut (w.tape w.drawn (Question.extern what range))) { w with drawn:=w.drawn+1 };exact Nat.le_trans (Nat.le_succ _) this
theorem G0(w:World)(c:Sys):w.drawn≤(w.sys c).2.drawn:=by
 have h:=IJ (Kernel.perform c w.os) w;unfold World.sys;split
 ·exact Nat.le_refl _
 ·rename_i r os w' e;rw[e]at h;exact h
theorem ur{p:Program}{w w':World}{b a:Addr}{u:TypeId}{v:Value}{x:Bool}{l:List Addr}(h:w.viewStore p b u a v x=.ok (w',l)):w'.drawn=w.drawn:=by
 unfold World.viewStore at h;simp only[bind,Except.bind,pure,Except.pure]at h
 repeat' split at h
 all_goals first
  | (simp only[Except.ok.injEq,Prod.mk.injEq]at h;obtain⟨rfl,_⟩:=h;rfl)
  | cases h
theorem xa{p:Program}{w w':World}{a:Addr}{v:Value}{x:Bool}{l:List Addr}(h:w.farStore p a v x=.ok (w',l)):w'.drawn=w.drawn:=by
 unfold World.farStore at h;split at h
 ·split at h
  ·rename_i r e;simp only[Except.ok.injEq]at h;subst h;exact ur e
  ·cases h
 ·cases h
theorem AY(w:World)(a:Addr)(n:Nat):(w.freeze a n).drawn=w.drawn:=by unfold World.freeze;split<;>rfl
def RD{α:Type}(d:Nat):Result α→Prop
 | .ok _ w=>d≤w.drawn
 | .halt _ w=>d≤w.drawn
theorem RD.mono{α:Type}{d e:Nat}(h:d≤e):∀ {r:Result α},RD e r→RD d r
 | .ok _ _,k=>Nat.le_trans h k
 | .halt _ _,k=>Nat.le_trans h k
theorem yM{α:Type}{p:Program}:∀ (s:Sem α) (w:World),RD w.drawn (s.run p w):=by
 intro s
 induction s with
 | pure b=>intro w;exact Nat.le_refl _
 | load m b k ih =>
  intro w;simp only[Sem.run];split
  ·exact ih _ _
  ·split
   ·exact ih _ _
   ·exact Nat.le_refl _
 | store m b v k ih =>
  intro w;cases v<;>simp only[Sem.run]<;>try exact Nat.le_refl _
  all_goals
   split
   ·split
    ·exact Nat.le_refl _
    ·exact RD.mono (Nat.le_refl _) (ih _)
   ·split
    ·rename_i e;exact RD.mono (Nat.le_of_eq (xa e).symm) (ih _)
    ·exact Nat.le_refl _
 | new o k ih=>intro w;simp only[Sem.run];exact RD.mono (Nat.le_refl _) (ih _ _)
 | shape r k ih=>intro w;simp only[Sem.run];exact ih _ _
 | freeze b n k ih=>intro w;simp only[Sem.run];exact RD.mono (Nat.le_of_eq (AY w b n).symm) (ih _)
 | frozen b k ih=>intro w;simp only[Sem.run];exact ih _ _
 | getObj r k ih =>
  intro w;simp only[Sem.run];split
  ·exact Nat.le_refl _
  ·exact ih _ _
  ·exact Nat.le_refl _
 | setObj r o k ih =>
  intro w;simp only[Sem.run];split
  ·exact Nat.le_refl _
  ·exact RD.mono (Nat.le_refl _) (ih _)
  ·exact Nat.le_refl _
 | choose q k ih =>
  intro w;simp only[Sem.run];split
  ·exact ih _ _
  ·exact RD.mono (Nat.le_succ _) (ih _ _)
 | sys c k ih=>intro w;simp only[Sem.run];exact RD.mono (G0 w c) (ih _ _)
 | program k ih=>intro w;simp only[Sem.run];exact ih _ _
 | mark m k ih=>intro w;simp only[Sem.run];exact ih _
 | halt x=>intro w;exact Nat.le_refl _
theorem eK{α:Type}{p:Program}{s:Sem α}{w w':World}{a:α}(h:s.run p w=.ok a w'):w.drawn≤w'.drawn:=by
 have:=yM (p:=p) s w
 rwa [h]at this
theorem run_halt{α:Type}{p:Program}{s:Sem α}{w w':World}{a:Halt}(h:s.run p w=.halt a w'):w.drawn≤w'.drawn:=by
 have:=yM (p:=p) s w
 rwa [h]at this
def GD(d:Nat):GStep→Prop
 | .go _ w _ | .comm _ _ _ _ w _ | .spawn _ _ w _ | .count _ w _ | .timer _ _ w _ | .alone _ _ w _ | .newcoro _ _ _ w _ | .coroswitch _ _ _ w _ | .collect _ w _ | .watch _ w _=>d≤w.drawn
 | .ended ..=>True
theorem GD.after{d:Nat}{es:Array Event}:∀ {s:GStep},GD d s→GD d (s.after es):=by
 intro s h;cases s<;>exact h
theorem GD.mono{d e:Nat}(h:d≤e):∀ {s:GStep},GD e s→GD d s:=by
 intro s k;cases s<;>first | exact Nat.le_trans h k | trivial
theorem GD.ite{d:Nat}{c:Prop}[Decidable c]{x y:GStep}(h:GD d x)(k:GD d y):GD d (if c then x else y):=by
 split<;>assumption
theorem EY(d:Nat)(w:World)(fd:Nat)(t:ByteArray)(o:Outcome):GD d (endWith w fd t o):=by
 simp only[endWith]
 (repeat' split)<;>trivial
theorem oZ(p:Program)(m:Bool)(fr:Frame)(cs:List Frame)(dy:Option Dying)(v:Value)(w:World):GD w.drawn (doReturn p m fr cs dy v w):=by
 simp only[doReturn]
 (repeat' split)<;>first | trivial | exact Nat.le_refl _
theorem oY(p:Program)(fr:Frame)(v:Value)(w:World):GD w.drawn (endPrinting p fr v w):=by
 simp only[endPrinting]
 (repeat' split)<;>first | trivial | exact Nat.le_refl _
theorem uf(p:Program)(fr:Frame)(cs:List Frame)(dy:Option Dying)(m:String)(w:World):GD w.drawn (endFatal p fr cs dy m w):=by
 simp only[endFatal];split
 ·rename_i e;exact eK e
 ·trivial
 ·trivial
theorem DQ(p:Program)(fr:Frame)(d:Dying)(f:Fatal)(w:World):GD w.drawn (writeOn p fr d f w):=by
 unfold writeOn;split
 ·trivial
 ·simp only;split
  ·rename_i e;rw[Sem.runT_eq]at e;simp only[Prod.mk.injEq]at e;exact eK e.1
  ·rename_i e;rw[Sem.runT_eq]at e;simp only[Prod.mk.injEq]at e;exact run_halt e.1
  ·trivial
  ·trivial
theorem RR(p:Program)(fr:Frame)(d:Dying)(w:World):GD w.drawn (die p fr d w):=by
 unfold die;split
 ·exact DQ ..
 split
 ·split
  ·exact Nat.le_refl _
  ·exact EY ..
 ·simp only;split
  ·exact Nat.le_refl _
  ·split
   ·rename_i e;exact eK e
   ·trivial
  ·rw[Sem.runT_eq];refine GD.after ?_;simp only;split
   ·rename_i e;exact eK e
   ·rename_i e;exact eK e
   ·trivial
   ·rename_i e;exact GD.mono (run_halt e) (oY ..)
   ·trivial
  ·trivial
theorem uK(p:Program)(fr:Frame)(cs:List Frame)(dy:Option Dying)(d:Deferred)(w:World):GD w.drawn (callDeferred p fr cs dy d w):=by
 simp only[callDeferred,Sem.runT_eq];refine GD.ite trivial ?_
 ·refine GD.after ?_
  (repeat' split)<;>first
   | trivial
   | exact eK ‹_›
   | exact run_halt ‹_›
   | exact GD.mono (run_halt ‹_›) (uf ..)
theorem GX(p:Program)(m:Bool)(fr:Frame)(cs:List Frame)(dy:Option Dying)(w:World):GD w.drawn (unwind p m fr cs dy w):=by
 simp only[unwind,Sem.runT_eq];split
 ·refine GD.after ?_;split
  ·exact eK ‹_›
  ·trivial
 ·exact uK ..
 ·split
  ·trivial
  ·(repeat' split)<;>first
    | trivial
    | exact Nat.le_refl _
    | exact eK ‹_›
    | exact oY ..
  ·split
   ·exact oZ ..
   ·refine GD.after ?_;split
    ·exact GD.mono (eK ‹_›) (oZ ..)
    ·trivial
    ·trivial
theorem Lw(p:Program)(fr:Frame)(cs:List Frame)(dy:Option Dying)(g:Nat)(w:World):GD w.drawn (early p fr cs dy g w):=by
 simp only[early]
 (repeat' split)<;>first
  | trivial
  | exact Nat.le_refl _
  | exact eK ‹_›
  | exact(eK ‹Sem.run _ _ _=_›:_)
theorem Du(p:Program)(l:Bool)(fr:Frame)(cs:List Frame)(dy:Option Dying)(s:Sem Next)(w:World):GD w.drawn (stepG.apply p l fr cs dy s w):=by
 simp only[stepG.apply];have hr:(if l=true then s.runT p w #[]else(s.run p w,#[])).1=s.run p w:=by split<;>simp
 generalize (if l=true then s.runT p w #[]else(s.run p w,#[]))=x at hr;obtain⟨r,es⟩:=x;simp only at hr;subst hr;refine GD.after ?_;simp only
 (repeat' split)<;>first
  | trivial
  | exact eK ‹_›
  | exact run_halt ‹_›
  | exact GD.mono (run_halt ‹_›) (uf ..)
  | exact GD.mono (run_halt ‹_›) (Lw ..)
theorem OH(p:Program)(m l:Bool)(fr:Frame)(cs:List Frame)(dy:Option Dying)(w:World):GD w.drawn (stepG.exec p m l fr cs dy w):=by
 simp only[stepG.exec,stepG.oper,Sem.runT_eq,Option.elim]
 (repeat' split)<;>repeat' first
  | trivial
  | exact Nat.le_refl _
  | exact eK ‹_›
  | exact run_halt ‹_›
  | exact Du ..
  | exact GD.mono (eK ‹_›) (Du ..)
  | exact GD.mono (eK ‹_›) (oZ ..)
  | refine GD.after ?_
  | split
theorem Jv(p:Program)(m l:Bool)(g:Goroutine)(w:World):GD w.drawn (stepG p m g w l):=by
 unfold stepG;simp only;split
 ·exact RR ..
 ·exact OH ..
 ·exact GX ..
def SD(d:Nat):Stepped→Prop
 | .next m=>d≤m.world.drawn
 | .ended ..=>True
theorem SD.mono{d e:Nat}(h:d≤e):∀ {s:Stepped},SD e s→SD d s:=by
 intro s k;cases s<;>first | exact Nat.le_trans h k | trivial
theorem F5(p:Program)(gs:Array Goroutine)(rest:Rest)(w:World):SD w.drawn (look p gs rest w):=by
 simp only[look]
 (repeat' split)<;>first
  | trivial
  | (have:=eK ‹Sem.run p _ w=Result.ok _ _›;exact this)
theorem xi(p:Program)(rest:Rest)(gs:Array Goroutine)(i:Nat)(g:Goroutine)(cs:Array CommCase)(b:Bool)(sh:CommShape)(w:World):SD w.drawn (communicate p rest gs i g cs b sh w).1:=by
 have hw:∀ w',waitingAt rest cs w=some w'→w'.drawn=w.drawn:=by
  intro w' h;unfold waitingAt at h
  (repeat' split at h)<;>simp only[Option.some.injEq,reduceCtorEq]at h<;>subst h<;>rfl
 simp only[communicate]
 (repeat' split)<;>first
  | trivial
  | exact Nat.le_refl _
  | exact Nat.le_of_eq (hw _ ‹_›).symm
  | (have h1:=eK ‹Sem.run p _ w=Result.ok _ _›;first | exact h1 | exact Nat.le_trans h1 (run_halt ‹Sem.run p _ _=Result.halt _ _›) | (have h2:=eK ‹Sem.run p (choose _) _=Result.ok _ _›;exact Nat.le_trans h1 h2))
theorem yP(m:Machine)(k:Nat)(t:Timer)(a b:Nat):(retime m k t a b).2.world.drawn=m.world.drawn:=by
 unfold retime;cases hc:t.chan with
 | none=>rfl
 | some c =>
  simp only[drain];split<;>rfl
theorem DW(m m':Machine)(o:TimerOp)(v:Value)(h:timerOp m o=.ok (v,m')):m'.world.drawn=m.world.drawn:=by
 have nm:∀ (n:Machine) (var:Addr) (f:Nat→Timer→Value×Machine),(∀ k t,(f k t).2.world.drawn=m.world.drawn)→timerOp.named n var f=.ok (v,m')→m'.world.drawn=m.world.drawn:=by
  intro n var f hf h;unfold timerOp.named at h;split at h
  ·rename_i k _;simp only[Except.ok.injEq]at h;have:=hf k (n.rest.timers.getD k default)
   rwa [h]at this
  ·cases h
 have op:∀ (var:Addr) (m2:Machine),timerOp.opened m var=some m2→m2.world.drawn=m.world.drawn:=by
  intro var m2 h;unfold timerOp.opened at h
  (repeat' split at h)<;>simp only[Option.some.injEq,reduceCtorEq]at h<;>subst h<;>rfl
 cases o with
 | new t =>
  simp only[timerOp]at h
  (repeat' split at h)<;>simp only[Except.ok.injEq,Prod.mk.injEq,reduceCtorEq]at h<;>obtain⟨_,rfl⟩:=h<;>rfl
 | stop var =>
  simp only[timerOp]at h;exact nm _ _ _ (fun k t=>yP ..) h
 | reset var a b =>
  simp only[timerOp]at h;split at h
  ·exact nm _ _ _ (fun k t=>(yP ..).trans (op _ _ ‹_›)) h
  ·cases h
 | deadline c r w a =>
  simp only[timerOp,Except.ok.injEq,Prod.mk.injEq]at h;obtain⟨_,rfl⟩:=h;rfl
theorem JC(p:Program)(m:Machine)(k:Nat):SD m.world.drawn (serve p m k):=by
 simp only[serve]
 (repeat' split)<;>first | trivial | exact Nat.le_refl _
theorem MN(p:Program)(m:Machine)(i:Nat)(l:Bool):SD m.world.drawn (runT p m i l).1:=by
 have hg:=fun g=>Jv p (i==0) l g m.world;simp only[runT];generalize m.gs.swapAt! i { (default:Goroutine)with status:=.finished }=sw;have h:=hg sw.1;generalize stepG p (i==0) sw.1 m.world l=s at h;cases s with
 | go g w es=>exact h
 | comm g cs b sh w es=>exact SD.mono h (xi ..)
 | spawn g c w es=>exact h
 | count g w es=>simp only;split<;>first | trivial | exact h
 | timer g op w es =>
  simp only;split
  ·have:=DW _ _ _ _ ‹_›;exact Nat.le_trans h (Nat.le_of_eq this.symm)
  ·simp only[endThrow,dieOf];exact h
  ·trivial
  ·trivial
 | alone g on w es=>exact h
 | newcoro g c d w es=>exact h
 | coroswitch g c e w es =>
  simp only;split
  ·exact h
  ·simp only[endThrow,dieOf];exact h
  ·trivial
 | collect g w es=>exact SD.mono h (F5 ..)
 | watch g w es=>exact h
 | ended o w es=>trivial
def MD(d:Nat):Move→Prop
 | .goroutine m _=>d≤m.world.drawn
 | .machine s _=>SD d s
theorem MD.mono{d e:Nat}(h:d≤e):∀ {s:Move},MD e s→MD d s:=by
 intro s k;cases s<;>first | exact Nat.le_trans h k | exact SD.mono h k
theorem xx(p:Program)(m:Machine):MD m.world.drawn (askOn p m):=by
 have pick:∀ n:Machine,MD n.world.drawn (match (choose (.sched (runnable m.gs m.world.os.mono).length):Sem Nat).run p n.world with
   | .halt _ w=>.machine (.ended (.stuck "sched" "") w)
   | .ok k world =>
    if(runnable m.gs m.world.os.mono).length≤1 then .goroutine { n with world } ((runnable m.gs m.world.os.mono).getD k 0)else
    match (choose (.extern "sched.slice" 65536):Sem Nat).run p world with
    | .halt _ w=>.machine (.ended (.stuck "sched.slice" "") w)
    | .ok j world=>.goroutine { n with world,rest:={ n.rest with slice:=if j=0 then none else some ((runnable m.gs m.world.os.mono).getD k 0,j) } } ((runnable m.gs m.world.os.mono).getD k 0)):=by
  intro n;split
  ·trivial
  ·split
   ·exact eK ‹_›
   ·split
    ·trivial
    ·exact Nat.le_trans (eK ‹_›) (eK ‹_›)
 simp only[askOn];split
 ·trivial
 ·rename_i k w hk;have h1:=eK hk;split
  ·exact SD.mono h1 (JC p { m with world:=w } _)
  ·split
   ·split
    ·exact h1
    ·split
     ·exact h1
     ·split<;>trivial
   ·split
    ·exact MD.mono h1 (pick { m with world:=w })
    ·split
     ·trivial
     ·rename_i e;exact MD.mono (Nat.le_trans h1 (eK e)) (pick { m with world:=_ })
     ·rename_i e;have h2:=eK e;exact Nat.le_trans h1 h2
     ·rename_i e;exact MD.mono (Nat.le_trans h1 (eK e)) (pick (Machine.advanceTo { m with world:=_ } _))
theorem L2(p:Program)(m:Machine):MD m.world.drawn (ask p m):=by
 simp only[ask];split
 ·split
  ·trivial
  ·rename_i w hk;have h:=F5 p m.gs m.rest w;split
   ·rename_i m2 hm;rw[hm]at h;exact MD.mono (Nat.le_trans (eK hk) h) (xx ..)
   ·exact SD.mono (eK hk) h
  ·exact MD.mono (eK ‹_›) (xx p { m with world:=_ })
 ·exact xx ..
theorem M6(p:Program)(m:Machine):MD m.world.drawn (move p m):=by
 simp only[move];split
 ·split
  ·exact Nat.le_refl _
  ·trivial
 ·split
  ·split
   ·exact Nat.le_refl _
   ·exact L2 p { m with rest:=_ }
  ·exact L2 ..
theorem D2{p:Program}{m m':Machine}(h:step p m=.next m'):m.world.drawn≤m'.world.drawn:=by
 have h1:=M6 p m;unfold step stepT at h;split at h
 ·rename_i n i hm;rw[hm]at h1;have h2:=MN p n i true;rw[h]at h2;exact Nat.le_trans h1 h2
 ·rename_i s o hm;rw[hm]at h1;simp only at h;subst h;exact h1
theorem tG{p:Program}{m m':Machine}(h:Steps p m m'):m.world.drawn≤m'.world.drawn:=by
 obtain⟨n,hn⟩:=h
 induction n generalizing m with
 | zero=>simp only[runN,Stepped.next.injEq]at hn;rw[hn];exact Nat.le_refl _
 | succ n ih =>
  simp only[runN]at hn;split at hn
  ·exact Nat.le_trans (D2 ‹_›) (ih hn)
  ·simp_all
theorem Calls.drawn{P:Program}{f:FuncId}{args:Array Value}{w:World}{R:Ending→World→Prop}(h:Calls P f args w R)(hr:∀ w',¬ R .outgrown w'):
  Calls P f args w fun e w'=>R e w'∧w.drawn≤w'.drawn:=by
 intro cs;obtain⟨e,w',fr,h1,h2,h3,h4⟩:=h cs;refine⟨e,w',fr,⟨h1,?_⟩,h2,h3,h4⟩;cases e with
 | returned v=>exact tG h2
 | panicked c=>exact tG h2
 | outgrown=>exact absurd h1 (hr _)
end Go.Pm

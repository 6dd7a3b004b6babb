/- Part of a proof. -/
import Derived.Calls
import Derived.Shelf.SlLaysE0
import Derived.Ground.SlgnProg
import Derived.Test.YtfeddmfijllgmaaGreatDoorProg
import Derived.Shelf.SlSorted.Search
import Derived.Ground.SlsoProg
import Derived.Shelf.SlSortCmp.NoneTotal
import Derived.Ground.SlsfProg
import Derived.Shelf.SlicesG.Cmp
import Derived.Ground.SlgcProg
import Derived.Test.YtfeddmfijllgmaaGreatDoorChecked
import Derived.Lib.Strings
import Derived.Lib.Slices
import Derived.Lib.Walk
import Derived.Lib.Bytealg
import Derived.Shelf.LaysM
import Derived.Shelf.Strconv.Itoa3
import Derived.Shelf.Sort.Plain
import Derived.Shelf.SlicesE.Clone
import Derived.Ground.SlgmProg
import Derived.Ground.GgzProg
import Derived.Ground.Names2Prog
import Derived.Shelf.SlIter.Nil
import Derived.Shelf.SortM.Plain
import Derived.Shelf.SortM.SortNone
import Derived.Shelf.Spec.SlicesGrow
set_option linter.all false
set_option maxHeartbeats 2000000
open Option renaming some->S
open Go.Proofs.Tryz renaming prog->A
set_option maxRecDepth 20000
namespace Go.Pm
open Go
variable(p:Program)(R:Frame)(l:Bool)(T:List Frame)(U:Option Dying)(m:Machine)(d:Nat)(K:Rest)(B:Bool)(H:Dying)(w:World){b:Addr}{x:Bool}{L:List Addr}{D E:Machine}{C:Nat}{P:Program}{J:Value}{N M:World}
def Yn{c:Type}:∀(k:Ask c) (w:World),w.drawn<=(w.ask k).2.drawn:=by
 intro k;induction k with
 |done a=>intro w;exact Nat.le_refl _
 |ask b range k ih =>
 intro w;simp only[World.ask];split;.exact ih _ w
 have:=ih ((Question.extern b range).cut (w.tape w.drawn (Question.extern b range))) { w with drawn:=w.drawn+1 };exact Nat.le_trans (Nat.le_succ _) this
def V9(c:Sys):w.drawn<=(w.sys c).2.drawn:=by
 have h:=Yn (Kernel.perform c w.os) w;unfold World.sys;split;.exact Nat.le_refl _
 rename_i r os a e;rw[e]at h;exact h
def DW{a:Addr}{u:TypeId}(h:N.viewStore P b u a J x=.ok (M,L)):M.drawn=N.drawn:=by
 unfold World.viewStore at h;simp only[bind,Except.bind,pure,Except.pure]at h;repeat' split at h
 all_goals first
  |(simp only[Except.ok.injEq,Prod.mk.injEq]at h;obtain⟨rfl,_⟩:=h;rfl)
  |cases h
def Hz(h:N.farStore P b J x=.ok (M,L)):M.drawn=N.drawn:=by
 unfold World.farStore at h;split at h
 .split at h;.rename_i r e;simp only[Except.ok.injEq]at h;subst h;exact DW e
  cases h
 cases h
def Ns(a:Addr)(n:Nat):(w.freeze a n).drawn=w.drawn:=by unfold World.freeze;split<;>rfl
def RD{a:Type}:Result a->Prop|.ok _ w=>d<=w.drawn|.halt _ w=>d<=w.drawn
def RD.mono{a:Type}{d e:Nat}(h:d<=e):∀{r:Result a},RD e r->RD d r|.ok _ _,k=>Nat.le_trans h k|.halt _ _,k=>Nat.le_trans h k
def Jv{a:Type}{p:Program}:∀(s:Sem a) (w:World),RD w.drawn (s.run p w):=by
 intro s;induction s with
 |pure b=>intro w;exact Nat.le_refl _
 |load m b k ih =>
  intro w;simp only[Sem.run];split;.exact ih _ _
  split;.exact ih _ _
  exact Nat.le_refl _
 |store m b v k ih =>
  intro w;cases v<;>simp only[Sem.run]<;>try exact Nat.le_refl _
  all_goals
   split
   .split;.exact Nat.le_refl _
    exact RD.mono (Nat.le_refl _) (ih _)
   split;.rename_i e;exact RD.mono (Nat.le_of_eq (Hz e).symm) (ih _)
   exact Nat.le_refl _
 |new o k ih=>intro w;simp only[Sem.run];exact RD.mono (Nat.le_refl _) (ih _ _)
 |shape r k ih=>intro w;simp only[Sem.run];exact ih _ _
 |freeze b n k ih=>intro w;simp only[Sem.run];exact RD.mono (Nat.le_of_eq (Ns w b n).symm) (ih _)
 |frozen b k ih=>intro w;simp only[Sem.run];exact ih _ _
 |getObj r k ih =>
  intro w;simp only[Sem.run];split;.exact Nat.le_refl _
  .exact ih _ _
  exact Nat.le_refl _
 |setObj r o k ih =>
  intro w;simp only[Sem.run];split;.exact Nat.le_refl _
  .exact RD.mono (Nat.le_refl _) (ih _)
  exact Nat.le_refl _
 |choose q k ih =>
  intro w;simp only[Sem.run];split;.exact ih _ _
  exact RD.mono (Nat.le_succ _) (ih _ _)
 |sys c k ih=>intro w;simp only[Sem.run];exact RD.mono (V9 w c) (ih _ _)
 |program k ih=>intro w;simp only[Sem.run];exact ih _ _
 |mark m k ih=>intro w;simp only[Sem.run];exact ih _
 |halt x=>intro w;exact Nat.le_refl _
def jI{b:Type}{p:Program}{s:Sem b}{a:b}(h:s.run p N=.ok a M):N.drawn<=M.drawn:=by have:=Jv (p:=p) s N;rwa [h]at this
def run_halt{b:Type}{p:Program}{s:Sem b}{a:Halt}(h:s.run p N=.halt a M):N.drawn<=M.drawn:=by have:=Jv (p:=p) s N;rwa [h]at this
def GD:GStep->Prop
 |.go _ w _|.comm _ _ _ _ w _|.spawn _ _ w _|.count _ w _|.timer _ _ w _|.alone _ _ w _|.newcoro _ _ _ w _|.coroswitch _ _ _ w _|.collect _ w _|.watch _ w _=>d<=w.drawn
 |.ended ..=>True
def GD.after{a:Array Event}:∀{s:GStep},GD C s->GD C (s.after a):=by intro s h;cases s<;>exact h
def GD.mono{d e:Nat}(h:d<=e):∀{s:GStep},GD e s->GD d s:=by intro s k;cases s<;>first|exact Nat.le_trans h k|trivial
def GD.ite{c:Prop}[Decidable c]{x y:GStep}(h:GD C x)(k:GD C y):GD C (if c then x else y):=by split<;>assumption
def S9(a:Nat)(t:ByteArray)(o:Outcome):GD d (endWith w a t o):=by simp only[endWith];(repeat' split)<;>trivial
def xD(a:Frame)(c:List Frame)(b:Option Dying)(v:Value)(w:World):GD w.drawn (doReturn p l a c b v w):=by simp only[doReturn];(repeat' split)<;>first|trivial|exact Nat.le_refl _
def xB(v:Value)(w:World):GD w.drawn (endPrinting p R v w):=by simp only[endPrinting];(repeat' split)<;>first|trivial|exact Nat.le_refl _
def DK(m:String)(w:World):GD w.drawn (endFatal p R T U m w):=by
 simp only[endFatal];split;.rename_i e;exact jI e
 .trivial
 trivial
def Rg(f:Fatal)(w:World):GD w.drawn (writeOn p R H f w):=by
 unfold writeOn;split;.trivial
 simp only;split;.rename_i e;rw[Sem.runT_eq]at e;simp only[Prod.mk.injEq]at e;exact jI e.1
 .rename_i e;rw[Sem.runT_eq]at e;simp only[Prod.mk.injEq]at e;exact run_halt e.1
 .trivial
 trivial
def aj7:GD w.drawn (die p R H w):=by
 unfold die;split;.exact Rg ..
 split
 .split;.exact Nat.le_refl _
  exact S9 ..
 simp only;split;.exact Nat.le_refl _
 .split;.rename_i e;exact jI e
  trivial
 .rw[Sem.runT_eq];refine GD.after ?_;simp only;split;.rename_i e;exact jI e
  .rename_i e;exact jI e
  .trivial
  .rename_i e;exact GD.mono (run_halt e) (xB ..)
  trivial
 trivial
def Er(d:Deferred)(w:World):GD w.drawn (callDeferred p R T U d w):=by
 simp only[callDeferred,Sem.runT_eq];refine GD.ite trivial ?_;refine GD.after ?_;(repeat' split)<;>first
  |trivial
  |exact jI ‹_›
  |exact run_halt ‹_›
  |exact GD.mono (run_halt ‹_›) (DK ..)
def V2(c:Frame)(b:List Frame)(a:Option Dying)(w:World):GD w.drawn (unwind p l c b a w):=by
 simp only[unwind,Sem.runT_eq];split
 .refine GD.after ?_;split;.exact jI ‹_›
  trivial
 .exact Er ..
 split;.trivial
 . (repeat' split)<;>first
   |trivial
   |exact Nat.le_refl _
   |exact jI ‹_›
   |exact xB ..
 split;.exact xD ..
 refine GD.after ?_;split;.exact GD.mono (jI ‹_›) (xD ..)
 .trivial
 trivial
def aca:GD w.drawn (early p R T U d w):=by
 simp only[early];(repeat' split)<;>first
  |trivial
  |exact Nat.le_refl _
  |exact jI ‹_›
  |exact(jI ‹Sem.run _ _ _=_›:_)
def QV(d:Frame)(c:List Frame)(b:Option Dying)(s:Sem Next)(w:World):GD w.drawn (stepG.apply p l d c b s w):=by
 simp only[stepG.apply];have a:(if l=true then s.runT p w #[]else(s.run p w,#[])).1=s.run p w:=by split<;>simp
 generalize (if l=true then s.runT p w #[]else(s.run p w,#[]))=x at a;obtain⟨r,e⟩:=x;simp only at a;subst a;refine GD.after ?_;simp only;(repeat' split)<;>first
  |trivial
  |exact jI ‹_›
  |exact run_halt ‹_›
  |exact GD.mono (run_halt ‹_›) (DK ..)
  |exact GD.mono (run_halt ‹_›) (aca ..)
def ago(c:Frame)(b:List Frame)(a:Option Dying)(w:World):GD w.drawn (stepG.exec p l B c b a w):=by
 simp only[stepG.exec,stepG.oper,Sem.runT_eq,Option.elim]
 (repeat' split)<;>repeat' first
  |trivial
  |exact Nat.le_refl _
  |exact jI ‹_›
  |exact run_halt ‹_›
  |exact QV ..
  |exact GD.mono (jI ‹_›) (QV ..)
  |exact GD.mono (jI ‹_›) (xD ..)
  |refine GD.after ?_
  |split
def Y4(g:Goroutine)(w:World):GD w.drawn (stepG p l g w B):=by
 unfold stepG;simp only;split;.exact aj7 ..
 .exact ago ..
 exact V2 ..
def SD:Stepped->Prop|.next m=>d<=m.world.drawn|.ended ..=>True
def SD.mono{d e:Nat}(h:d<=e):∀{s:Stepped},SD e s->SD d s:=by intro s k;cases s<;>first|exact Nat.le_trans h k|trivial
def Vj(b:Array Goroutine)(a:Rest)(w:World):SD w.drawn (look p b a w):=by
 simp only[look];(repeat' split)<;>first
  |trivial
  |(have:=jI ‹Sem.run p _ w=Result.ok _ _›;exact this)
def HM(j:Array Goroutine)(i:Nat)(g:Goroutine)(d:Array CommCase)(b:Bool)(k:CommShape)(w:World):SD w.drawn (communicate p K j i g d b k w).1:=by
 have e:∀a,waitingAt K d w=S a->a.drawn=w.drawn:=by intro a h;unfold waitingAt at h;(repeat' split at h)<;>simp only[Option.some.injEq,reduceCtorEq]at h<;>subst h<;>rfl
 simp only[communicate];(repeat' split)<;>first
  |trivial
  |exact Nat.le_refl _
  |exact Nat.le_of_eq (e _ ‹_›).symm
  |(have c:=jI ‹Sem.run p _ w=Result.ok _ _›;first|exact c|exact Nat.le_trans c (run_halt ‹Sem.run p _ _=Result.halt _ _›)|(have f:=jI ‹Sem.run p (choose _) _=Result.ok _ _›;exact Nat.le_trans c f))
def Jy(t:Timer)(a b:Nat):(retime m d t a b).2.world.drawn=m.world.drawn:=by unfold retime;cases e:t.chan with|none=>rfl|some c =>simp only[drain];split<;>rfl
def Rq(e:Machine)(o:TimerOp)(v:Value)(h:timerOp m o=.ok (v,e)):e.world.drawn=m.world.drawn:=by
 have i:∀(n:Machine) (d:Addr) (f:Nat->Timer->Value×Machine),(∀k t,(f k t).2.world.drawn=m.world.drawn)->timerOp.named n d f=.ok (v,e)->e.world.drawn=m.world.drawn:=by
  intro n d f j h;unfold timerOp.named at h;split at h;.rename_i k _;simp only[Except.ok.injEq]at h;have:=j k (n.rest.timers.getD k default);rwa [h]at this
  cases h
 have l:∀(d:Addr) (g:Machine),timerOp.opened m d=S g->g.world.drawn=m.world.drawn:=by intro d g h;unfold timerOp.opened at h;(repeat' split at h)<;>simp only[Option.some.injEq,reduceCtorEq]at h<;>subst h<;>rfl
 cases o with
 |new t =>simp only[timerOp]at h;(repeat' split at h)<;>simp only[Except.ok.injEq,Prod.mk.injEq,reduceCtorEq]at h<;>obtain⟨_,rfl⟩:=h<;>rfl
 |stop d =>simp only[timerOp]at h;exact i _ _ _ (λk t=>Jy ..) h
 |reset d a b =>
  simp only[timerOp]at h;split at h;.exact i _ _ _ (λk t=>(Jy ..).trans (l _ _ ‹_›)) h
  cases h
 |deadline c r w a =>simp only[timerOp,Except.ok.injEq,Prod.mk.injEq]at h;obtain⟨_,rfl⟩:=h;rfl
def Zh:SD m.world.drawn (serve p m d):=by simp only[serve];(repeat' split)<;>first|trivial|exact Nat.le_refl _
def adH(l:Bool):SD m.world.drawn (runT p m d l).1:=by
 have i:=λg=>Y4 p (d==0) l g m.world;simp only[runT];generalize m.gs.swapAt! d { (default:Goroutine)with status:=.finished }=sw;have h:=i sw.1;generalize stepG p (d==0) sw.1 m.world l=s at h;cases s with
 |go g w f=>exact h
 |comm g n b j w f=>exact SD.mono h (HM ..)
 |spawn g c w f=>exact h
 |count g w f=>simp only;split<;>first|trivial|exact h
 |timer g k w f =>
  simp only;split;.have:=Rq _ _ _ _ ‹_›;exact Nat.le_trans h (Nat.le_of_eq this.symm)
  .simp only[endThrow,dieOf];exact h
  .trivial
  trivial
 |alone g on w f=>exact h
 |newcoro g c a w f=>exact h
 |coroswitch g c e w f =>
  simp only;split;.exact h
  .simp only[endThrow,dieOf];exact h
  trivial
 |collect g w f=>exact SD.mono h (Vj ..)
 |watch g w f=>exact h
 |ended o w f=>trivial
def MD:Move->Prop|.goroutine m _=>d<=m.world.drawn|.machine s _=>SD d s
def MD.mono{d e:Nat}(h:d<=e):∀{s:Move},MD e s->MD d s:=by intro s k;cases s<;>first|exact Nat.le_trans h k|exact SD.mono h k
def HX:MD m.world.drawn (askOn p m):=by
 have a:∀n:Machine,MD n.world.drawn (match (choose (.sched (runnable m.gs m.world.os.mono).length):Sem Nat).run p n.world with
   |.halt _ w=>.machine (.ended (.stuck "sched" "") w)
   |.ok k world =>
    if(runnable m.gs m.world.os.mono).length<=1 then .goroutine { n with world } ((runnable m.gs m.world.os.mono).getD k 0)else
    match (choose (.extern "sched.slice" 65536):Sem Nat).run p world with
    |.halt _ w=>.machine (.ended (.stuck "sched.slice" "") w)
    |.ok j world=>.goroutine { n with world,rest:={ n.rest with slice:=if j=0 then none else S ((runnable m.gs m.world.os.mono).getD k 0,j) } } ((runnable m.gs m.world.os.mono).getD k 0)):=by
  intro n;split;.trivial
  split;.exact jI ‹_›
  split;.trivial
  exact Nat.le_trans (jI ‹_›) (jI ‹_›)
 simp only[askOn];split;.trivial
 rename_i k w d;have b:=jI d;split;.exact SD.mono b (Zh p { m with world:=w } _)
 split
 .split;.exact b
  split;.exact b
  split<;>trivial
 split;.exact MD.mono b (a { m with world:=w })
 split;.trivial
 .rename_i e;exact MD.mono (Nat.le_trans b (jI e)) (a { m with world:=_ })
 .rename_i e;have c:=jI e;exact Nat.le_trans b c
 rename_i e;exact MD.mono (Nat.le_trans b (jI e)) (a (Machine.advanceTo { m with world:=_ } _))
def acQ:MD m.world.drawn (ask p m):=by
 simp only[ask];split
 .split;.trivial
  .rename_i w a;have h:=Vj p m.gs m.rest w;split;.rename_i c b;rw[b]at h;exact MD.mono (Nat.le_trans (jI a) h) (HX ..)
   exact SD.mono (jI a) h
  exact MD.mono (jI ‹_›) (HX p { m with world:=_ })
 exact HX ..
def aen:MD m.world.drawn (move p m):=by
 simp only[move];split
 .split;.exact Nat.le_refl _
  trivial
 split
 .split;.exact Nat.le_refl _
  exact acQ p { m with rest:=_ }
 exact acQ ..
def Rw(h:step P D=.next E):D.world.drawn<=E.world.drawn:=by
 have a:=aen P D;unfold step stepT at h;split at h;.rename_i n i b;rw[b]at a;have c:=adH P n i true;rw[h]at c;exact Nat.le_trans a c
 rename_i s o b;rw[b]at a;simp only at h;subst h;exact a
def CN(h:Steps P D E):D.world.drawn<=E.world.drawn:=by
 obtain⟨n,a⟩:=h;induction n generalizing D with
 |zero=>simp only[runN,Stepped.next.injEq]at a;rw[a];exact Nat.le_refl _
 |succ n ih =>
 simp only[runN]at a;split at a;.exact Nat.le_trans (Rw ‹_›) (ih a)
 simp_all
def Calls.drawn{f:FuncId}{a:Array Value}{R:Ending->World->Prop}(h:Calls P f a N R)(k:∀b,¬R .outgrown b): Calls P f a N λe b=>R e b/\N.drawn<=b.drawn:=by intro j;obtain⟨e,b,m,g,d,l,i⟩:=h j;refine⟨e,b,m,⟨g,?_⟩,d,l,i⟩;cases e with|returned v=>exact CN d|panicked c=>exact CN d|outgrown=>exact absurd g (k _)
end Go.Pm
namespace Go.Proofs
open Go.Shelf
variable(s:ByteArray)(c:Int)
def Tryz.ace:Go.Shelf.Ren:=⟨λ| 45=>93|n=>n,λ| 22=>27|23=>99|3=>3|4=>4|0=>0|n=>n,λ| n=>n⟩
def Tryz.asX:Go.Proofs.SlLaysE0.n45 A ace:=⟨by kernel_rfl,⟨f93.name,by decide,func93.trans (congrArg S (by kernel_rfl))⟩,underlying0,isAgg0,sizeOf0,zeroValue0,underlying3,isAgg3,sizeOf3,zeroValue3,underlying4,isAgg4,sizeOf4,zeroValue4,underlying27,isAgg27,sizeOf27,zeroValue27⟩
def Tryz.acd:Go.Shelf.Ren:=⟨λ| 45=>95|n=>n,λ| 22=>26|23=>76|3=>3|4=>4|0=>0|n=>n,λ| n=>n⟩
def Tryz.asW:Go.Proofs.SlLaysE0.n45 A acd:=⟨by kernel_rfl,⟨f95.name,by decide,func95.trans (congrArg S (by kernel_rfl))⟩,underlying0,isAgg0,sizeOf0,zeroValue0,underlying3,isAgg3,sizeOf3,zeroValue3,underlying4,isAgg4,sizeOf4,zeroValue4,underlying26,isAgg26,sizeOf26,zeroValue26⟩
def Tryz.Lf:Go.Shelf.Ren:=⟨λ| 15=>200|23=>247|16=>223|n=>n,λ| 30=>119|9=>9|3=>3|0=>0|35=>177|4=>4|38=>176|n=>n,λ| n=>n⟩
def Tryz.OH:Go.Proofs.SlLaysO.n15 A Lf:=⟨by kernel_rfl,func200.trans (congrArg S (by kernel_rfl)),func223.trans (congrArg S (by kernel_rfl)),func247.trans (congrArg S (by kernel_rfl)),underlying0,isAgg0,sizeOf0,zeroValue0,underlying3,isAgg3,sizeOf3,zeroValue3,underlying4,isAgg4,sizeOf4,zeroValue4,underlying9,isAgg9,sizeOf9,zeroValue9,underlying119,isAgg119,sizeOf119,zeroValue119,underlying177,isAgg177,sizeOf177,zeroValue177,underlying176,isAgg176,sizeOf176,zeroValue176⟩
def Tryz.Wb:Go.Shelf.Ren:=⟨λ| 6=>114|15=>167|14=>166|28=>217|29=>218|20=>209|21=>210|22=>211|23=>212|24=>213|25=>214|26=>215|27=>216|46=>250|47=>251|48=>252|49=>253|50=>254|57=>275|n=>n,λ| 22=>53|24=>57|25=>149|3=>3|39=>176|0=>0|53=>211|55=>226|4=>4|46=>219|45=>218|50=>129|5=>5|9=>9|66=>248|70=>252|76=>268|77=>269|n=>n,λ| n=>n⟩
def Tryz.Y6:Go.Proofs.SlLaysF0.n6 A Wb:=⟨by kernel_rfl,⟨f114.name,by decide,func114.trans (congrArg S (by kernel_rfl))⟩,⟨f166.name,by decide,func166.trans (congrArg S (by kernel_rfl))⟩,func167.trans (congrArg S (by kernel_rfl)),⟨f209.name,by decide,func209.trans (congrArg S (by kernel_rfl))⟩,⟨f210.name,by decide,func210.trans (congrArg S (by kernel_rfl))⟩,⟨f211.name,by decide,func211.trans (congrArg S (by kernel_rfl))⟩,⟨f212.name,by decide,func212.trans (congrArg S (by kernel_rfl))⟩,⟨f213.name,by decide,func213.trans (congrArg S (by kernel_rfl))⟩,⟨f214.name,by decide,func214.trans (congrArg S (by kernel_rfl))⟩,⟨f215.name,by decide,func215.trans (congrArg S (by kernel_rfl))⟩,⟨f216.name,by decide,func216.trans (congrArg S (by kernel_rfl))⟩,func217.trans (congrArg S (by kernel_rfl)),func218.trans (congrArg S (by kernel_rfl)),⟨f250.name,by decide,func250.trans (congrArg S (by kernel_rfl))⟩,func251.trans (congrArg S (by kernel_rfl)),func252.trans (congrArg S (by kernel_rfl)),⟨f253.name,by decide,func253.trans (congrArg S (by kernel_rfl))⟩,⟨f254.name,by decide,func254.trans (congrArg S (by kernel_rfl))⟩,⟨f275.name,by decide,func275.trans (congrArg S (by kernel_rfl))⟩,underlying0,isAgg0,sizeOf0,zeroValue0,underlying3,isAgg3,sizeOf3,zeroValue3,underlying4,isAgg4,sizeOf4,zeroValue4,underlying5,isAgg5,sizeOf5,zeroValue5,underlying9,isAgg9,sizeOf9,zeroValue9,underlying53,isAgg53,sizeOf53,zeroValue53,underlying149,isAgg149,sizeOf149,zeroValue149,underlying176,isAgg176,sizeOf176,zeroValue176,underlying218,isAgg218,sizeOf218,zeroValue218,underlying219,isAgg219,sizeOf219,zeroValue219,underlying129,isAgg129,sizeOf129,zeroValue129,underlying211,isAgg211,sizeOf211,zeroValue211,underlying226,isAgg226,sizeOf226,zeroValue226,underlying248,isAgg248,sizeOf248,zeroValue248,underlying252,isAgg252,sizeOf252,zeroValue252,underlying268,isAgg268,sizeOf268,zeroValue268,underlying269,isAgg269,sizeOf269,zeroValue269⟩
def Tryz.Tk:Go.Shelf.Ren:=⟨λ| 5=>92|7=>146|n=>n,λ| 22=>3|3=>3|4=>4|n=>n,λ| n=>n⟩
def Tryz.akd:Go.Proofs.SlLaysC2.n5 A Tk:=⟨by kernel_rfl,⟨f92.name,by decide,func92.trans (congrArg S (by kernel_rfl))⟩,⟨f146.name,by decide,func146.trans (congrArg S (by kernel_rfl))⟩,underlying3,isAgg3,sizeOf3,zeroValue3,underlying4,isAgg4,sizeOf4,zeroValue4,underlying3,isAgg3,sizeOf3,zeroValue3⟩
set_option maxRecDepth 100000 in
def Tryz.pN(w:World): Calls A 284 #[.string s,.int .u8 c] w λe a=>e=.returned (.int .i64 (Lib.indexByte s.data.toList c.toNat.toUInt8))/\a=w:=by go_enter func284,ntmps284;go_wp2;rw[run_callFunc_extern func300 (by kernel_rfl) (by kernel_rfl) (by kernel_rfl) (e:=Extern.BytealgIndexByte.indexByte) (by kernel_rfl),Lib.run_indexByteString];simp only[Result.andThen];rw[Oper.upon_value];go_wp2;go_ret;exact⟨rfl,rfl⟩
set_option maxRecDepth 100000 in
def Tryz.pM(c:UInt8)(w:World): Calls A 311 #[.string s,.string ⟨#[c]⟩] w λe a=>e=.returned (.int .i64 (Lib.indexByte s.data.toList c))/\a=w:=by
 go_enter func311,ntmps311;go_wp2_with (go_at_call 284;refine(pN _ _ _).mono ?_;rintro e a ⟨rfl,rfl⟩)
 .have h:([c]==s.toList)=true:=by assumption
  go_ret;refine⟨?_,rfl⟩;have e:s.data.toList=[c]:=by rw[<- Lib.toList_data];exact(beq_iff_eq.1 h).symm
  rw[e];simp[Lib.indexByte]
 go_ret;exact⟨rfl,rfl⟩
def Tryz.H7:¬∀(s:ByteArray) (c:UInt8) (w:World),
  Calls A 311 #[.string s,.string ⟨#[c]⟩] w λe a=>e=.returned (.int .i64 ((s.size:Int) - 1 - Lib.indexByte s.data.toList.reverse c))/\a=w:=by intro h;have e:=Lib.agree (by kernel_rfl) (pM ⟨#[97,97]⟩ 97 default) (h ⟨#[97,97]⟩ 97 default);injection e with _ e;revert e;decide
def Tryz.MZ:Go.Shelf.Ren:=⟨λ| 171=>248|243=>274|246=>288|283=>303|284=>304|285=>305|286=>306|129=>218|317=>312|318=>313|319=>314|320=>315|337=>320|338=>321|n=>n,λ| 3=>3|9=>9|2=>2|4=>4|171=>286|0=>0|53=>226|37=>59|5=>5|173=>288|212=>294|51=>211|20=>20|213=>295|46=>176|232=>299|233=>300|n=>n,λ| 17=>1|18=>2|19=>3|n=>n⟩
def Tryz.aaU:Go.Proofs.LaysM.n171 A MZ:={
 mixed:=by kernel_rfl
 f129:=func218.trans (congrArg S (by kernel_rfl))
 f171:=func248.trans (congrArg S (by kernel_rfl))
 f243:=func274.trans (congrArg S (by kernel_rfl))
 f246:=func288.trans (congrArg S (by kernel_rfl))
 f283:=func303.trans (congrArg S (by kernel_rfl))
 f284:=func304.trans (congrArg S (by kernel_rfl))
 f285:=func305.trans (congrArg S (by kernel_rfl))
 f286:=func306.trans (congrArg S (by kernel_rfl))
 f317:=func312.trans (congrArg S (by kernel_rfl))
 f318:=func313.trans (congrArg S (by kernel_rfl))
 f319:=func314.trans (congrArg S (by kernel_rfl))
 f320:=func315.trans (congrArg S (by kernel_rfl))
 f337:=func320.trans (congrArg S (by kernel_rfl))
 f338:=func321.trans (congrArg S (by kernel_rfl))
 t0:=underlying0
 a0:=isAgg0
 z0:=sizeOf0
 v0:=zeroValue0
 t2:=underlying2
 a2:=isAgg2
 z2:=sizeOf2
 v2:=zeroValue2
 t3:=underlying3
 a3:=isAgg3
 z3:=sizeOf3
 v3:=zeroValue3
 t4:=underlying4
 a4:=isAgg4
 z4:=sizeOf4
 v4:=zeroValue4
 t5:=underlying5
 a5:=isAgg5
 z5:=sizeOf5
 v5:=zeroValue5
 t9:=underlying9
 a9:=isAgg9
 z9:=sizeOf9
 v9:=zeroValue9
 t20:=underlying20
 a20:=isAgg20
 z20:=sizeOf20
 v20:=zeroValue20
 t37:=underlying59
 a37:=isAgg59
 z37:=sizeOf59
 v37:=zeroValue59
 t46:=underlying176
 a46:=isAgg176
 z46:=sizeOf176
 v46:=zeroValue176
 t51:=underlying211
 a51:=isAgg211
 z51:=sizeOf211
 v51:=zeroValue211
 t53:=underlying226
 a53:=isAgg226
 z53:=sizeOf226
 v53:=zeroValue226
 t171:=underlying286
 a171:=isAgg286
 z171:=sizeOf286
 v171:=zeroValue286
 t173:=underlying288
 a173:=isAgg288
 z173:=sizeOf288
 v173:=zeroValue288
 t212:=underlying294
 a212:=isAgg294
 z212:=sizeOf294
 v212:=zeroValue294
 t213:=underlying295
 a213:=isAgg295
 z213:=sizeOf295
 t232:=underlying299
 a232:=isAgg299
 z232:=sizeOf299
 v232:=zeroValue299
 t233:=underlying300
 a233:=isAgg300
 z233:=sizeOf300
 v233:=zeroValue300
 g17:=by kernel_rfl
 g18:=by kernel_rfl
 g19:=by kernel_rfl
 i0:=by kernel_rfl
 i2:=by kernel_rfl
 i3:=by kernel_rfl
 i4:=by kernel_rfl
 i5:=by kernel_rfl
 i9:=by kernel_rfl
 i20:=by kernel_rfl
 i37:=by kernel_rfl
 i46:=by kernel_rfl
 i51:=by kernel_rfl
 i53:=by kernel_rfl
 i171:=by kernel_rfl
 i173:=by kernel_rfl
 i212:=by kernel_rfl
 i232:=by kernel_rfl
 i233:=by kernel_rfl
 m17:=by kernel_rfl
 m18:=by kernel_rfl
 m19:=by kernel_rfl }
def Tryz.QH:Go.Shelf.Ren:=⟨λ| 41=>190|n=>n,λ| 22=>22|23=>3|4=>4|n=>n,λ| n=>n⟩
def Tryz.NK:Go.Proofs.SlLaysE0.n41 A QH:=⟨by kernel_rfl,⟨f190.name,by decide,func190.trans (congrArg S (by kernel_rfl))⟩,underlying4,isAgg4,sizeOf4,zeroValue4,underlying22,isAgg22,sizeOf22,zeroValue22⟩
def Tryz.NL:Go.Shelf.Ren:=⟨λ| 41=>234|n=>n,λ| 22=>34|23=>70|4=>4|n=>n,λ| n=>n⟩
def Tryz.HO:Go.Proofs.SlLaysE0.n41 A NL:=⟨by kernel_rfl,⟨f234.name,by decide,func234.trans (congrArg S (by kernel_rfl))⟩,underlying4,isAgg4,sizeOf4,zeroValue4,underlying34,isAgg34,sizeOf34,zeroValue34⟩
def Tryz.Tn:Go.Shelf.Ren:=⟨λ| 41=>141|n=>n,λ| 22=>59|23=>5|4=>4|n=>n,λ| n=>n⟩
def Tryz.To:Go.Proofs.SlLaysE0.n41 A Tn:=⟨by kernel_rfl,⟨f141.name,by decide,func141.trans (congrArg S (by kernel_rfl))⟩,underlying4,isAgg4,sizeOf4,zeroValue4,underlying59,isAgg59,sizeOf59,zeroValue59⟩
def Tryz.Tl:Go.Shelf.Ren:=⟨λ| 41=>82|n=>n,λ| 22=>27|23=>99|4=>4|n=>n,λ| n=>n⟩
def Tryz.Tm:Go.Proofs.SlLaysE0.n41 A Tl:=⟨by kernel_rfl,⟨f82.name,by decide,func82.trans (congrArg S (by kernel_rfl))⟩,underlying4,isAgg4,sizeOf4,zeroValue4,underlying27,isAgg27,sizeOf27,zeroValue27⟩
def Tryz.GW:Go.Shelf.Ren:=⟨λ| 7=>231|10=>263|n=>n,λ| 23=>230|26=>9|3=>57|28=>234|0=>0|27=>233|33=>113|4=>4|n=>n,λ| n=>n⟩
def Tryz.aaZ:Go.Proofs.SlLaysZ.n7 A GW:=⟨by kernel_rfl,⟨f231.name,by decide,func231.trans (congrArg S (by kernel_rfl))⟩,⟨f263.name,by decide,func263.trans (congrArg S (by kernel_rfl))⟩,underlying0,isAgg0,sizeOf0,zeroValue0,underlying4,isAgg4,sizeOf4,zeroValue4,underlying230,isAgg230,sizeOf230,zeroValue230,underlying9,isAgg9,sizeOf9,zeroValue9,underlying233,isAgg233,sizeOf233,zeroValue233,underlying234,isAgg234,sizeOf234,zeroValue234,underlying113,isAgg113,sizeOf113,zeroValue113⟩
def Tryz.Ao:Go.Shelf.Ren:=⟨λ| 6=>230|8=>261|9=>262|11=>279|13=>167|12=>280|23=>217|24=>218|14=>290|15=>291|16=>292|17=>293|18=>294|19=>295|20=>296|21=>297|22=>298|25=>307|26=>251|27=>252|28=>308|29=>309|30=>310|31=>316|n=>n,λ| 26=>9|28=>234|24=>119|0=>0|3=>3|37=>176|48=>211|50=>226|4=>4|40=>219|39=>218|45=>129|5=>5|9=>9|51=>248|55=>252|57=>268|58=>269|33=>113|n=>n,λ| n=>n⟩
def Tryz.Y7:Go.Proofs.SlLaysZ.n6 A Ao:=⟨by kernel_rfl,⟨f230.name,by decide,func230.trans (congrArg S (by kernel_rfl))⟩,⟨f261.name,by decide,func261.trans (congrArg S (by kernel_rfl))⟩,⟨f279.name,by decide,func279.trans (congrArg S (by kernel_rfl))⟩,underlying0,isAgg0,sizeOf0,zeroValue0,underlying119,isAgg119,sizeOf119,zeroValue119,underlying9,isAgg9,sizeOf9,zeroValue9,underlying234,isAgg234,sizeOf234,zeroValue234,by kernel_rfl⟩
def Tryz.RB:Go.Shelf.Ren:=⟨λ| 6=>262|8=>167|9=>280|19=>217|20=>218|21=>290|22=>291|23=>292|24=>293|25=>294|26=>295|27=>296|28=>297|29=>298|36=>307|31=>251|32=>252|37=>308|38=>309|39=>310|41=>316|n=>n,λ| 27=>119|29=>9|3=>3|32=>176|26=>119|0=>0|44=>211|46=>226|4=>4|36=>219|35=>218|41=>129|5=>5|9=>9|53=>248|57=>252|63=>268|64=>269|n=>n,λ| n=>n⟩
def Tryz.Zc:Go.Proofs.SlLaysM.n6 A RB:=⟨by kernel_rfl,⟨f262.name,by decide,func262.trans (congrArg S (by kernel_rfl))⟩,func167.trans (congrArg S (by kernel_rfl)),⟨f280.name,by decide,func280.trans (congrArg S (by kernel_rfl))⟩,func217.trans (congrArg S (by kernel_rfl)),func218.trans (congrArg S (by kernel_rfl)),⟨f290.name,by decide,func290.trans (congrArg S (by kernel_rfl))⟩,⟨f291.name,by decide,func291.trans (congrArg S (by kernel_rfl))⟩,⟨f292.name,by decide,func292.trans (congrArg S (by kernel_rfl))⟩,⟨f293.name,by decide,func293.trans (congrArg S (by kernel_rfl))⟩,⟨f294.name,by decide,func294.trans (congrArg S (by kernel_rfl))⟩,⟨f295.name,by decide,func295.trans (congrArg S (by kernel_rfl))⟩,⟨f296.name,by decide,func296.trans (congrArg S (by kernel_rfl))⟩,⟨f297.name,by decide,func297.trans (congrArg S (by kernel_rfl))⟩,⟨f298.name,by decide,func298.trans (congrArg S (by kernel_rfl))⟩,func251.trans (congrArg S (by kernel_rfl)),func252.trans (congrArg S (by kernel_rfl)),⟨f307.name,by decide,func307.trans (congrArg S (by kernel_rfl))⟩,⟨f308.name,by decide,func308.trans (congrArg S (by kernel_rfl))⟩,⟨f309.name,by decide,func309.trans (congrArg S (by kernel_rfl))⟩,⟨f310.name,by decide,func310.trans (congrArg S (by kernel_rfl))⟩,⟨f316.name,by decide,func316.trans (congrArg S (by kernel_rfl))⟩,underlying0,isAgg0,sizeOf0,zeroValue0,underlying3,isAgg3,sizeOf3,zeroValue3,underlying4,isAgg4,sizeOf4,zeroValue4,underlying5,isAgg5,sizeOf5,zeroValue5,underlying9,isAgg9,sizeOf9,zeroValue9,underlying119,isAgg119,sizeOf119,zeroValue119,underlying119,isAgg119,sizeOf119,zeroValue119,underlying9,isAgg9,sizeOf9,zeroValue9,underlying176,isAgg176,sizeOf176,zeroValue176,underlying218,isAgg218,sizeOf218,zeroValue218,underlying219,isAgg219,sizeOf219,zeroValue219,underlying129,isAgg129,sizeOf129,zeroValue129,underlying211,isAgg211,sizeOf211,zeroValue211,underlying226,isAgg226,sizeOf226,zeroValue226,underlying248,isAgg248,sizeOf248,zeroValue248,underlying252,isAgg252,sizeOf252,zeroValue252,underlying268,isAgg268,sizeOf268,zeroValue268,underlying269,isAgg269,sizeOf269,zeroValue269⟩
def Tryz.Kh:Go.Shelf.Ren:=⟨λ| 4=>276|n=>n,λ| 22=>59|25=>5|3=>3|4=>4|9=>9|20=>20|0=>0|n=>n,λ| n=>n⟩
def Tryz.apw:Go.Proofs.Lays8.n4 A Kh:=⟨by kernel_rfl,⟨f276.name,by decide,func276.trans (congrArg S (by kernel_rfl))⟩,underlying0,isAgg0,sizeOf0,zeroValue0,underlying3,isAgg3,sizeOf3,zeroValue3,underlying4,isAgg4,sizeOf4,zeroValue4,underlying9,isAgg9,sizeOf9,zeroValue9,underlying20,isAgg20,sizeOf20,zeroValue20,underlying59,isAgg59,sizeOf59,zeroValue59⟩
open Go.RowKit Go.Maps Go.Sort Go.Shelf in
def Tryz.strconv_Itoa(h0 : -9223372036854775808<=c)(h1:c<=9223372036854775807)(w:World)(a:Lib.TabIs A w "internal/strconv.uint64pow10" .u64 Lib.pow10Tab) : Calls A 248 #[.int .i64 c] w λe b=>e=.returned (.string ⟨(Lib.itoa c).toArray⟩)/\∃k os,b=grow (w.drewN k) os:=Any.strconv_Itoa aaU c h0 h1 w a
open Go.RowKit Go.Maps Go.Sort Go.Shelf in
def Tryz.adD(m:Nat):AnyZ.SortsIn A Ao Fence.wide m :=⟨λl9 c a d W e b f=>callsIn_wide.2 (AnyM.slices_Sort_string Zc l9 c a d W e b f),λp a W=>callsIn_wide.2 (AnyM.slices_Sort_string_none Zc p a W)⟩

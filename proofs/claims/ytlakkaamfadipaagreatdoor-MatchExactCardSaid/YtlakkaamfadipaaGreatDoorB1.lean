/- A part of a proof; the claim's last text says of what. -/
import Derived.Calls
import Derived.Shelf.SlSortCmp.NoneTotal
import Derived.Ground.SlsfProg
import Derived.Shelf.SlicesG.Cmp
import Derived.Ground.SlgcProg
import Derived.Test.YtlakkaamfadipaaGreatDoorProg
import Derived.Test.YtlakkaamfadipaaGreatDoorChecked
import Derived.Lib.Strings
import Derived.Lib.Slices
import Derived.Lib.Walk
import Derived.Lib.Bytealg
import Derived.Shelf.LaysM
import Derived.Shelf.Strconv.Itoa3
import Derived.Shelf.Sort.Plain
import Derived.Ground.SlgnProg
import Derived.Shelf.SlicesE.Clone
import Derived.Ground.SlgmProg
import Derived.Ground.GgzProg
import Derived.Ground.Names2Prog
import Derived.Shelf.SlIter.Nil
import Derived.Shelf.SortM.Plain
import Derived.Shelf.SortM.SortNone
import Derived.Shelf.Spec.SlicesGrow
set_option linter.all false
set_option maxHeartbeats 2000000
set_option maxRecDepth 20000

namespace Go.Pm
open Go
def Yw{α:Type}:∀(k:Ask α) (w:World),w.drawn<=(w.ask k).2.drawn:=by
 intro k
 induction k with
 |done a=>intro w;exact Nat.le_refl _
 |ask b range k ih =>
  intro w;simp only[World.ask];split
  .exact ih _ w
  .have:=ih ((Question.extern b range).cut (w.tape w.drawn (Question.extern b range))) { w with drawn:=w.drawn+1 };exact Nat.le_trans (Nat.le_succ _) this
def Ww(w:World)(c:Sys):w.drawn<=(w.sys c).2.drawn:=by
 have h:=Yw (Kernel.perform c w.os) w;unfold World.sys;split
 .exact Nat.le_refl _
 .rename_i r os a e;rw[e]at h;exact h
def Hg{p:Program}{w w':World}{b a:Addr}{u:TypeId}{v:Value}{x:Bool}{l:List Addr}(h:w.viewStore p b u a v x=.ok (w',l)):w'.drawn=w.drawn:=by
 unfold World.viewStore at h;simp only[bind,Except.bind,pure,Except.pure]at h
 repeat' split at h
 all_goals first
  |(simp only[Except.ok.injEq,Prod.mk.injEq]at h;obtain⟨rfl,_⟩:=h;rfl)
  |cases h
def Kg{p:Program}{w w':World}{a:Addr}{v:Value}{x:Bool}{l:List Addr}(h:w.farStore p a v x=.ok (w',l)):w'.drawn=w.drawn:=by
 unfold World.farStore at h;split at h
 .split at h
  .rename_i r e;simp only[Except.ok.injEq]at h;subst h;exact Hg e
  .cases h
 .cases h
def OS(w:World)(a:Addr)(n:Nat):(w.freeze a n).drawn=w.drawn:=by unfold World.freeze;split<;>rfl
def RD{α:Type}(d:Nat):Result α->Prop
 |.ok _ w=>d<=w.drawn
 |.halt _ w=>d<=w.drawn
def RD.mono{α:Type}{d e:Nat}(h:d<=e):∀{r:Result α},RD e r->RD d r
 |.ok _ _,k=>Nat.le_trans h k
 |.halt _ _,k=>Nat.le_trans h k
def Mn{α:Type}{p:Program}:∀(s:Sem α) (w:World),RD w.drawn (s.run p w):=by
 intro s
 induction s with
 |pure b=>intro w;exact Nat.le_refl _
 |load m b k ih =>
  intro w;simp only[Sem.run];split
  .exact ih _ _
  .split
   .exact ih _ _
   .exact Nat.le_refl _
 |store m b v k ih =>
  intro w;cases v<;>simp only[Sem.run]<;>try exact Nat.le_refl _
  all_goals
   split
   .split
    .exact Nat.le_refl _
    .exact RD.mono (Nat.le_refl _) (ih _)
   .split
    .rename_i e;exact RD.mono (Nat.le_of_eq (Kg e).symm) (ih _)
    .exact Nat.le_refl _
 |new o k ih=>intro w;simp only[Sem.run];exact RD.mono (Nat.le_refl _) (ih _ _)
 |shape r k ih=>intro w;simp only[Sem.run];exact ih _ _
 |freeze b n k ih=>intro w;simp only[Sem.run];exact RD.mono (Nat.le_of_eq (OS w b n).symm) (ih _)
 |frozen b k ih=>intro w;simp only[Sem.run];exact ih _ _
 |getObj r k ih =>
  intro w;simp only[Sem.run];split
  .exact Nat.le_refl _
  .exact ih _ _
  .exact Nat.le_refl _
 |setObj r o k ih =>
  intro w;simp only[Sem.run];split
  .exact Nat.le_refl _
  .exact RD.mono (Nat.le_refl _) (ih _)
  .exact Nat.le_refl _
 |choose q k ih =>
  intro w;simp only[Sem.run];split
  .exact ih _ _
  .exact RD.mono (Nat.le_succ _) (ih _ _)
 |sys c k ih=>intro w;simp only[Sem.run];exact RD.mono (Ww w c) (ih _ _)
 |program k ih=>intro w;simp only[Sem.run];exact ih _ _
 |mark m k ih=>intro w;simp only[Sem.run];exact ih _
 |halt x=>intro w;exact Nat.le_refl _
def ko{α:Type}{p:Program}{s:Sem α}{w w':World}{a:α}(h:s.run p w=.ok a w'):w.drawn<=w'.drawn:=by
 have:=Mn (p:=p) s w
 rwa [h]at this
def run_halt{α:Type}{p:Program}{s:Sem α}{w w':World}{a:Halt}(h:s.run p w=.halt a w'):w.drawn<=w'.drawn:=by
 have:=Mn (p:=p) s w
 rwa [h]at this
def GD(d:Nat):GStep->Prop
 |.go _ w _|.comm _ _ _ _ w _|.spawn _ _ w _|.count _ w _|.timer _ _ w _|.alone _ _ w _|.newcoro _ _ _ w _|.coroswitch _ _ _ w _|.collect _ w _|.watch _ w _=>d<=w.drawn
 |.ended ..=>True
def GD.after{d:Nat}{a:Array Event}:∀{s:GStep},GD d s->GD d (s.after a):=by
 intro s h;cases s<;>exact h
def GD.mono{d e:Nat}(h:d<=e):∀{s:GStep},GD e s->GD d s:=by
 intro s k;cases s<;>first|exact Nat.le_trans h k|trivial
def GD.ite{d:Nat}{c:Prop}[Decidable c]{x y:GStep}(h:GD d x)(k:GD d y):GD d (if c then x else y):=by
 split<;>assumption
def Uk(d:Nat)(w:World)(a:Nat)(t:ByteArray)(o:Outcome):GD d (endWith w a t o):=by
 simp only[endWith]
 (repeat' split)<;>trivial
def A3(p:Program)(m:Bool)(fr:Frame)(cs:List Frame)(a:Option Dying)(v:Value)(w:World):GD w.drawn (doReturn p m fr cs a v w):=by
 simp only[doReturn]
 (repeat' split)<;>first|trivial|exact Nat.le_refl _
def A0(p:Program)(fr:Frame)(v:Value)(w:World):GD w.drawn (endPrinting p fr v w):=by
 simp only[endPrinting]
 (repeat' split)<;>first|trivial|exact Nat.le_refl _
def G7(p:Program)(fr:Frame)(cs:List Frame)(a:Option Dying)(m:String)(w:World):GD w.drawn (endFatal p fr cs a m w):=by
 simp only[endFatal];split
 .rename_i e;exact ko e
 .trivial
 .trivial
def SH(p:Program)(fr:Frame)(d:Dying)(f:Fatal)(w:World):GD w.drawn (writeOn p fr d f w):=by
 unfold writeOn;split
 .trivial
 .simp only;split
  .rename_i e;rw[Sem.runT_eq]at e;simp only[Prod.mk.injEq]at e;exact ko e.1
  .rename_i e;rw[Sem.runT_eq]at e;simp only[Prod.mk.injEq]at e;exact run_halt e.1
  .trivial
  .trivial
def ai0(p:Program)(fr:Frame)(d:Dying)(w:World):GD w.drawn (die p fr d w):=by
 unfold die;split
 .exact SH ..
 split
 .split
  .exact Nat.le_refl _
  .exact Uk ..
 .simp only;split
  .exact Nat.le_refl _
  .split
   .rename_i e;exact ko e
   .trivial
  .rw[Sem.runT_eq];refine GD.after ?_;simp only;split
   .rename_i e;exact ko e
   .rename_i e;exact ko e
   .trivial
   .rename_i e;exact GD.mono (run_halt e) (A0 ..)
   .trivial
  .trivial
def HD(p:Program)(fr:Frame)(cs:List Frame)(a:Option Dying)(d:Deferred)(w:World):GD w.drawn (callDeferred p fr cs a d w):=by
 simp only[callDeferred,Sem.runT_eq];refine GD.ite trivial ?_
 .refine GD.after ?_
  (repeat' split)<;>first
   |trivial
   |exact ko ‹_›
   |exact run_halt ‹_›
   |exact GD.mono (run_halt ‹_›) (G7 ..)
def Wp(p:Program)(m:Bool)(fr:Frame)(cs:List Frame)(a:Option Dying)(w:World):GD w.drawn (unwind p m fr cs a w):=by
 simp only[unwind,Sem.runT_eq];split
 .refine GD.after ?_;split
  .exact ko ‹_›
  .trivial
 .exact HD ..
 .split
  .trivial
  . (repeat' split)<;>first
    |trivial
    |exact Nat.le_refl _
    |exact ko ‹_›
    |exact A0 ..
  .split
   .exact A3 ..
   .refine GD.after ?_;split
    .exact GD.mono (ko ‹_›) (A3 ..)
    .trivial
    .trivial
def abV(p:Program)(fr:Frame)(cs:List Frame)(a:Option Dying)(g:Nat)(w:World):GD w.drawn (early p fr cs a g w):=by
 simp only[early]
 (repeat' split)<;>first
  |trivial
  |exact Nat.le_refl _
  |exact ko ‹_›
  |exact(ko ‹Sem.run _ _ _=_›:_)
def Sj(p:Program)(l:Bool)(fr:Frame)(cs:List Frame)(b:Option Dying)(s:Sem Next)(w:World):GD w.drawn (stepG.apply p l fr cs b s w):=by
 simp only[stepG.apply];have a:(if l=true then s.runT p w #[]else(s.run p w,#[])).1=s.run p w:=by split<;>simp
 generalize (if l=true then s.runT p w #[]else(s.run p w,#[]))=x at a;obtain⟨r,c⟩:=x;simp only at a;subst a;refine GD.after ?_;simp only
 (repeat' split)<;>first
  |trivial
  |exact ko ‹_›
  |exact run_halt ‹_›
  |exact GD.mono (run_halt ‹_›) (G7 ..)
  |exact GD.mono (run_halt ‹_›) (abV ..)
def afm(p:Program)(m l:Bool)(fr:Frame)(cs:List Frame)(a:Option Dying)(w:World):GD w.drawn (stepG.exec p m l fr cs a w):=by
 simp only[stepG.exec,stepG.oper,Sem.runT_eq,Option.elim]
 (repeat' split)<;>repeat' first
  |trivial
  |exact Nat.le_refl _
  |exact ko ‹_›
  |exact run_halt ‹_›
  |exact Sj ..
  |exact GD.mono (ko ‹_›) (Sj ..)
  |exact GD.mono (ko ‹_›) (A3 ..)
  |refine GD.after ?_
  |split
def Zr(p:Program)(m l:Bool)(g:Goroutine)(w:World):GD w.drawn (stepG p m g w l):=by
 unfold stepG;simp only;split
 .exact ai0 ..
 .exact afm ..
 .exact Wp ..
def SD(d:Nat):Stepped->Prop
 |.next m=>d<=m.world.drawn
 |.ended ..=>True
def SD.mono{d e:Nat}(h:d<=e):∀{s:Stepped},SD e s->SD d s:=by
 intro s k;cases s<;>first|exact Nat.le_trans h k|trivial
def VB(p:Program)(gs:Array Goroutine)(rest:Rest)(w:World):SD w.drawn (look p gs rest w):=by
 simp only[look]
 (repeat' split)<;>first
  |trivial
  |(have:=ko ‹Sem.run p _ w=Result.ok _ _›;exact this)
def Kv(p:Program)(rest:Rest)(gs:Array Goroutine)(i:Nat)(g:Goroutine)(cs:Array CommCase)(b:Bool)(sh:CommShape)(w:World):SD w.drawn (communicate p rest gs i g cs b sh w).1:=by
 have d:∀a,waitingAt rest cs w=some a->a.drawn=w.drawn:=by
  intro a h;unfold waitingAt at h
  (repeat' split at h)<;>simp only[Option.some.injEq,reduceCtorEq]at h<;>subst h<;>rfl
 simp only[communicate]
 (repeat' split)<;>first
  |trivial
  |exact Nat.le_refl _
  |exact Nat.le_of_eq (d _ ‹_›).symm
  |(have c:=ko ‹Sem.run p _ w=Result.ok _ _›;first|exact c|exact Nat.le_trans c (run_halt ‹Sem.run p _ _=Result.halt _ _›)|(have e:=ko ‹Sem.run p (choose _) _=Result.ok _ _›;exact Nat.le_trans c e))
def Mq(m:Machine)(k:Nat)(t:Timer)(a b:Nat):(retime m k t a b).2.world.drawn=m.world.drawn:=by
 unfold retime;cases d:t.chan with
 |none=>rfl
 |some c =>
  simp only[drain];split<;>rfl
def SN(m e:Machine)(o:TimerOp)(v:Value)(h:timerOp m o=.ok (v,e)):e.world.drawn=m.world.drawn:=by
 have i:∀(n:Machine) (d:Addr) (f:Nat->Timer->Value×Machine),(∀k t,(f k t).2.world.drawn=m.world.drawn)->timerOp.named n d f=.ok (v,e)->e.world.drawn=m.world.drawn:=by
  intro n d f j h;unfold timerOp.named at h;split at h
  .rename_i k _;simp only[Except.ok.injEq]at h;have:=j k (n.rest.timers.getD k default)
   rwa [h]at this
  .cases h
 have l:∀(d:Addr) (g:Machine),timerOp.opened m d=some g->g.world.drawn=m.world.drawn:=by
  intro d g h;unfold timerOp.opened at h
  (repeat' split at h)<;>simp only[Option.some.injEq,reduceCtorEq]at h<;>subst h<;>rfl
 cases o with
 |new t =>
  simp only[timerOp]at h
  (repeat' split at h)<;>simp only[Except.ok.injEq,Prod.mk.injEq,reduceCtorEq]at h<;>obtain⟨_,rfl⟩:=h<;>rfl
 |stop d =>
  simp only[timerOp]at h;exact i _ _ _ (λk t=>Mq ..) h
 |reset d a b =>
  simp only[timerOp]at h;split at h
  .exact i _ _ _ (λk t=>(Mq ..).trans (l _ _ ‹_›)) h
  .cases h
 |deadline c r w a =>
  simp only[timerOp,Except.ok.injEq,Prod.mk.injEq]at h;obtain⟨_,rfl⟩:=h;rfl
def Zw(p:Program)(m:Machine)(k:Nat):SD m.world.drawn (serve p m k):=by
 simp only[serve]
 (repeat' split)<;>first|trivial|exact Nat.le_refl _
def adf(p:Program)(m:Machine)(i:Nat)(l:Bool):SD m.world.drawn (runT p m i l).1:=by
 have f:=λg=>Zr p (i==0) l g m.world;simp only[runT];generalize m.gs.swapAt! i { (default:Goroutine)with status:=.finished }=sw;have h:=f sw.1;generalize stepG p (i==0) sw.1 m.world l=s at h;cases s with
 |go g w a=>exact h
 |comm g n b j w a=>exact SD.mono h (Kv ..)
 |spawn g c w a=>exact h
 |count g w a=>simp only;split<;>first|trivial|exact h
 |timer g k w a =>
  simp only;split
  .have:=SN _ _ _ _ ‹_›;exact Nat.le_trans h (Nat.le_of_eq this.symm)
  .simp only[endThrow,dieOf];exact h
  .trivial
  .trivial
 |alone g on w a=>exact h
 |newcoro g c d w a=>exact h
 |coroswitch g c e w a =>
  simp only;split
  .exact h
  .simp only[endThrow,dieOf];exact h
  .trivial
 |collect g w a=>exact SD.mono h (VB ..)
 |watch g w a=>exact h
 |ended o w a=>trivial
def MD(d:Nat):Move->Prop
 |.goroutine m _=>d<=m.world.drawn
 |.machine s _=>SD d s
def MD.mono{d e:Nat}(h:d<=e):∀{s:Move},MD e s->MD d s:=by
 intro s k;cases s<;>first|exact Nat.le_trans h k|exact SD.mono h k
def KH(p:Program)(m:Machine):MD m.world.drawn (askOn p m):=by
 have a:∀n:Machine,MD n.world.drawn (match (choose (.sched (runnable m.gs m.world.os.mono).length):Sem Nat).run p n.world with
   |.halt _ w=>.machine (.ended (.stuck "sched" "") w)
   |.ok k world =>
    if(runnable m.gs m.world.os.mono).length<=1 then .goroutine { n with world } ((runnable m.gs m.world.os.mono).getD k 0)else
    match (choose (.extern "sched.slice" 65536):Sem Nat).run p world with
    |.halt _ w=>.machine (.ended (.stuck "sched.slice" "") w)
    |.ok j world=>.goroutine { n with world,rest:={ n.rest with slice:=if j=0 then none else some ((runnable m.gs m.world.os.mono).getD k 0,j) } } ((runnable m.gs m.world.os.mono).getD k 0)):=by
  intro n;split
  .trivial
  .split
   .exact ko ‹_›
   .split
    .trivial
    .exact Nat.le_trans (ko ‹_›) (ko ‹_›)
 simp only[askOn];split
 .trivial
 .rename_i k w d;have b:=ko d;split
  .exact SD.mono b (Zw p { m with world:=w } _)
  .split
   .split
    .exact b
    .split
     .exact b
     .split<;>trivial
   .split
    .exact MD.mono b (a { m with world:=w })
    .split
     .trivial
     .rename_i e;exact MD.mono (Nat.le_trans b (ko e)) (a { m with world:=_ })
     .rename_i e;have c:=ko e;exact Nat.le_trans b c
     .rename_i e;exact MD.mono (Nat.le_trans b (ko e)) (a (Machine.advanceTo { m with world:=_ } _))
def acn(p:Program)(m:Machine):MD m.world.drawn (ask p m):=by
 simp only[ask];split
 .split
  .trivial
  .rename_i w a;have h:=VB p m.gs m.rest w;split
   .rename_i c b;rw[b]at h;exact MD.mono (Nat.le_trans (ko a) h) (KH ..)
   .exact SD.mono (ko a) h
  .exact MD.mono (ko ‹_›) (KH p { m with world:=_ })
 .exact KH ..
def adA(p:Program)(m:Machine):MD m.world.drawn (move p m):=by
 simp only[move];split
 .split
  .exact Nat.le_refl _
  .trivial
 .split
  .split
   .exact Nat.le_refl _
   .exact acn p { m with rest:=_ }
  .exact acn ..
def SV{p:Program}{m d:Machine}(h:step p m=.next d):m.world.drawn<=d.world.drawn:=by
 have a:=adA p m;unfold step stepT at h;split at h
 .rename_i n i b;rw[b]at a;have c:=adf p n i true;rw[h]at c;exact Nat.le_trans a c
 .rename_i s o b;rw[b]at a;simp only at h;subst h;exact a
def Gx{p:Program}{m b:Machine}(h:Steps p m b):m.world.drawn<=b.world.drawn:=by
 obtain⟨n,a⟩:=h
 induction n generalizing m with
 |zero=>simp only[runN,Stepped.next.injEq]at a;rw[a];exact Nat.le_refl _
 |succ n ih =>
  simp only[runN]at a;split at a
  .exact Nat.le_trans (SV ‹_›) (ih a)
  .simp_all
def Calls.drawn{P:Program}{f:FuncId}{args:Array Value}{w:World}{R:Ending->World->Prop}(h:Calls P f args w R)(i:∀w',¬R .outgrown w'):
  Calls P f args w λe w'=>R e w'/\w.drawn<=w'.drawn:=by
 intro g;obtain⟨e,w',k,b,a,j,d⟩:=h g;refine⟨e,w',k,⟨b,?_⟩,a,j,d⟩;cases e with
 |returned v=>exact Gx a
 |panicked c=>exact Gx a
 |outgrown=>exact absurd b (i _)
end Go.Pm
namespace Go.Proofs
open Go.Shelf
def Tryz.Us:Go.Shelf.Ren:=⟨λ| 5=>63|7=>127|n=>n,λ| 22=>3|3=>3|4=>4|n=>n,λ| n=>n⟩
def Tryz.ajb:Go.Proofs.SlLaysC2.n5 prog Us:=⟨by kernel_rfl,⟨f63.name,by decide,func63.trans (congrArg some (by kernel_rfl))⟩,⟨f127.name,by decide,func127.trans (congrArg some (by kernel_rfl))⟩,underlying3,isAgg3,sizeOf3,zeroValue3,underlying4,isAgg4,sizeOf4,zeroValue4,underlying3,isAgg3,sizeOf3,zeroValue3⟩
def Tryz.Wy:Go.Shelf.Ren:=⟨λ| 6=>222|15=>126|14=>256|28=>194|29=>195|20=>274|21=>275|22=>276|23=>277|24=>278|25=>279|26=>280|27=>281|46=>290|47=>235|48=>236|49=>291|50=>292|57=>299|n=>n,λ| 22=>157|24=>182|25=>248|3=>3|39=>173|0=>0|53=>229|55=>231|4=>4|46=>223|45=>222|50=>109|5=>5|9=>9|66=>255|70=>259|76=>275|77=>151|n=>n,λ| n=>n⟩
def Tryz.aj4:Go.Proofs.SlLaysF0.n6 prog Wy:=⟨by kernel_rfl,⟨f222.name,by decide,func222.trans (congrArg some (by kernel_rfl))⟩,⟨f256.name,by decide,func256.trans (congrArg some (by kernel_rfl))⟩,func126.trans (congrArg some (by kernel_rfl)),⟨f274.name,by decide,func274.trans (congrArg some (by kernel_rfl))⟩,⟨f275.name,by decide,func275.trans (congrArg some (by kernel_rfl))⟩,⟨f276.name,by decide,func276.trans (congrArg some (by kernel_rfl))⟩,⟨f277.name,by decide,func277.trans (congrArg some (by kernel_rfl))⟩,⟨f278.name,by decide,func278.trans (congrArg some (by kernel_rfl))⟩,⟨f279.name,by decide,func279.trans (congrArg some (by kernel_rfl))⟩,⟨f280.name,by decide,func280.trans (congrArg some (by kernel_rfl))⟩,⟨f281.name,by decide,func281.trans (congrArg some (by kernel_rfl))⟩,func194.trans (congrArg some (by kernel_rfl)),func195.trans (congrArg some (by kernel_rfl)),⟨f290.name,by decide,func290.trans (congrArg some (by kernel_rfl))⟩,func235.trans (congrArg some (by kernel_rfl)),func236.trans (congrArg some (by kernel_rfl)),⟨f291.name,by decide,func291.trans (congrArg some (by kernel_rfl))⟩,⟨f292.name,by decide,func292.trans (congrArg some (by kernel_rfl))⟩,⟨f299.name,by decide,func299.trans (congrArg some (by kernel_rfl))⟩,underlying0,isAgg0,sizeOf0,zeroValue0,underlying3,isAgg3,sizeOf3,zeroValue3,underlying4,isAgg4,sizeOf4,zeroValue4,underlying5,isAgg5,sizeOf5,zeroValue5,underlying9,isAgg9,sizeOf9,zeroValue9,underlying157,isAgg157,sizeOf157,zeroValue157,underlying248,isAgg248,sizeOf248,zeroValue248,underlying173,isAgg173,sizeOf173,zeroValue173,underlying222,isAgg222,sizeOf222,zeroValue222,underlying223,isAgg223,sizeOf223,zeroValue223,underlying109,isAgg109,sizeOf109,zeroValue109,underlying229,isAgg229,sizeOf229,zeroValue229,underlying231,isAgg231,sizeOf231,zeroValue231,underlying255,isAgg255,sizeOf255,zeroValue255,underlying259,isAgg259,sizeOf259,zeroValue259,underlying275,isAgg275,sizeOf275,zeroValue275,underlying151,isAgg151,sizeOf151,zeroValue151⟩
def Tryz.Wx:Go.Shelf.Ren:=⟨λ| 6=>60|15=>126|14=>125|28=>194|29=>195|20=>186|21=>187|22=>188|23=>189|24=>190|25=>191|26=>192|27=>193|46=>234|47=>235|48=>236|49=>237|50=>238|57=>261|n=>n,λ| 22=>50|24=>44|25=>113|3=>3|39=>173|0=>0|53=>229|55=>231|4=>4|46=>223|45=>222|50=>109|5=>5|9=>9|66=>255|70=>259|76=>275|77=>151|n=>n,λ| n=>n⟩
def Tryz.aj3:Go.Proofs.SlLaysF0.n6 prog Wx:=⟨by kernel_rfl,⟨f60.name,by decide,func60.trans (congrArg some (by kernel_rfl))⟩,⟨f125.name,by decide,func125.trans (congrArg some (by kernel_rfl))⟩,func126.trans (congrArg some (by kernel_rfl)),⟨f186.name,by decide,func186.trans (congrArg some (by kernel_rfl))⟩,⟨f187.name,by decide,func187.trans (congrArg some (by kernel_rfl))⟩,⟨f188.name,by decide,func188.trans (congrArg some (by kernel_rfl))⟩,⟨f189.name,by decide,func189.trans (congrArg some (by kernel_rfl))⟩,⟨f190.name,by decide,func190.trans (congrArg some (by kernel_rfl))⟩,⟨f191.name,by decide,func191.trans (congrArg some (by kernel_rfl))⟩,⟨f192.name,by decide,func192.trans (congrArg some (by kernel_rfl))⟩,⟨f193.name,by decide,func193.trans (congrArg some (by kernel_rfl))⟩,func194.trans (congrArg some (by kernel_rfl)),func195.trans (congrArg some (by kernel_rfl)),⟨f234.name,by decide,func234.trans (congrArg some (by kernel_rfl))⟩,func235.trans (congrArg some (by kernel_rfl)),func236.trans (congrArg some (by kernel_rfl)),⟨f237.name,by decide,func237.trans (congrArg some (by kernel_rfl))⟩,⟨f238.name,by decide,func238.trans (congrArg some (by kernel_rfl))⟩,⟨f261.name,by decide,func261.trans (congrArg some (by kernel_rfl))⟩,underlying0,isAgg0,sizeOf0,zeroValue0,underlying3,isAgg3,sizeOf3,zeroValue3,underlying4,isAgg4,sizeOf4,zeroValue4,underlying5,isAgg5,sizeOf5,zeroValue5,underlying9,isAgg9,sizeOf9,zeroValue9,underlying50,isAgg50,sizeOf50,zeroValue50,underlying113,isAgg113,sizeOf113,zeroValue113,underlying173,isAgg173,sizeOf173,zeroValue173,underlying222,isAgg222,sizeOf222,zeroValue222,underlying223,isAgg223,sizeOf223,zeroValue223,underlying109,isAgg109,sizeOf109,zeroValue109,underlying229,isAgg229,sizeOf229,zeroValue229,underlying231,isAgg231,sizeOf231,zeroValue231,underlying255,isAgg255,sizeOf255,zeroValue255,underlying259,isAgg259,sizeOf259,zeroValue259,underlying275,isAgg275,sizeOf275,zeroValue275,underlying151,isAgg151,sizeOf151,zeroValue151⟩
set_option maxRecDepth 100000 in
def Tryz.sA(s:ByteArray)(c:Int)(w:World):
  Calls prog 208 #[.string s,.int .u8 c] w λe w'=>e=.returned (.int .i64 (Lib.indexByte s.data.toList c.toNat.toUInt8))/\w'=w:=by
 go_enter func208,ntmps208
 go_wp2
 rw[run_callFunc_extern func247 (by kernel_rfl) (by kernel_rfl) (by kernel_rfl) (e:=Extern.BytealgIndexByte.indexByte) (by kernel_rfl),Lib.run_indexByteString];simp only[Result.andThen];rw[Oper.upon_value]
 go_wp2
 go_ret
 exact⟨rfl,rfl⟩
set_option maxRecDepth 100000 in
def Tryz.sy(s:ByteArray)(c:UInt8)(w:World):
  Calls prog 272 #[.string s,.string ⟨#[c]⟩] w λe w'=>e=.returned (.int .i64 (Lib.indexByte s.data.toList c))/\w'=w:=by
 go_enter func272,ntmps272
 go_wp2_with (go_at_call 208;refine(sA _ _ _).mono ?_;rintro e w' ⟨rfl,rfl⟩)
 .have h:([c]==s.toList)=true:=by assumption
  go_ret
  refine⟨?_,rfl⟩;have e:s.data.toList=[c]:=by rw[<- Lib.toList_data];exact(beq_iff_eq.1 h).symm
  rw[e];simp[Lib.indexByte]
 .go_ret
  exact⟨rfl,rfl⟩
def Tryz.KY:¬∀(s:ByteArray) (c:UInt8) (w:World),
  Calls prog 272 #[.string s,.string ⟨#[c]⟩] w λe w'=>e=.returned (.int .i64 ((s.size:Int) - 1 - Lib.indexByte s.data.toList.reverse c))/\w'=w:=by
 intro h;have e:=Lib.agree (by kernel_rfl) (sy ⟨#[97,97]⟩ 97 default) (h ⟨#[97,97]⟩ 97 default);injection e with _ e
 revert e;decide
def Tryz.Ox:Go.Shelf.Ren:=⟨λ| 171=>240|243=>262|246=>283|283=>293|284=>294|285=>295|286=>296|129=>195|317=>300|318=>301|319=>302|320=>303|337=>304|338=>305|n=>n,λ| 3=>3|9=>9|2=>2|4=>4|171=>293|0=>0|53=>231|37=>58|5=>5|173=>295|212=>302|51=>229|20=>20|213=>303|46=>173|232=>304|233=>305|n=>n,λ| 17=>1|18=>2|19=>3|n=>n⟩
def Tryz.aaH:Go.Proofs.LaysM.n171 prog Ox:={
 mixed:=by kernel_rfl
 f129:=func195.trans (congrArg some (by kernel_rfl))
 f171:=func240.trans (congrArg some (by kernel_rfl))
 f243:=func262.trans (congrArg some (by kernel_rfl))
 f246:=func283.trans (congrArg some (by kernel_rfl))
 f283:=func293.trans (congrArg some (by kernel_rfl))
 f284:=func294.trans (congrArg some (by kernel_rfl))
 f285:=func295.trans (congrArg some (by kernel_rfl))
 f286:=func296.trans (congrArg some (by kernel_rfl))
 f317:=func300.trans (congrArg some (by kernel_rfl))
 f318:=func301.trans (congrArg some (by kernel_rfl))
 f319:=func302.trans (congrArg some (by kernel_rfl))
 f320:=func303.trans (congrArg some (by kernel_rfl))
 f337:=func304.trans (congrArg some (by kernel_rfl))
 f338:=func305.trans (congrArg some (by kernel_rfl))
 t0:=underlying0
 a0:=isAgg0
 z0:=sizeOf0
 v0:=zeroValue0
 t2:=underlying2
 a2:=isAgg2
 z2:=sizeOf2
 v2:=zeroValue2
 t3:=underlying3
 a3:=isAgg3
 z3:=sizeOf3
 v3:=zeroValue3
 t4:=underlying4
 a4:=isAgg4
 z4:=sizeOf4
 v4:=zeroValue4
 t5:=underlying5
 a5:=isAgg5
 z5:=sizeOf5
 v5:=zeroValue5
 t9:=underlying9
 a9:=isAgg9
 z9:=sizeOf9
 v9:=zeroValue9
 t20:=underlying20
 a20:=isAgg20
 z20:=sizeOf20
 v20:=zeroValue20
 t37:=underlying58
 a37:=isAgg58
 z37:=sizeOf58
 v37:=zeroValue58
 t46:=underlying173
 a46:=isAgg173
 z46:=sizeOf173
 v46:=zeroValue173
 t51:=underlying229
 a51:=isAgg229
 z51:=sizeOf229
 v51:=zeroValue229
 t53:=underlying231
 a53:=isAgg231
 z53:=sizeOf231
 v53:=zeroValue231
 t171:=underlying293
 a171:=isAgg293
 z171:=sizeOf293
 v171:=zeroValue293
 t173:=underlying295
 a173:=isAgg295
 z173:=sizeOf295
 v173:=zeroValue295
 t212:=underlying302
 a212:=isAgg302
 z212:=sizeOf302
 v212:=zeroValue302
 t213:=underlying303
 a213:=isAgg303
 z213:=sizeOf303
 t232:=underlying304
 a232:=isAgg304
 z232:=sizeOf304
 v232:=zeroValue304
 t233:=underlying305
 a233:=isAgg305
 z233:=sizeOf305
 v233:=zeroValue305
 g17:=by kernel_rfl
 g18:=by kernel_rfl
 g19:=by kernel_rfl
 i0:=by kernel_rfl
 i2:=by kernel_rfl
 i3:=by kernel_rfl
 i4:=by kernel_rfl
 i5:=by kernel_rfl
 i9:=by kernel_rfl
 i20:=by kernel_rfl
 i37:=by kernel_rfl
 i46:=by kernel_rfl
 i51:=by kernel_rfl
 i53:=by kernel_rfl
 i171:=by kernel_rfl
 i173:=by kernel_rfl
 i212:=by kernel_rfl
 i232:=by kernel_rfl
 i233:=by kernel_rfl
 m17:=by kernel_rfl
 m18:=by kernel_rfl
 m19:=by kernel_rfl }
def Tryz.O3:Go.Shelf.Ren:=⟨λ| 41=>134|n=>n,λ| 22=>22|23=>61|4=>4|n=>n,λ| n=>n⟩
def Tryz.Ky:Go.Proofs.SlLaysE0.n41 prog O3:=⟨by kernel_rfl,⟨f134.name,by decide,func134.trans (congrArg some (by kernel_rfl))⟩,underlying4,isAgg4,sizeOf4,zeroValue4,underlying22,isAgg22,sizeOf22,zeroValue22⟩
def Tryz.WA:Go.Shelf.Ren:=⟨λ| 5=>122|8=>126|7=>185|19=>194|20=>195|10=>226|11=>227|12=>228|13=>229|14=>230|15=>231|16=>123|17=>232|18=>233|30=>258|31=>235|32=>236|33=>259|34=>260|35=>127|40=>282|n=>n,λ| 23=>25|25=>3|3=>3|32=>173|22=>25|0=>0|44=>229|46=>231|4=>4|36=>223|35=>222|41=>109|5=>5|9=>9|53=>255|57=>259|63=>275|64=>151|n=>n,λ| n=>n⟩
def Tryz.afT:Go.Proofs.SlLaysM.n5 prog WA:=⟨by kernel_rfl,⟨f122.name,by decide,func122.trans (congrArg some (by kernel_rfl))⟩,⟨f185.name,by decide,func185.trans (congrArg some (by kernel_rfl))⟩,func126.trans (congrArg some (by kernel_rfl)),⟨f226.name,by decide,func226.trans (congrArg some (by kernel_rfl))⟩,⟨f227.name,by decide,func227.trans (congrArg some (by kernel_rfl))⟩,⟨f228.name,by decide,func228.trans (congrArg some (by kernel_rfl))⟩,⟨f229.name,by decide,func229.trans (congrArg some (by kernel_rfl))⟩,⟨f230.name,by decide,func230.trans (congrArg some (by kernel_rfl))⟩,⟨f231.name,by decide,func231.trans (congrArg some (by kernel_rfl))⟩,⟨f123.name,by decide,func123.trans (congrArg some (by kernel_rfl))⟩,⟨f232.name,by decide,func232.trans (congrArg some (by kernel_rfl))⟩,⟨f233.name,by decide,func233.trans (congrArg some (by kernel_rfl))⟩,func194.trans (congrArg some (by kernel_rfl)),func195.trans (congrArg some (by kernel_rfl)),⟨f258.name,by decide,func258.trans (congrArg some (by kernel_rfl))⟩,func235.trans (congrArg some (by kernel_rfl)),func236.trans (congrArg some (by kernel_rfl)),⟨f259.name,by decide,func259.trans (congrArg some (by kernel_rfl))⟩,⟨f260.name,by decide,func260.trans (congrArg some (by kernel_rfl))⟩,⟨f127.name,by decide,func127.trans (congrArg some (by kernel_rfl))⟩,⟨f282.name,by decide,func282.trans (congrArg some (by kernel_rfl))⟩,underlying0,isAgg0,sizeOf0,zeroValue0,underlying3,isAgg3,sizeOf3,zeroValue3,underlying4,isAgg4,sizeOf4,zeroValue4,underlying5,isAgg5,sizeOf5,zeroValue5,underlying9,isAgg9,sizeOf9,zeroValue9,underlying25,isAgg25,sizeOf25,zeroValue25,underlying25,isAgg25,sizeOf25,zeroValue25,underlying3,isAgg3,sizeOf3,zeroValue3,underlying173,isAgg173,sizeOf173,zeroValue173,underlying222,isAgg222,sizeOf222,zeroValue222,underlying223,isAgg223,sizeOf223,zeroValue223,underlying109,isAgg109,sizeOf109,zeroValue109,underlying229,isAgg229,sizeOf229,zeroValue229,underlying231,isAgg231,sizeOf231,zeroValue231,underlying255,isAgg255,sizeOf255,zeroValue255,underlying259,isAgg259,sizeOf259,zeroValue259,underlying275,isAgg275,sizeOf275,zeroValue275,underlying151,isAgg151,sizeOf151,zeroValue151⟩
open Go.RowKit Go.Maps Go.Sort Go.Shelf in
def Tryz.strconv_Itoa(n:Int)(h0 : -9223372036854775808<=n)(h1:n<=9223372036854775807)(w:World)(a:Lib.TabIs prog w "internal/strconv.uint64pow10" .u64 Lib.pow10Tab) :
  Calls prog 240 #[.int .i64 n] w λe w'=>e=.returned (.string ⟨(Lib.itoa n).toArray⟩)/\∃k os,w'=grow (w.drewN k) os:=Any.strconv_Itoa aaH n h0 h1 w a
end Go.Proofs

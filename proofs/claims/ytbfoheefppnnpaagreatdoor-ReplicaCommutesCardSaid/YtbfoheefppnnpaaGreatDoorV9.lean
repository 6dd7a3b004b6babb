/- A part of the proof of the statement of the last text of this claim: for every two lists of integers ReplicaCommutes returns true and leaves the memory as it was. -/
import Derived.Orders
import Derived.Test.YtbfoheefppnnpaaGreatDoorV8
set_option linter.all false

namespace Go.Pm
open Go Go.RowKit
structure Pi where
 d:Option Nat
 g:List (Nat×Bool)
 i:I
def zm (d x:Nat):Pi:=⟨some d,[],.mov (.t x)⟩
def zl (d x:Nat):Pi:=⟨some d,[],.load none (.t x)⟩
def zL (d k x:Nat):Pi:=⟨some d,[],.load (some k) (.t x)⟩
def zf (d o x:Nat):Pi:=⟨some d,[],.fld o (.t x)⟩
def z (d:Nat) (i:I):Pi:=⟨some d,[],i⟩
def zs (i:I):Pi:=⟨none,[],i⟩
def chainOf (ops:Array Oper):Nat→Option (Nat×Bool)→Option (List (Nat×Bool))
 | _,none=>some []
 | 0,some _=>none
 | f+1,some (j,b)=>match ops[j]? with
  | some o=>match o.dst,chainOf ops f o.guard with
   | some t,some ch=>some (ch++[(t,b)])
   | _,_=>none
  | none=>none
def cPi (P:Program) (ops:Array Oper) (o:Oper):Option Pi :=
 match chainOf ops 8 o.guard with
 | some g=>some ⟨o.dst,g,(compile P o).getD .stop⟩
 | none=>none
def cPis (P:Program) (ops:Array Oper):List Oper→Option (List Pi)
 | []=>some []
 | o::os=>match cPi P ops o,cPis P ops os with
  | some p,some ps=>some (p::ps)
  | _,_=>none
def setd (fr:List V):Option Nat→V→List V
 | none,_=>fr
 | some n,v=>fr.set n v
def okFn (P:Program) (f:Nat):Bool:=match P.funcs[f]? with
 | some fn=>fn.body.isSome&&fn.name != "runtime.NumGoroutine"
 | none=>false
def stepI (P:Program) (p:Pi) (K:St→Prop) (st:St):Prop :=
 match p.i with
 | .call f args=>PC P f (args.map (ev st.fr)) st.σ (fun r σ'=>K ⟨setd st.fr p.d r,σ'⟩)
 | .callv x args=>match ev st.fr x with
  | .fn f caps=>okFn P f=true∧PC P f (args.map (ev st.fr)++caps) st.σ (fun r σ'=>K ⟨setd st.fr p.d r,σ'⟩)
  | _=>False
 | i=>match pexec st.fr st.σ i with
  | some (ob,v)=>ob∧K ⟨setd st.fr p.d v,st.σ⟩
  | none=>match xexec st.fr st.σ i with
   | some (ob,v,σ')=>ob∧K ⟨setd st.fr p.d v,σ'⟩
   | none=>False
theorem FR.put {w:World} {σ:Store} {μ:Mem} {fr:List V} {a:Act} (h:FR w σ μ fr a) (d:Option Nat) {x:V} {v:Value} (hx:VR w σ μ x v):FR w σ μ (setd fr d x) (a.put d v):=by
 cases d with
 | none=>exact h
 | some n =>
  obtain ⟨h1,h2,h3⟩:=h
  refine ⟨h1,by simp [Act.put,setd,h2],fun i y hy=>?_⟩
  simp only [setd] at hy
  simp only [Act.put]
  by_cases hi:n=i
  ·subst hi
   by_cases hl:n<fr.length
   ·rw [List.getElem?_set_self hl] at hy
    simp only [Option.some.injEq] at hy
    subst hy
    have:n<a.tmps.size:=by omega
    simpa [this] using hx
   ·rw [List.getElem?_eq_none (by simp;omega)] at hy;simp at hy
  ·rw [List.getElem?_set_ne hi] at hy
   have:=h3 i y hy
   simp only [Array.getD_eq_getD_getElem?,Array.getElem?_setIfInBounds_ne hi] at this ⊢
   exact this
theorem call_enter {P:Program} {o:Oper} {a:Act} {w:World} {f:Nat} {args:Array Operand} {ts:Array TypeId} {fn:Func} (ho:o.op=.call { callee:=.value (.func f),args,argTypes:=ts }) (hf:P.funcs[f]?=some fn) (hb:fn.body.isSome=true) (hn:fn.name ≠ "runtime.NumGoroutine") :
  (execOp a.eval o).run P w=.ok (.enter f (args.map a.eval)) w:=by
 have h1:(fn.name == "runtime.NumGoroutine")=false:=by simpa using hn
 have h2:fn.body.isNone=false:=by cases hq:fn.body<;>simp_all
 simp only [execOp,ho,resolve,Act.eval,Deferred.ofValue,invoke,callFunc,Sem.run_bind,Sem.run_pure,Result.andThen_ok,run_program,hf,h1,h2,Bool.false_eq_true,if_false,Array.empty_append,Array.append_empty]
theorem callv_enter {P:Program} {o:Oper} {a:Act} {w:World} {t f:Nat} {args:Array Operand} {ts:Array TypeId} {vs:Array Value} (ho:o.op=.call { callee:=.value (.tmp t),args,argTypes:=ts }) (hv:a.tmps.getD t undef=.func (.func f) #[] vs) (hf:okFn P f=true) :
  (execOp a.eval o).run P w=.ok (.enter f (args.map a.eval++vs)) w:=by
 unfold okFn at hf
 split at hf
 ·rename_i fn hfn
  simp only [Bool.and_eq_true,bne_iff_ne,ne_eq] at hf
  have h1:(fn.name == "runtime.NumGoroutine")=false:=by simpa using hf.2
  have h2:fn.body.isNone=false:=by cases hq:fn.body<;>simp_all
  have he:a.eval (.tmp t)=.func (.func f) #[] vs:=hv
  simp only [execOp,ho,resolve,he,Deferred.ofValue,invoke,callFunc,Sem.run_bind,Sem.run_pure,Result.andThen_ok,run_program,hfn,h1,h2,Bool.false_eq_true,if_false,Array.empty_append]
 ·simp at hf
theorem stepI_sound {P:Program} {o:Oper} {p:Pi} {K:St→Prop} {st:St} {B:Nat} {w0 w:World} {μ:Mem} {a:Act} (hc:compile P o=some p.i) (hd:o.dst=p.d) (h:stepI P p K st) (hS:Sim P B w0 w st.σ μ) (hF:FR w st.σ μ st.fr a) {Q:Exit→Act→World→Prop} :
  o.wp P a w (fun a' w'=>∃ st' μ',K st'∧Sim P B w0 w' st'.σ μ'∧FR w' st'.σ μ' st'.fr a'∧Keep w st.σ μ w' st'.σ μ'∧(∃ v,a'=a.put o.dst v)∧∃ r,st'.fr=setd st.fr p.d r) Q:=by
 unfold stepI at h
 split at h
 ·
  rename_i f args hi
  rw [hi] at hc
  cases hop:o.op with
  | call c =>
   simp only [compile,hop] at hc
   obtain ⟨callee,args0,argTypes⟩:=c
   unfold compileCall at hc
   dsimp only at hc
   split at hc
   ·split at hc<;>simp at hc
   ·split at hc<;>simp at hc
   ·split at hc<;>simp at hc
   ·split at hc<;>(try simp at hc;done)
    split at hc<;>(try simp at hc;done)
    split at hc<;>(try simp at hc;done)
    split at hc
    ·split at hc<;>simp at hc
    ·split at hc<;>(try simp at hc;done)
   ·rename_i f' e1
    split at hc<;>(try simp only [reduceCtorEq] at hc)
    rename_i fn hfn
    split at hc<;>(try simp only [reduceCtorEq] at hc)
    rename_i hcond
    simp only [Option.map_eq_some_iff,I.call.injEq] at hc
    obtain ⟨ys,hys,rfl,rfl⟩:=hc
    have hrun:=call_enter (P:=P) (a:=a) (w:=w) hop hfn hcond.1 hcond.2
    unfold Oper.wp
    rw [hrun]
    simp only [Oper.upon]
    obtain ⟨h1,h2⟩:=cOs_ok hF _ _ hys
    refine (h B w0 w μ (args0.map a.eval) hS ⟨by simp [h1],fun i y hy=>?_⟩).mono ?_
    ·have:=h2 i y hy
     simpa [List.getD_eq_getElem?_getD] using this
    ·rintro e w' ⟨r,v,σ',μ',rfl,hK,hS',hv,hk⟩
     refine ⟨_,μ',hK,hS',?_,hk,⟨_,rfl⟩,_,rfl⟩
     rw [hd]
     exact (hF.keep hk).put p.d hv
   ·simp at hc
   ·simp at hc
  | buildSlice T len parts =>
   exfalso
   simp only [compile,hop] at hc
   (repeat' split at hc)<;>(try (simp only [reduceCtorEq] at hc;done))
   simp only [Option.map_eq_some_iff] at hc
   obtain ⟨xs,_,hx⟩:=hc
   split at hx<;>simp at hx
  | _ =>
   exfalso
   simp only [compile,hop] at hc
   (repeat' split at hc)<;>first | (simp at hc;done) | (simp_all;done)
 ·
  rename_i x args hi
  split at h
  rotate_left
  ·exact h.elim
  rename_i f caps hx
  obtain ⟨hok,h⟩:=h
  rw [hi] at hc
  cases hop:o.op with
  | call c =>
   simp only [compile,hop] at hc
   obtain ⟨callee,args0,argTypes⟩:=c
   unfold compileCall at hc
   dsimp only at hc
   split at hc
   ·split at hc<;>simp at hc
   ·split at hc<;>simp at hc
   ·split at hc<;>simp at hc
   ·split at hc<;>(try simp at hc;done)
    split at hc<;>(try simp at hc;done)
    split at hc<;>(try simp at hc;done)
    split at hc
    ·split at hc<;>simp at hc
    ·split at hc<;>(try simp at hc;done)
   ·split at hc<;>(try simp only [reduceCtorEq] at hc)
    split at hc<;>simp at hc
   ·rename_i t
    simp only [Option.map_eq_some_iff,I.callv.injEq] at hc
    obtain ⟨ys,hys,rfl,rfl⟩:=hc
    have hv:=hF.at t
    simp only [ev] at hx
    rw [hx] at hv
    generalize hg:a.tmps.getD t undef=u at hv
    cases hv with
    | fn _ _ vs hl hvs =>
     have hrun:=callv_enter (P:=P) (a:=a) (w:=w) hop hg hok
     unfold Oper.wp
     rw [hrun]
     simp only [Oper.upon]
     obtain ⟨h1,h2⟩:=cOs_ok hF _ _ hys
     refine (h B w0 w μ (args0.map a.eval++vs) hS ⟨by simp [h1,hl],fun i y hy=>?_⟩).mono ?_
     ·rcases Nat.lt_or_ge i (ys.map (ev st.fr)).length with hlt | hge
      ·rw [List.getElem?_append_left hlt] at hy
       have h3:=h2 i y hy
       have hia:i<args0.size:=by simpa [h1] using hlt
       simpa [Array.getD_eq_getD_getElem?,Array.getElem?_append_left,hia,List.getD_eq_getElem?_getD] using h3
      ·rw [List.getElem?_append_right hge] at hy
       have h3:=hvs _ y hy
       have hia:args0.size≤i:=by simpa [h1] using hge
       simpa [Array.getD_eq_getD_getElem?,Array.getElem?_append_right,hia,h1] using h3
     ·rintro e w' ⟨r,v,σ',μ',rfl,hK,hS',hv,hk⟩
      refine ⟨_,μ',hK,hS',?_,hk,⟨_,rfl⟩,_,rfl⟩
      rw [hd]
      exact (hF.keep hk).put p.d hv
   ·simp at hc
  | buildSlice T len parts =>
   exfalso
   simp only [compile,hop] at hc
   (repeat' split at hc)<;>(try (simp only [reduceCtorEq] at hc;done))
   simp only [Option.map_eq_some_iff] at hc
   obtain ⟨xs,_,hx⟩:=hc
   split at hx<;>simp at hx
  | _ =>
   exfalso
   simp only [compile,hop] at hc
   (repeat' split at hc)<;>first | (simp at hc;done) | (simp_all;done)
 ·rename_i i hne hne2
  split at h
  ·rename_i ob v hp
   obtain ⟨hob,hK⟩:=h
   obtain ⟨u,w',hr,hg,hv⟩:=pexec_sound hc hF hS hp hob
   obtain ⟨hS',hpr⟩:=hS.grown hg
   unfold Oper.wp
   rw [hr]
   simp only [Oper.upon]
   exact ⟨_,μ,hK,hS',by rw [hd];exact (hF.keep hpr.keep).put p.d hv,hpr.keep,⟨_,rfl⟩,_,rfl⟩
  ·split at h
   ·rename_i ob v σ' hx
    obtain ⟨hob,hK⟩:=h
    obtain ⟨u,w',μ',hr,hS',hv,hpr⟩:=xexec_sound hc hF hS hx hob
    unfold Oper.wp
    rcases hr with hr | ⟨hr,rfl⟩
    ·rw [hr]
     simp only [Oper.upon]
     exact ⟨_,μ',hK,hS',by rw [hd];exact (hF.keep hpr.keep).put p.d hv,hpr.keep,⟨_,rfl⟩,_,rfl⟩
    ·rw [hr]
     simp only [Oper.upon]
     exact ⟨_,μ',hK,hS',by rw [hd];exact (hF.keep hpr.keep).put p.d (.u _),hpr.keep,⟨_,rfl⟩,_,rfl⟩
   ·exact h.elim
def I.os:I→List O
 | .mov x=>[x]
 | .pick c a b=>[c,a,b]
 | .box _ x=>[x]
 | .alloc _ _=>[]
 | .build _ parts=>parts.map (·.2.2)
 | .bslice _ _ xs=>xs
 | .bown _ _ _ _ xs=>xs
 | .load _ a=>[a]
 | .store _ _ a x=>[a,x]
 | .nilck x=>[x]
 | .bin _ x y=>[x,y]
 | .beq _ _ x y=>[x,y]
 | .bbq _ x y=>[x,y]
 | .un _ x=>[x]
 | .cvi _ x=>[x]
 | .b2s x=>[x]
 | .slice _ x lo hi=>x::(lo.toList++hi.toList)
 | .sslice x lo hi=>x::(lo.toList++hi.toList)
 | .fld _ x=>[x]
 | .idx _ x i=>[x,i]
 | .sidx x i=>[x,i]
 | .aidx _ _ x i=>[x,i]
 | .asl _ x=>[x]
 | .ext _ x=>[x]
 | .len _ x=>[x]
 | .max2 x y=>[x,y]
 | .min2 x y=>[x,y]
 | .app _ _ _ x y=>[x,y]
 | .apps _ x y=>[x,y]
 | .mk _ _ _ _ l c=>[l,c]
 | .mkmap _ _=>[]
 | .look _ _ _ m k=>[m,k]
 | .mupd _ _ m k x=>[m,k,x]
 | .mlen x=>[x]
 | .call _ args=>args
 | .callv x args=>x::args
 | .clo _ xs=>xs
 | .stop=>[]
def O.slot:O→List Nat
 | .t n=>[n]
 | .c _=>[]
def I.slots:I→List (Nat×List (Nat×Bool))
 | .pick (.t c) a b=>(c,[])::(a.slot.map (·,[(c,true)])++b.slot.map (·,[(c,false)]))
 | i=>(i.os.flatMap O.slot).map (·,[])
def I.silent:I→Bool
 | .box _ _ | .alloc _ _ | .store _ _ _ _ | .app _ _ _ _ _ | .apps _ _ _ | .mk _ _ _ _ _ _ | .bown _ _ _ _ _ | .mkmap _ _ | .mupd _ _ _ _ _ | .call _ _ | .callv _ _ | .stop=>false
 | _=>true
def I.reads:I→Bool
 | .build _ _ | .bslice _ _ _ | .load _ _ | .nilck _ | .b2s _ | .slice _ _ _ _ | .fld _ _ | .idx _ _ _ | .len _ _ | .mlen _ | .look _ _ _ _ _=>true
 | _=>false
section
variable {fr fr':List V} {σ:Store}
theorem pexec_congr {i:I} (h:∀ x∈i.os,ev fr x=ev fr' x):pexec fr σ i=pexec fr' σ i:=by
 cases i with
 | build zs parts =>
  have h1:∀ p∈parts,ev fr p.2.2=ev fr' p.2.2:=fun p hp=>h _ (List.mem_map.2 ⟨p,hp,rfl⟩)
  have e1:(parts.map fun (off,sz,x)=>(off,sz,cellsV (ev fr x)))=parts.map fun (off,sz,x)=>(off,sz,cellsV (ev fr' x)) :=
   List.map_congr_left fun p hp=>by
    have h2:=h1 p hp
    obtain ⟨a,b,c⟩:=p
    simp only at h2 ⊢
    rw [h2]
  have e2:(∀ p∈parts,okCells σ (ev fr p.2.2)=true)=(∀ p∈parts,okCells σ (ev fr' p.2.2)=true) :=
   propext ⟨fun k p hp=>h1 p hp▸k p hp,fun k p hp=>(h1 p hp).symm▸k p hp⟩
  simp only [pexec,e1,e2]
 | bslice sz szs xs =>
  have h1:∀ p∈xs,ev fr p=ev fr' p:=fun p hp=>h _ hp
  have e1:(xs.map fun x=>purifyL szs (cellsV (ev fr x)))=xs.map fun x=>purifyL szs (cellsV (ev fr' x)) :=
   List.map_congr_left fun p hp=>by rw [h1 p hp]
  have e2:(∀ p∈xs,okCells σ (ev fr p)=true)=(∀ p∈xs,okCells σ (ev fr' p)=true) :=
   propext ⟨fun k p hp=>h1 p hp▸k p hp,fun k p hp=>(h1 p hp).symm▸k p hp⟩
  simp only [pexec,e1,e2]
 | slice sz x lo hi =>
  have hx:=h x (by simp [I.os])
  have hl:∀ y,lo=some y→ev fr y=ev fr' y:=fun y hy=>h y (by simp [I.os,hy])
  have hh:∀ y,hi=some y→ev fr y=ev fr' y:=fun y hy=>h y (by simp [I.os,hy])
  cases lo<;>cases hi<;>simp_all [pexec]
 | sslice x lo hi =>
  have hx:=h x (by simp [I.os])
  have hl:∀ y,lo=some y→ev fr y=ev fr' y:=fun y hy=>h y (by simp [I.os,hy])
  have hh:∀ y,hi=some y→ev fr y=ev fr' y:=fun y hy=>h y (by simp [I.os,hy])
  cases lo<;>cases hi<;>simp_all [pexec]
 | len str x =>
  have hx:=h x (by simp [I.os])
  cases str<;>simp only [pexec,hx]
 | _=>simp_all [pexec,I.os]
theorem xexec_congr {i:I} (h:∀ x∈i.os,ev fr x=ev fr' x):xexec fr σ i=xexec fr' σ i:=by
 cases i<;>simp_all [xexec,I.os]
theorem pexec_still {σ':Store} {i:I} (h:i.reads=false):pexec fr σ i=pexec fr σ' i:=by
 cases i<;>simp_all [pexec,I.reads]
theorem pexec_silent {i:I} {r:Prop×V} (h:pexec fr σ i=some r):i.silent=true:=by
 cases i<;>simp_all [pexec,I.silent]
theorem xexec_silent {i:I} (h:i.silent=true):xexec fr σ i=none:=by
 cases i<;>simp_all [xexec,I.silent]
end
def chainB (fr:List V):List (Nat×Bool)→Option Bool
 | []=>some true
 | (t,b)::r=>match fr.getD t .u with
  | .b x=>match chainB fr r with
   | some y=>some ((x==b)&&y)
   | none=>none
  | _=>none
theorem chainB_true {fr:List V}:∀ {ch:List (Nat×Bool)},chainB fr ch=some true↔∀ p∈ch,fr.getD p.1 .u=.b p.2
 | []=>by simp [chainB]
 | (t,b)::r=>by
  have ih:=chainB_true (fr:=fr) (ch:=r)
  simp only [chainB,List.mem_cons,forall_eq_or_imp]
  rw [← ih]
  split
  ·rename_i x hx
   split
   ·rename_i y hy
    rw [hx,hy]
    cases x<;>cases b<;>cases y<;>simp
   ·rename_i hy
    simp [hy]
  ·rename_i hx
   simp only [reduceCtorEq,false_iff,not_and]
   intro h
   exact absurd h (hx b)
theorem chainB_prefix {fr:List V} {a b:List (Nat×Bool)} (h:chainB fr b=some true) (hp:a.isPrefixOf b=true):chainB fr a=some true:=by
 rw [chainB_true] at *
 exact fun p hp'=>h p ((List.isPrefixOf_iff_prefix.1 hp).subset hp')
theorem chainB_append {fr:List V}:∀ {a b:List (Nat×Bool)},chainB fr (a++b)=match chainB fr a,chainB fr b with
  | some x,some y=>some (x&&y)
  | _,_=>none
 | [],b=>by simp only [List.nil_append,chainB];cases chainB fr b<;>simp
 | (t,w)::r,b=>by
  simp only [List.cons_append,chainB,chainB_append (a:=r) (b:=b)]
  cases fr.getD t .u<;>simp
  cases chainB fr r<;>cases chainB fr b<;>simp [Bool.and_assoc]
theorem getD_set {fr:List V} {n m:Nat} {x y:V} (h:n≠m):(fr.set n x).getD m y=fr.getD m y:=by
 simp [List.getD_eq_getElem?_getD,List.getElem?_set_ne h]
theorem chainB_setd {fr:List V} {d:Option Nat} {r:V}:∀ {ch:List (Nat×Bool)},(∀ p∈ch,d≠some p.1)→chainB (setd fr d r) ch=chainB fr ch
 | [],_=>by simp [chainB]
 | (t,b)::ch,h=>by
  have ih:=chainB_setd (fr:=fr) (d:=d) (r:=r) (ch:=ch) fun p hp=>h p (by simp [hp])
  have h0:=h (t,b) (by simp)
  simp only [chainB,ih]
  cases d with
  | none=>rfl
  | some n =>
   have:n≠t:=fun e=>h0 (by simp [e])
   simp only [setd,getD_set this]
def gstep (P:Program) (p:Pi) (c:Bool) (K:St→Prop) (st:St):Prop :=
 match p.i with
 | .call f args=>(c=true→PC P f (args.map (ev st.fr)) st.σ (fun r' σ'=>K ⟨setd st.fr p.d r',σ'⟩))∧(c=false→∃ r,K ⟨setd st.fr p.d r,st.σ⟩)
 | .load k a=>match ev st.fr a with
  | .ptr _ _=>match pexec st.fr st.σ (.load k a) with
   | some (ob,v)=>(c=true→ob)∧K ⟨setd st.fr p.d v,st.σ⟩
   | none=>False
  | _=>∃ v,(c=true→∃ ob,pexec st.fr st.σ (.load k a)=some (ob,v)∧ob)∧K ⟨setd st.fr p.d v,st.σ⟩
 | i=>match pexec st.fr st.σ i with
  | some (ob,v)=>(c=true→ob)∧K ⟨setd st.fr p.d v,st.σ⟩
  | none=>False
def gI (P:Program) (p:Pi) (K:St→Prop) (st:St):Prop :=
 match p.g with
 | []=>stepI P p K st
 | _::_=>match chainB st.fr p.g with
  | some c=>gstep P p c K st
  | none=>False
theorem gstep_spec {P:Program} {p:Pi} {c:Bool} {K:St→Prop} {st:St} (h:gstep P p c K st) (hn:∀ f args,p.i≠.call f args) :
  ∃ r,K ⟨setd st.fr p.d r,st.σ⟩∧(c=true→stepI P p (fun st'=>st'=⟨setd st.fr p.d r,st.σ⟩) st):=by
 obtain ⟨d,g,i⟩:=p
 cases i with
 | call f args=>exact absurd rfl (hn f args)
 | load k a =>
  simp only [gstep] at h
  split at h
  ·split at h
   ·rename_i ob v hp
    exact ⟨v,h.2,fun hc=>by simp only [stepI,hp];exact ⟨h.1 hc,trivial⟩⟩
   ·exact h.elim
  ·obtain ⟨v,h1,h2⟩:=h
   refine ⟨v,h2,fun hc=>?_⟩
   obtain ⟨ob,h3,h4⟩:=h1 hc
   simp only [stepI,h3];exact ⟨h4,trivial⟩
 | callv x args=>simp [gstep,pexec] at h
 | _ =>
  simp only [gstep] at h
  split at h
  ·rename_i ob v hp
   exact ⟨v,h.2,fun hc=>by simp only [stepI,hp];exact ⟨h.1 hc,trivial⟩⟩
  ·exact h.elim
theorem ev_slot {fr fr':List V} {x:O} (h:∀ s∈x.slot,fr.getD s .u=fr'.getD s .u):ev fr x=ev fr' x:=by
 cases x with
 | t n=>exact h n (by simp [O.slot])
 | c v=>rfl
theorem stepI_os {P:Program} {p:Pi} {K:St→Prop} {fr fr':List V} {σ:Store} (h:∀ x∈p.i.os,ev fr x=ev fr' x) (hs:stepI P p K ⟨fr,σ⟩) :
  stepI P p (fun st'=>∃ r,st'.fr=setd fr' p.d r∧K ⟨setd fr p.d r,st'.σ⟩) ⟨fr',σ⟩:=by
 obtain ⟨d,g,i⟩:=p
 by_cases hcall:∃ f args,i=.call f args
 ·obtain ⟨f,args,rfl⟩:=hcall
  have e:args.map (ev fr)=args.map (ev fr'):=List.map_congr_left fun x hx=>h x hx
  simp only [stepI] at hs ⊢
  rw [← e]
  exact hs.mono fun r σ' hk=>⟨r,rfl,hk⟩
 by_cases hcallv:∃ x args,i=.callv x args
 ·obtain ⟨x,args,rfl⟩:=hcallv
  have e:args.map (ev fr)=args.map (ev fr'):=List.map_congr_left fun y hy=>h y (by simp [I.os,hy])
  have e2:=h x (by simp [I.os])
  simp only [stepI] at hs ⊢
  rw [← e,← e2]
  split at hs
  ·exact ⟨hs.1,hs.2.mono fun r σ' hk=>⟨r,rfl,hk⟩⟩
  ·exact hs.elim
 ·have e1:=pexec_congr (σ:=σ) h
  have e2:=xexec_congr (σ:=σ) h
  have key:∀ (fr0:List V) (K0:St→Prop),stepI P ⟨d,g,i⟩ K0 ⟨fr0,σ⟩=match pexec fr0 σ i with
    | some (ob,v)=>ob∧K0 ⟨setd fr0 d v,σ⟩
    | none=>match xexec fr0 σ i with
     | some (ob,v,σ')=>ob∧K0 ⟨setd fr0 d v,σ'⟩
     | none=>False:=by
   intro fr0 K0
   cases i<;>first | rfl | (exfalso;exact hcall ⟨_,_,rfl⟩) | (exfalso;exact hcallv ⟨_,_,rfl⟩)
  simp only at e1 e2
  rw [key] at hs ⊢
  rw [← e1,← e2]
  split at hs
  ·exact ⟨hs.1,_,rfl,hs.2⟩
  ·split at hs
   ·exact ⟨hs.1,_,rfl,hs.2⟩
   ·exact hs.elim
theorem stepI_agree {P:Program} {p:Pi} {K:St→Prop} {fr fr':List V} {σ:Store} (h:∀ s∈p.i.slots,chainB fr s.2=some true→fr.getD s.1 .u=fr'.getD s.1 .u) (hs:stepI P p K ⟨fr,σ⟩) :
  stepI P p (fun st'=>∃ r,st'.fr=setd fr' p.d r∧K ⟨setd fr p.d r,st'.σ⟩) ⟨fr',σ⟩:=by
 by_cases hp:∃ c a b,p.i=.pick (.t c) a b
 ·obtain ⟨c,x,y,hi⟩:=hp
  obtain ⟨d,g,i⟩:=p
  simp only at hi
  subst hi
  have hc:fr.getD c .u=fr'.getD c .u:=h (c,[]) (by simp [I.slots]) (by simp [chainB])
  have hx:fr.getD c .u=.b true→ev fr x=ev fr' x:=fun hb=>ev_slot fun s hs'=>h (s,[(c,true)]) (by simp [I.slots,hs']) (by simp only [chainB,hb];rfl)
  have hy:fr.getD c .u=.b false→ev fr y=ev fr' y:=fun hb=>ev_slot fun s hs'=>h (s,[(c,false)]) (by simp [I.slots,hs']) (by simp only [chainB,hb];rfl)
  simp only [stepI,pexec,ev] at hs ⊢
  rw [← hc]
  split at hs
  ·rename_i ob v hq
   split at hq
   ·rename_i b hb
    simp only [Option.some.injEq,Prod.mk.injEq] at hq
    obtain ⟨rfl,rfl⟩:=hq
    refine ⟨trivial,_,rfl,?_⟩
    have e:(match ev fr x,ev fr y with
      | .b p,.b q=>V.b (bif b then p else q)
      | p,q=>bif b then p else q)=(match ev fr' x,ev fr' y with
      | .b p,.b q=>V.b (bif b then p else q)
      | p,q=>bif b then p else q):=by
     have gen:∀ p q:V,(match p,q with
      | .b p,.b q=>V.b (bif b then p else q)
      | p,q=>bif b then p else q)=bif b then p else q:=by
      intro p q;cases b<;>cases p<;>cases q<;>rfl
     rw [gen,gen]
     cases b
     ·simp only [cond_false];exact hy hb
     ·simp only [cond_true];exact hx hb
    exact Eq.mp (congrArg (fun v=>K ⟨setd fr d v,σ⟩) e) hs.2
   ·simp at hq
  ·rename_i hq
   split at hq
   ·simp at hq
   ·simp only [xexec] at hs
 ·refine stepI_os (fun x hx=>ev_slot fun s hs'=>h (s,[]) ?_ (by simp [chainB])) hs
  have:p.i.slots=(p.i.os.flatMap O.slot).map (·,[]):=by
   unfold I.slots
   split
   ·rename_i c a b hi;exact absurd ⟨c,a,b,hi⟩ hp
   ·rfl
  rw [this]
  exact List.mem_map.2 ⟨s,List.mem_flatMap.2 ⟨x,hx,hs'⟩,rfl⟩
def FRi (w:World) (σ:Store) (μ:Mem) (fr:List V) (inf:Nat→Option (List (Nat×Bool))) (a:Act):Prop :=
 a.defers=[]∧a.tmps.size=fr.length∧∀ t x,fr[t]?=some x→∀ ch,inf t=some ch →
  (chainB fr ch=some true→VR w σ μ x (a.tmps.getD t undef))∧(chainB fr ch=some false→a.tmps.getD t undef=undef)
def mkF (inf:Nat→Option (List (Nat×Bool))) (fr:List V):List V:=fr.mapIdx fun t x=>match inf t with
 | some ch=>if chainB fr ch=some true then x else .u
 | none=>.u
theorem FRi.mask {w:World} {σ:Store} {μ:Mem} {fr:List V} {inf:Nat→Option (List (Nat×Bool))} {a:Act} (h:FRi w σ μ fr inf a):FR w σ μ (mkF inf fr) a:=by
 refine ⟨h.1,by simp [mkF,h.2.1],fun t x hx=>?_⟩
 simp only [mkF,List.getElem?_mapIdx,Option.map_eq_some_iff] at hx
 obtain ⟨y,hy,rfl⟩:=hx
 split
 ·rename_i ch hch
  split
  ·rename_i hc
   exact (h.2.2 t y hy ch hch).1 hc
  ·exact .u _
 ·exact .u _
theorem mkF_at {inf:Nat→Option (List (Nat×Bool))} {fr:List V} {t:Nat} {ch:List (Nat×Bool)} (hi:inf t=some ch) (hc:chainB fr ch=some true):(mkF inf fr).getD t .u=fr.getD t .u:=by
 simp only [mkF,List.getD_eq_getElem?_getD,List.getElem?_mapIdx,hi,hc,if_true]
 cases fr[t]?<;>rfl
structure OkOp (inf:Nat→Option (List (Nat×Bool))) (p:Pi):Prop where
 slots:∀ s∈p.i.slots,∃ ch,inf s.1=some ch∧ch.isPrefixOf (p.g++s.2)=true
 guard:∀ ch t b,p.g=ch++[(t,b)]→inf t=some ch
 fresh:∀ d,p.d=some d→(∀ q∈p.g,q.1≠d)∧∀ t ch,inf t=some ch→∀ q∈ch,q.1≠d
def updI (inf:Nat→Option (List (Nat×Bool))) (p:Pi):Nat→Option (List (Nat×Bool)):=fun t=>if p.d=some t then some p.g else inf t
theorem put_other {a:Act} {d:Option Nat} {v:Value} {t:Nat} (h:d≠some t):(a.put d v).tmps.getD t undef=a.tmps.getD t undef:=by
 cases d with
 | none=>rfl
 | some n =>
  have hn:n≠t:=fun e=>h (by simp [e])
  simp only [Act.put,Array.getD_eq_getD_getElem?,Array.getElem?_setIfInBounds_ne hn]
theorem put_self {a:Act} {v:Value} {t:Nat} (h:t<a.tmps.size):(a.put (some t) v).tmps.getD t undef=v:=by
 simp [Act.put,h]
theorem setd_other {fr:List V} {d:Option Nat} {r:V} {t:Nat} (h:d≠some t):(setd fr d r)[t]?=fr[t]?:=by
 cases d with
 | none=>rfl
 | some n =>
  have hn:n≠t:=fun e=>h (by simp [e])
  simp only [setd,List.getElem?_set_ne hn]
theorem setd_len {fr:List V} {d:Option Nat} {r:V}:(setd fr d r).length=fr.length:=by cases d<;>simp [setd]
theorem put_size {a:Act} {d:Option Nat} {v:Value}:(a.put d v).tmps.size=a.tmps.size∧(a.put d v).defers=a.defers:=by
 cases d<;>simp [Act.put]
theorem FRi.upd {w w':World} {σ σ':Store} {μ μ':Mem} {fr:List V} {inf:Nat→Option (List (Nat×Bool))} {a:Act} {p:Pi} {r:V} {v:Value} (h:FRi w σ μ fr inf a) (hok:OkOp inf p) (hk:Keep w σ μ w' σ' μ')
  (h1:∀ t,p.d=some t→t<fr.length→chainB fr p.g=some true→VR w' σ' μ' r v) (h2:chainB fr p.g=some false→v=undef):FRi w' σ' μ' (setd fr p.d r) (updI inf p) (a.put p.d v):=by
 refine ⟨by rw [put_size.2];exact h.1,by rw [put_size.1,setd_len];exact h.2.1,fun t x hx ch hch=>?_⟩
 by_cases hd:p.d=some t
 ·have hf:=hok.fresh t hd
  simp only [updI,hd,if_true,Option.some.injEq] at hch
  subst hch
  have hlen:t<fr.length:=by
   have:=(List.getElem?_eq_some_iff.1 hx).1;rwa [setd_len] at this
  rw [hd] at hx
  simp only [setd,List.getElem?_set_self hlen,Option.some.injEq] at hx
  subst hx
  have e:chainB (setd fr p.d r) p.g=chainB fr p.g:=chainB_setd fun q hq e=>hf.1 q hq (by rw [hd] at e;exact (Option.some.inj e).symm)
  rw [e,hd,put_self (by rw [h.2.1];exact hlen)]
  exact ⟨h1 t hd hlen,h2⟩
 ·simp only [updI,hd,if_false] at hch
  rw [setd_other hd] at hx
  have e:chainB (setd fr p.d r) ch=chainB fr ch:=chainB_setd fun q hq e=>(hok.fresh q.1 e).2 t ch hch q hq rfl
  rw [e,put_other hd]
  have:=h.2.2 t x hx ch hch
  exact ⟨fun hc=>hk _ _ (this.1 hc),this.2⟩
def GI (P:Program) (p:Pi) (K:St→Prop) (fr:List V) (σ:Store):Prop :=
 ∃ c,chainB fr p.g=some c∧((c=true∧∃ K':St→Prop,stepI P p K' ⟨fr,σ⟩∧∀ st',K' st'→K st')∨(c=false∧∃ r,K ⟨setd fr p.d r,σ⟩))
theorem gI_GI {P:Program} {p:Pi} {K:St→Prop} {fr:List V} {σ:Store} (h:gI P p K ⟨fr,σ⟩):GI P p K fr σ:=by
 unfold gI at h
 split at h
 ·rename_i hg
  exact ⟨true,by rw [hg];rfl,.inl ⟨rfl,K,h,fun _ h=>h⟩⟩
 ·split at h
  ·rename_i c hc
   by_cases hcall:∃ f args,p.i=.call f args
   ·obtain ⟨f,args,hi⟩:=hcall
    obtain ⟨d,g,i⟩:=p
    simp only at hi
    subst hi
    cases c with
    | true=>exact ⟨true,hc,.inl ⟨rfl,K,h.1 rfl,fun _ h=>h⟩⟩
    | false=>exact ⟨false,hc,.inr ⟨rfl,h.2 rfl⟩⟩
   obtain ⟨r,h1,h2⟩:=gstep_spec h fun f args e=>hcall ⟨f,args,e⟩
   cases c with
   | true=>exact ⟨true,hc,.inl ⟨rfl,_,h2 rfl,fun st' e=>e▸h1⟩⟩
   | false=>exact ⟨false,hc,.inr ⟨rfl,r,h1⟩⟩
  ·exact h.elim
theorem opG0 {P:Program} {ops:Array Oper} {o:Oper} {p:Pi} (hc:cPi P ops o=some p) {inf:Nat→Option (List (Nat×Bool))} {B:Nat} {w0 w:World} {fr:List V} {σ:Store} {μ:Mem} {a:Act} {K:St→Prop}
  (hS:Sim P B w0 w σ μ) (hF:FRi w σ μ fr inf a) (hok:OkOp inf p) (hK:GI P p K fr σ) {R:Act→World→Prop} {Q:Exit→Act→World→Prop}
  (hR:∀ r σ' μ' a' w',K ⟨setd fr p.d r,σ'⟩→Sim P B w0 w' σ' μ'→FRi w' σ' μ' (setd fr p.d r) (updI inf p) a'→Keep w σ μ w' σ' μ'→R a' w') :
  if Region.wanted o (yielded ops a.tmps) then o.wp P a w R Q∨(o.asks P a w∧LetsOut Q) else R (a.put o.dst undef) w:=by
 unfold cPi at hc
 split at hc<;>simp only [Option.some.injEq,reduceCtorEq] at hc
 rename_i g hg
 obtain ⟨i,hi0⟩:∃ i,i=(compile P o).getD .stop:=⟨_,rfl⟩
 rw [← hi0] at hc
 subst hc
 have doit:∀ K':St→Prop,chainB fr g=some true→stepI P ⟨o.dst,g,i⟩ K' ⟨fr,σ⟩→(∀ st',K' st'→K st')→o.wp P a w R Q:=by
  intro K' hch hs hkk
  have hi:compile P o=some i:=by
   cases hcp:compile P o with
   | none=>rw [hcp] at hi0;simp only [Option.getD_none] at hi0;subst hi0;simp [stepI,pexec,xexec] at hs
   | some j=>rw [hcp] at hi0;simp only [Option.getD_some] at hi0;rw [hi0]
  have h1:=stepI_agree (fr':=mkF inf fr) (fun s hs' hse=>by
   obtain ⟨ch,h2,h3⟩:=hok.slots s hs'
   exact (mkF_at h2 (chainB_prefix (by rw [chainB_append,hch,hse];rfl) h3)).symm) hs
  refine Oper.wp_mono ?_ (stepI_sound (p:=⟨o.dst,g,i⟩) hi rfl h1 hS hF.mask)
  rintro a' w' ⟨st',μ',⟨r,h2,h3⟩,h4,h5,h6,⟨v,rfl⟩,_⟩
  have hlen:(mkF inf fr).length=fr.length:=by simp [mkF]
  refine hR r st'.σ μ' _ w' (hkk _ h3) h4 (hF.upd hok h6 (fun t ht hl _=>?_) fun h=>by simp only at h;rw [hch] at h;simp at h) h6
  simp only at ht h2
  have h7:=h5.2.2 t r (by rw [h2,ht];simp only [setd];rw [List.getElem?_set_self (by rw [hlen];exact hl)])
  rwa [ht,put_self (by rw [hF.2.1];exact hl)] at h7
 have guard:∀ c,chainB fr g=some c→Region.wanted o (yielded ops a.tmps)=c:=by
  intro c hcc
  cases hgd:o.guard with
  | none =>
   rw [hgd] at hg
   simp only [chainOf,Option.some.injEq] at hg
   subst hg
   simp only [chainB,Option.some.injEq] at hcc
   subst hcc
   simp [Region.wanted,hgd]
  | some jb =>
   obtain ⟨j,b⟩:=jb
   rw [hgd] at hg
   simp only [chainOf] at hg
   split at hg<;>(try simp only [reduceCtorEq] at hg)
   rename_i oj hoj
   split at hg<;>simp only [Option.some.injEq,reduceCtorEq] at hg
   rename_i t ch ht hch
   subst hg
   have hinf:=hok.guard ch t b rfl
   rw [chainB_append] at hcc
   split at hcc<;>simp only [Option.some.injEq,reduceCtorEq] at hcc
   rename_i x y hx hy
   simp only [chainB] at hy
   split at hy<;>simp only [Option.some.injEq,reduceCtorEq] at hy
   rename_i z hz
   simp only [Bool.and_true] at hy
   have hl:t<fr.length:=by
    rcases Nat.lt_or_ge t fr.length with h | h
    ·exact h
    ·rw [List.getD_eq_getElem?_getD,List.getElem?_eq_none h] at hz;simp at hz
   have hat:fr[t]?=some (.b z):=by
    rw [List.getD_eq_getElem?_getD,List.getElem?_eq_getElem hl] at hz
    rw [List.getElem?_eq_getElem hl];simpa using hz
   have hv:=hF.2.2 t _ hat ch hinf
   have hl2:t<a.tmps.size:=by rw [hF.2.1];exact hl
   have hy2:yielded ops a.tmps j=match a.tmps.getD t undef with | .bool q=>some q | _=>none:=by
    unfold yielded
    simp only [hoj,Option.bind_some,ht]
    rw [Array.getElem?_eq_getElem hl2]
    have:a.tmps.getD t undef=a.tmps[t]:=by simp [hl2]
    rw [this]
    cases a.tmps[t]<;>rfl
   subst hcc hy
   cases x
   ·rw [hv.2 hx] at hy2
    simp only [undef] at hy2
    simp [Region.wanted,hgd,hy2]
   ·rw [(hv.1 hx).inv_b] at hy2
    simp [Region.wanted,hgd,hy2]
 obtain ⟨c,hcc,hst⟩:=hK
 rcases hst with ⟨rfl,K',h1,h2⟩ | ⟨rfl,r,h1⟩
 ·rw [if_pos (guard true hcc)]
  exact .inl (doit K' hcc h1 h2)
 ·have hw:=guard false hcc
  rw [hw]
  simp only [Bool.false_eq_true,if_false]
  exact hR r σ μ _ w h1 hS (hF.upd (p:=⟨o.dst,g,i⟩) hok (Keep.refl _ _ _) (fun t _ _ h=>by simp only at h;rw [hcc] at h;simp at h) fun _=>rfl) (Keep.refl _ _ _)
theorem opG {P:Program} {ops:Array Oper} {o:Oper} {p:Pi} (hc:cPi P ops o=some p) {inf:Nat→Option (List (Nat×Bool))} {B:Nat} {w0 w:World} {fr:List V} {σ:Store} {μ:Mem} {a:Act} {K:St→Prop}
  (hS:Sim P B w0 w σ μ) (hF:FRi w σ μ fr inf a) (hok:OkOp inf p) (hK:gI P p K ⟨fr,σ⟩) {R:Act→World→Prop} {Q:Exit→Act→World→Prop}
  (hR:∀ r σ' μ' a' w',K ⟨setd fr p.d r,σ'⟩→Sim P B w0 w' σ' μ'→FRi w' σ' μ' (setd fr p.d r) (updI inf p) a'→Keep w σ μ w' σ' μ'→R a' w') :
  if Region.wanted o (yielded ops a.tmps) then o.wp P a w R Q∨(o.asks P a w∧LetsOut Q) else R (a.put o.dst undef) w :=
 opG0 hc hS hF hok (gI_GI hK) hR
def clr (gs:List Nat) (fr:List V):List V:=gs.foldl (fun fr s=>fr.set s .u) fr
def runC (P:Program) (gs:List Nat):List Pi→(St→Prop)→St→Prop
 | [],K,st=>K ⟨clr gs st.fr,st.σ⟩
 | p::ps,K,st=>gI P p (runC P gs ps K) st
def lookD (D:List (Nat×List (Nat×Bool))) (t:Nat):List (Nat×Bool):=(D.lookup t).getD []
def addD (D:List (Nat×List (Nat×Bool))) (p:Pi):List (Nat×List (Nat×Bool)):=match p.d with
 | some d=>(d,p.g)::D
 | none=>D
def okOpB (D:List (Nat×List (Nat×Bool))) (p:Pi):Bool :=
 p.i.slots.all (fun s=>(lookD D s.1).isPrefixOf (p.g++s.2)) &&
 (match p.g.getLast? with
  | none=>true
  | some q=>lookD D q.1==p.g.dropLast) &&
 (match p.d with
  | none=>true
  | some d=>p.g.all (fun q=>q.1 != d)&&D.all fun e=>e.2.all fun q=>q.1 != d)
def okL:List (Nat×List (Nat×Bool))→List Pi→List Nat→Bool
 | D,[],gs=>D.all fun e=>e.2.isEmpty||gs.contains e.1
 | D,p::ps,gs=>okOpB D p&&okL (addD D p) ps gs
def infL (D:List (Nat×List (Nat×Bool))) (t:Nat):Option (List (Nat×Bool)):=some (lookD D t)
theorem lookD_mem {D:List (Nat×List (Nat×Bool))} {t:Nat}:lookD D t=[]∨(t,lookD D t)∈D:=by
 induction D with
 | nil=>exact .inl rfl
 | cons e D ih =>
  obtain ⟨s,ch⟩:=e
  simp only [lookD,List.lookup_cons]
  by_cases h:t=s
  ·subst h
   right
   simp
  ·have:(t==s)=false:=by simpa using h
   rw [this]
   simp only [lookD] at ih
   rcases ih with h | h
   ·exact .inl h
   ·exact .inr (List.mem_cons_of_mem _ h)
theorem okOpB_ok {D:List (Nat×List (Nat×Bool))} {p:Pi} (h:okOpB D p=true):OkOp (infL D) p:=by
 simp only [okOpB,Bool.and_eq_true,List.all_eq_true] at h
 obtain ⟨⟨h1,h2⟩,h3⟩:=h
 refine ⟨fun s hs=>⟨_,rfl,h1 s hs⟩,fun ch t b hg=>?_,fun d hd=>?_⟩
 ·rw [hg] at h2
  simp only [List.getLast?_append,List.getLast?_singleton,Option.some_or,List.dropLast_concat,beq_iff_eq] at h2
  simp [infL,h2]
 ·rw [hd] at h3
  simp only [Bool.and_eq_true,List.all_eq_true,bne_iff_ne,ne_eq] at h3
  refine ⟨fun q hq=>h3.1 q hq,fun t ch ht q hq=>?_⟩
  simp only [infL,Option.some.injEq] at ht
  subst ht
  rcases lookD_mem (D:=D) (t:=t) with h | h
  ·rw [h] at hq;simp at hq
  ·exact h3.2 _ h q hq
theorem updI_infL {D:List (Nat×List (Nat×Bool))} {p:Pi}:updI (infL D) p=infL (addD D p):=by
 funext t
 simp only [updI,infL,addD]
 cases hd:p.d with
 | none=>simp
 | some d =>
  by_cases h:d=t
  ·subst h;simp [lookD]
  ·have h2:(t==d)=false:=by simpa using fun e=>h e.symm
   simp [h,lookD,List.lookup_cons,h2]
theorem clr_at:∀ (gs:List Nat) (fr:List V) (t:Nat),(clr gs fr)[t]?=if t∈gs then (fr[t]?).map (fun _=>V.u) else fr[t]?
 | [],fr,t=>by simp [clr]
 | s::gs,fr,t=>by
  have ih:=clr_at gs (fr.set s .u) t
  simp only [clr,List.foldl_cons] at ih ⊢
  rw [ih]
  by_cases hs:s=t
  ·subst hs
   simp only [List.mem_cons,true_or,if_true]
   rw [List.getElem?_set_self']
   split<;>cases fr[s]?<;>rfl
  ·rw [List.getElem?_set_ne hs]
   have:(t∈s::gs)↔t∈gs:=by simp [Ne.symm hs]
   simp only [this]
theorem FRi.ends {w:World} {σ:Store} {μ:Mem} {fr:List V} {D:List (Nat×List (Nat×Bool))} {gs:List Nat} {a:Act} (h:FRi w σ μ fr (infL D) a) (hD:okL D [] gs=true):FR w σ μ (clr gs fr) a:=by
 refine ⟨h.1,?_,fun t x hx=>?_⟩
 ·rw [h.2.1]
  have:∀ (gs:List Nat) (fr:List V),(clr gs fr).length=fr.length:=by
   intro gs
   induction gs with
   | nil=>intro fr;rfl
   | cons s gs ih=>intro fr;simp only [clr,List.foldl_cons] at ih ⊢;rw [ih];simp
  rw [this]
 ·rw [clr_at] at hx
  split at hx
  ·rw [Option.map_eq_some_iff] at hx
   obtain ⟨_,_,rfl⟩:=hx
   exact .u _
  ·rename_i hgs
   refine (h.2.2 t x hx _ rfl).1 ?_
   have:lookD D t=[]:=by
    rcases lookD_mem (D:=D) (t:=t) with h | h
    ·exact h
    ·simp only [okL,List.all_eq_true] at hD
     have:=hD _ h
     simp only [Bool.or_eq_true,List.isEmpty_iff,List.contains_eq_mem,decide_eq_true_eq] at this
     rcases this with h2 | h2
     ·exact h2
     ·exact absurd h2 hgs
   rw [this];simp [chainB]
def Post (P:Program) (n B:Nat) (w0 w:World) (σ:Store) (μ:Mem) (K:Exit→St→Prop) (e:Exit) (a':Act) (w':World):Prop :=
 ∃ st' μ',K e st'∧Sim P B w0 w' st'.σ μ'∧FR w' st'.σ μ' st'.fr a'∧KeepN n w σ μ w' st'.σ μ'
theorem runC_sound {P:Program} {ops:Array Oper} {n B:Nat} {gs:List Nat} {w0 ws:World} {σs:Store} {μs:Mem} {K:St→Prop} {Q:Exit→Act→World→Prop}
  (hQ:∀ st w μ a,K st→Sim P B w0 w st.σ μ→FR w st.σ μ st.fr a→KeepN n ws σs μs w st.σ μ→Q .normal a w) :
  ∀ (l:List Oper) (k:Nat) (ps:List Pi) (D:List (Nat×List (Nat×Bool))) (fr:List V) (σ:Store) (w:World) (μ:Mem) (a:Act),(∀ j,l[j]?=ops[k+j]?)→cPis P ops l=some ps→okL D ps gs=true→runC P gs ps K ⟨fr,σ⟩ →
   Sim P B w0 w σ μ→FRi w σ μ fr (infL D) a→KeepN n ws σs μs w σ μ →
   wpOps P ops Q ((List.range l.length).map (k+·)) a w
 | [],k,ps,D,fr,σ,w,μ,a,_,hc,hD,hr,hS,hF,hk=>by
  simp only [cPis,Option.some.injEq] at hc
  subst hc
  exact hQ _ w μ a hr hS (hF.ends hD) hk
 | o::l,k,ps,D,fr,σ,w,μ,a,hl,hc,hD,hr,hS,hF,hk=>by
  simp only [cPis] at hc
  split at hc<;>simp only [Option.some.injEq,reduceCtorEq] at hc
  rename_i p qs hp hqs
  subst hc
  simp only [okL,Bool.and_eq_true] at hD
  have ho:ops[k]?=some o:=by have:=hl 0;simpa using this.symm
  have e1:(List.range (o::l).length).map (k+·)=k::(List.range l.length).map (k+1+·):=by
   rw [List.length_cons,List.range_succ_eq_map,List.map_cons,List.map_map]
   simp only [Nat.add_zero]
   congr 1
   apply List.map_congr_left
   intro x _
   simp only [Function.comp];omega
  rw [e1]
  simp only [wpOps,ho]
  refine opG hp hS hF (okOpB_ok hD.1) hr ?_
  intro r σ' μ' a' w' h1 h2 h3 h4
  rw [updI_infL] at h3
  exact runC_sound hQ l (k+1) qs _ _ _ w' μ' a' (fun j=>by have:=hl (j+1);rw [List.getElem?_cons_succ] at this;rw [this];congr 1;omega) hqs hD.2 h1 h2 h3 (hk.trans h4.toN)
theorem FR.toI {w:World} {σ:Store} {μ:Mem} {fr:List V} {a:Act} (h:FR w σ μ fr a):FRi w σ μ fr (infL []) a :=
 ⟨h.1,h.2.1,fun t x hx ch hch=>by
  simp only [infL,lookD,List.lookup_nil,Option.getD_none,Option.some.injEq] at hch
  subst hch
  exact ⟨fun _=>h.2.2 t x hx,fun h=>by simp [chainB] at h⟩⟩
def tb (bs:List Nat) (i j:Nat):Bool:=(bs.getD i 0).testBit j
def pin (pis:List Pi) (i:Nat):Pi:=pis.getD i ⟨none,[],.alloc 0 []⟩
def sgx (bs ls:List Nat) (i:Nat):Nat:=(ls.filter (tb bs i)).length
def silX (pis:List Pi) (bs:List Nat) (m:Nat) (ls:List Nat) (k:Nat):List Nat:=(List.range m).filter fun i=>(pin pis i).i.silent&&sgx bs ls i==k
def chkX (pis:List Pi) (bs:List Nat) (m:Nat) (ls:List Nat) (k L:Nat):List Nat :=
 (List.range m).filter fun i=>(pin pis i).i.silent&&((pin pis i).i.reads&&(decide (sgx bs ls i≤k)&&!tb bs L i))
def stX (pis:List Pi) (bs:List Nat) (m:Nat) (ls:List Nat):Nat→List Nat→List (List Pi×Pi×List Pi)
 | _,[]=>[]
 | k,L::r=>((silX pis bs m ls k).map (pin pis),pin pis L,(chkX pis bs m ls k L).map (pin pis))::stX pis bs m ls (k+1) r
def chkF (p:Pi) (st:St):Prop :=
 match chainB st.fr p.g with
 | some c=>match p.d with
  | some d=>c=true→∃ ob,pexec st.fr st.σ p.i=some (ob,st.fr.getD d .u)∧ob
  | none=>c=true→∃ ob r,pexec st.fr st.σ p.i=some (ob,r)∧ob
 | none=>False
def runD (P:Program):List (List Pi×Pi×List Pi)→List Pi→(St→Prop)→St→Prop
 | [],last,K,st=>runC P [] last K st
 | (sil,L,chk)::ds,last,K,st=>runC P [] sil (fun st1=>gI P L (fun st2=>(∀ p∈chk,chkF p st2)∧runD P ds last K st2) st1) st
def looks (p:Pi):List Nat:=p.i.slots.map (·.1)++p.g.map (·.1)
def Fact (p:Pi) (fr:List V) (σ:Store):Prop :=
 ∃ c,chainB fr p.g=some c∧∃ r,setd fr p.d r=fr∧(c=true→∃ ob,pexec fr σ p.i=some (ob,r)∧ob)
theorem set_same {fr:List V} {t:Nat} {r:V}:fr.set t r=fr↔(t<fr.length→fr[t]?=some r):=by
 constructor
 ·intro h hl
  rw [← h,List.getElem?_set_self hl]
 ·intro h
  refine List.ext_getElem? fun i=>?_
  by_cases hi:t=i
  ·subst hi
   rw [List.getElem?_set_self']
   rcases Nat.lt_or_ge t fr.length with hl | hl
   ·rw [h hl];rfl
   ·rw [List.getElem?_eq_none hl];rfl
  ·rw [List.getElem?_set_ne hi]
theorem setd_same {fr:List V} {d:Option Nat} {r:V}:setd fr d r=fr↔∀ t,d=some t→t<fr.length→fr[t]?=some r:=by
 cases d with
 | none=>simp [setd]
 | some t=>simp only [setd,set_same,Option.some.injEq];exact ⟨fun h s hs=>hs▸h,fun h=>h t rfl⟩
theorem os_slots {i:I} {x:O} (hx:x∈i.os) {t:Nat} (ht:t∈x.slot):t∈i.slots.map (·.1):=by
 unfold I.slots
 split
 ·rename_i c a b
  simp only [I.os,List.mem_cons,List.not_mem_nil,or_false] at hx
  rcases hx with rfl | rfl | rfl
  ·simp only [O.slot,List.mem_singleton] at ht;simp [ht]
  ·simp [ht]
  ·simp [ht]
 ·simp only [List.map_map,List.mem_map,List.mem_flatMap,Function.comp]
  exact ⟨t,⟨x,hx,ht⟩,rfl⟩
theorem chainB_agree {fr fr':List V}:∀ {ch:List (Nat×Bool)},(∀ q∈ch,fr'[q.1]?=fr[q.1]?)→chainB fr' ch=chainB fr ch
 | [],_=>rfl
 | (t,b)::ch,h=>by
  have h0:fr'[t]?=fr[t]?:=h (t,b) (by simp)
  have ih:=chainB_agree (fr:=fr) (fr':=fr') (ch:=ch) fun q hq=>h q (by simp [hq])
  simp only [chainB,ih,List.getD_eq_getElem?_getD,h0]
theorem pexec_agree {fr fr':List V} {σ:Store} {p:Pi} (h:∀ t∈p.i.slots.map (·.1),fr'[t]?=fr[t]?):pexec fr' σ p.i=pexec fr σ p.i :=
 pexec_congr fun x hx=>ev_slot fun s hs=>by rw [List.getD_eq_getElem?_getD,List.getD_eq_getElem?_getD,h s (os_slots hx hs)]
theorem Fact.agree {p:Pi} {fr fr':List V} {σ:Store} (h:Fact p fr σ) (hl:∀ t∈looks p,fr'[t]?=fr[t]?) (hd:∀ t,p.d=some t→fr'[t]?=fr[t]?) (hlen:fr'.length=fr.length):Fact p fr' σ:=by
 obtain ⟨c,h1,r,h2,h3⟩:=h
 refine ⟨c,by rw [chainB_agree fun q hq=>hl q.1 (by simp only [looks,List.mem_append,List.mem_map];exact .inr ⟨q,hq,rfl⟩)];exact h1,r,?_,fun hc=>?_⟩
 ·rw [setd_same] at h2 ⊢
  intro t ht hlt
  rw [hd t ht];exact h2 t ht (hlen▸hlt)
 ·rw [pexec_agree fun t ht=>hl t (by simp only [looks,List.mem_append];exact .inl ht)]
  exact h3 hc
theorem Fact.still {p:Pi} {fr:List V} {σ σ':Store} (h:Fact p fr σ) (hr:p.i.reads=false):Fact p fr σ':=by
 obtain ⟨c,h1,r,h2,h3⟩:=h
 exact ⟨c,h1,r,h2,fun hc=>by rw [← pexec_still (σ:=σ) hr];exact h3 hc⟩
theorem chkF.fact {p:Pi} {st:St} (h:chkF p st):Fact p st.fr st.σ:=by
 unfold chkF at h
 split at h
 ·rename_i c hc
  split at h
  ·rename_i d hd
   refine ⟨c,hc,_,?_,h⟩
   rw [setd_same]
   intro t ht hl
   rw [hd] at ht
   simp only [Option.some.injEq] at ht
   subst ht
   rw [List.getD_eq_getElem?_getD,List.getElem?_eq_getElem hl];rfl
  ·rename_i hd
   by_cases hct:c=true
   ·obtain ⟨ob,r,h1,h2⟩:=h hct
    exact ⟨c,hc,r,by rw [hd];rfl,fun _=>⟨ob,h1,h2⟩⟩
   ·exact ⟨c,hc,.u,by rw [hd];rfl,fun h=>absurd h hct⟩
 ·exact h.elim
theorem gI_silent {P:Program} {p:Pi} {K:St→Prop} {fr:List V} {σ:Store} (h:gI P p K ⟨fr,σ⟩) (hs:p.i.silent=true) :
  ∃ c r,chainB fr p.g=some c∧K ⟨setd fr p.d r,σ⟩∧(c=true→∃ ob,pexec fr σ p.i=some (ob,r)∧ob):=by
 have key:∀ K0,stepI P p K0 ⟨fr,σ⟩→∃ r,K0 ⟨setd fr p.d r,σ⟩∧∃ ob,pexec fr σ p.i=some (ob,r)∧ob:=by
  intro K0 h0
  obtain ⟨d,g,i⟩:=p
  cases i<;>first | (simp [I.silent] at hs;done) | skip
  all_goals
   simp only [stepI] at h0
   split at h0
   ·rename_i ob v hv
    exact ⟨v,h0.2,ob,hv,h0.1⟩
   ·rw [xexec_silent (by simpa using hs)] at h0
    exact h0.elim
 unfold gI at h
 split at h
 ·rename_i hg
  obtain ⟨r,h1,h2⟩:=key _ h
  exact ⟨true,r,by rw [hg];rfl,h1,fun _=>h2⟩
 ·split at h
  ·rename_i c hc
   obtain ⟨r,h1,h2⟩:=gstep_spec h fun f args e=>by rw [e] at hs;simp [I.silent] at hs
   by_cases hct:c=true
   ·obtain ⟨r',h3,h4⟩:=key _ (h2 hct)
    simp only [St.mk.injEq,and_true] at h3
    subst hct
    refine ⟨true,r',hc,?_,fun _=>h4⟩
    rw [h3];exact h1
   ·exact ⟨c,r,hc,h1,fun h=>absurd h hct⟩
  ·exact h.elim
theorem silRun {P:Program} {pis:List Pi} {K:St→Prop} {σ:Store}:∀ (l:List Nat) (fr:List V),runC P [] (l.map (pin pis)) K ⟨fr,σ⟩→(∀ i∈l,(pin pis i).i.silent=true) →
  l.Pairwise (fun i j=>∀ t,(pin pis j).d=some t→t ∉ looks (pin pis i)∧(pin pis i).d≠some t)→(∀ i∈l,∀ t,(pin pis i).d=some t→t ∉ looks (pin pis i)) →
  ∃ fr',K ⟨fr',σ⟩∧(∀ i∈l,Fact (pin pis i) fr' σ)∧(∀ t,(∀ i∈l,(pin pis i).d≠some t)→fr'[t]?=fr[t]?)∧fr'.length=fr.length
 | [],fr,h,_,_,_=>⟨fr,h,by simp,fun _ _=>rfl,rfl⟩
 | i::l,fr,h,hs,hp,hself=>by
  simp only [List.map_cons,runC] at h
  obtain ⟨c,r,h1,h2,h3⟩:=gI_silent h (hs i (by simp))
  rw [List.pairwise_cons] at hp
  obtain ⟨fr',h4,h5,h6,h7⟩:=silRun l _ h2 (fun j hj=>hs j (by simp [hj])) hp.2 fun j hj=>hself j (by simp [hj])
  have hl1:∀ t∈looks (pin pis i),fr'[t]?=fr[t]?:=fun t ht=>by
   rw [h6 t fun j hj e=>(hp.1 j hj t e).1 ht]
   exact setd_other fun e=>hself i (by simp) t e ht
  refine ⟨fr',h4,fun j hj=>?_,fun t ht=>?_,by rw [h7,setd_len]⟩
  ·rcases List.mem_cons.1 hj with rfl | hj
   ·refine ⟨c,by rw [chainB_agree fun q hq=>hl1 q.1 (by simp only [looks,List.mem_append,List.mem_map];exact .inr ⟨q,hq,rfl⟩)];exact h1,r,?_,fun hc=>?_⟩
    ·rw [setd_same]
     intro t ht hlt
     rw [h6 t fun k hk e=>(hp.1 k hk t e).2 ht,ht]
     have:t<fr.length:=by rw [h7,setd_len] at hlt;exact hlt
     simp only [setd,List.getElem?_set_self this]
    ·rw [pexec_agree fun t ht=>hl1 t (by simp only [looks,List.mem_append];exact .inl ht)]
     exact h3 hc
   ·exact h5 j hj
  ·rw [h6 t fun j hj=>ht j (by simp [hj])]
   exact setd_other (ht i (by simp))
structure XOK (ops:Array Oper) (pis:List Pi) (bs:List Nat) (m:Nat) (ls fl:List Nat):Prop where
 mn:m≤pis.length
 back:∀ i o,ops[i]?=some o→∀ e∈o.after,Region.binds .any e=true→e.on<i
 clo:∀ (i j:Nat),i<pis.length→j<pis.length→tb bs i j=true→j<i∧∃ o,ops[i]?=some o∧∃ e∈o.after,Region.binds .any e=true∧(e.on=j∨tb bs e.on j=true)
 tail:∀ (i j:Nat),m≤i→i<pis.length→j<i→tb bs i j=true
 dst:∀ (i j:Nat) (t:Nat),i<m→j<m→(pin pis i).d=some t→(pin pis j).d=some t→i=j
 loud:∀ (i:Nat),i<m→(pin pis i).i.silent=false→i∈ls∨i∈fl
 lsm:∀ L∈ls,L<m∧(pin pis L).i.silent=false
 lord:∀ (j k L L':Nat),j<k→ls[j]?=some L'→ls[k]?=some L→tb bs L L'=true
 sil:∀ (i k L:Nat),i<m→(pin pis i).i.silent=true→ls[k]?=some L→(tb bs i L=true↔k<sgx bs ls i)
 slot:∀ (i:Nat) (s:Nat×List (Nat×Bool)) (j:Nat),i<m→s∈(pin pis i).i.slots→j<m→(pin pis j).d=some s.1→tb bs i j=true∧(pin pis j).g.isPrefixOf ((pin pis i).g++s.2)=true
 chain:∀ (i:Nat) (q:Nat×Bool),i<m→q∈(pin pis i).g→∃ j,j<m∧(pin pis j).d=some q.1∧tb bs i j=true
 last:∀ (i:Nat) (ch:List (Nat×Bool)) (t:Nat) (b:Bool) (j:Nat),i<m→(pin pis i).g=ch++[(t,b)]→j<m→(pin pis j).d=some t→(pin pis j).g=ch
 mono:∀ (i j t:Nat),i<m→(pin pis i).i.silent=true→j<m→(pin pis j).i.silent=true→(pin pis j).d=some t→t∈looks (pin pis i)→sgx bs ls j≤sgx bs ls i
theorem cPis_at {P:Program} {ops:Array Oper}:∀ {l:List Oper} {ps:List Pi},cPis P ops l=some ps→ps.length=l.length∧∀ (i:Nat) (o:Oper),l[i]?=some o→∃ p,ps[i]?=some p∧cPi P ops o=some p
 | [],ps,h=>by simp only [cPis,Option.some.injEq] at h;subst h;simp
 | o::l,ps,h=>by
  simp only [cPis] at h
  split at h<;>simp only [Option.some.injEq,reduceCtorEq] at h
  rename_i p qs hp hqs
  subst h
  obtain ⟨h1,h2⟩:=cPis_at hqs
  refine ⟨by simp [h1],fun i o' ho=>?_⟩
  cases i with
  | zero=>simp only [List.getElem?_cons_zero,Option.some.injEq] at ho;subst ho;exact ⟨p,rfl,hp⟩
  | succ i=>exact h2 i o' (by simpa using ho)
abbrev Lst (listed:Array Bool) (i:Nat):Prop:=listed.getD i false=true
theorem lst_set {listed:Array Bool} {i j:Nat} (hi:i<listed.size):Lst (listed.setIfInBounds i true) j↔j=i∨Lst listed j:=by
 simp only [Lst,Array.getD_eq_getD_getElem?]
 by_cases h:i=j
 ·subst h;simp [hi]
 ·rw [Array.getElem?_setIfInBounds_ne h]
  simp [Ne.symm h]
theorem ready_un {ops:Array Oper} {listed:Array Bool} {i:Nat} (hn:listed.size=ops.size) (h:i∈Region.ready .any ops listed) :
  i<ops.size∧¬ Lst listed i∧∃ o,ops[i]?=some o∧∀ e∈o.after,Region.binds .any e=true→Lst listed e.on:=by
 obtain ⟨h1,o,h2,h3⟩:=mem_ready.1 h
 have hi:i<ops.size:=(Array.getElem?_eq_some_iff.1 h2).1
 refine ⟨hi,?_,o,h2,h3⟩
 simp only [Lst,Array.getD_eq_getD_getElem?] at h1 ⊢
 rw [Array.getElem?_eq_getElem (by rw [hn];exact hi)] at h1 ⊢
 simp at h1 ⊢
 exact h1
section
variable {P:Program} {ops:Array Oper} {pis:List Pi} {bs:List Nat} {m:Nat} {ls fl:List Nat}
theorem XOK.ready (hX:XOK ops pis bs m ls fl) (hn:pis.length=ops.size) {listed:Array Bool} (hsz:listed.size=ops.size)
  (hc:∀ i j,i<pis.length→j<pis.length→Lst listed i→tb bs i j=true→Lst listed j) {i:Nat} (h:i∈Region.ready .any ops listed) {j:Nat} (hj:j<pis.length) (ht:tb bs i j=true):Lst listed j:=by
 obtain ⟨h1,h2,o,h3,h4⟩:=ready_un hsz h
 obtain ⟨h5,o',h6,e,h7,h8,h9⟩:=hX.clo i j (by omega) hj ht
 rw [h3] at h6
 simp only [Option.some.injEq] at h6
 subst h6
 have h10:=h4 e h7 h8
 rcases h9 with rfl | h9
 ·exact h10
 ·have:=hX.back i o h3 e h7 h8
  exact hc e.on j (by omega) hj h10 h9
theorem XOK.first (hX:XOK ops pis bs m ls fl) {listed:Array Bool} (hsz:listed.size=ops.size) (h:Region.ready .any ops listed=[]):∀ i,i<ops.size→Lst listed i:=by
 intro i
 induction i using Nat.strongRecOn with
 | ind i ih =>
  intro hi
  refine Classical.byContradiction fun hn=>?_
  have:i∈Region.ready .any ops listed:=by
   rw [mem_ready]
   refine ⟨?_,ops[i],by simp [hi],fun e he hb=>?_⟩
   ·simp only [Lst,Array.getD_eq_getD_getElem?] at hn ⊢
    rw [Array.getElem?_eq_getElem (by rw [hsz];exact hi)] at hn ⊢
    simp at hn ⊢
    exact hn
   ·have hl:=hX.back i ops[i] (by simp [hi]) e he hb
    exact ih e.on hl (by omega)
  rw [h] at this
  simp at this
theorem ready_nil {listed:Array Bool} (hsz:listed.size=ops.size) (h:∀ i,i<ops.size→Lst listed i):Region.ready .any ops listed=[]:=by
 refine List.eq_nil_iff_forall_not_mem.2 fun i hi=>?_
 obtain ⟨h1,h2,_⟩:=ready_un hsz hi
 exact h2 (h i h1)
theorem tail_sound (hX:XOK ops pis bs m ls fl) (hp:cPis P ops ops.toList=some pis) {n B:Nat} {gs:List Nat} {w0 ws:World} {σs:Store} {μs:Mem} {K:St→Prop} {Q:Exit→Act→World→Prop}
  (hQ:∀ st w μ a,K st→Sim P B w0 w st.σ μ→FR w st.σ μ st.fr a→KeepN n ws σs μs w st.σ μ→Q .normal a w) :
  ∀ (fuel q:Nat) (listed:Array Bool) (D:List (Nat×List (Nat×Bool))) (fr:List V) (σ:Store) (w:World) (μ:Mem) (a:Act),m≤q→q≤pis.length→listed.size=ops.size→(∀ i,i<pis.length→(Lst listed i↔i<q))→pis.length - q≤fuel →
   okL D (pis.drop q) gs=true→runC P gs (pis.drop q) K ⟨fr,σ⟩→Sim P B w0 w σ μ→FRi w σ μ fr (infL D) a→KeepN n ws σs μs w σ μ→wpAny P .any ops Q fuel listed a w:=by
 have hn:pis.length=ops.size:=by rw [(cPis_at hp).1,Array.length_toList]
 intro fuel
 induction fuel with
 | zero =>
  intro q listed D fr σ w μ a hmq hq hsz hl hf hD hr hS hF hk
  have hq':q=pis.length:=by omega
  subst hq'
  rw [List.drop_length] at hD hr
  refine wpAny_done (ready_nil hsz fun i hi=>(hl i (by omega)).2 (by omega)) ?_ 0
  exact hQ _ w μ a hr hS (hF.ends hD) hk
 | succ fuel ih =>
  intro q listed D fr σ w μ a hmq hq hsz hl hf hD hr hS hF hk
  by_cases hq':q=pis.length
  ·subst hq'
   rw [List.drop_length] at hD hr
   refine wpAny_done (ready_nil hsz fun i hi=>(hl i (by omega)).2 (by omega)) ?_ _
   exact hQ _ w μ a hr hS (hF.ends hD) hk
  ·have hql:q<pis.length:=by omega
   refine ⟨fun h=>?_,fun i hi=>?_⟩
   ·have:=hX.first hsz h q (by omega)
    rw [hl q hql] at this;omega
   ·obtain ⟨h1,h2,o,h3,h4⟩:=ready_un hsz hi
    have hiq:i=q:=by
     have h5:¬ i<q:=fun h=>h2 ((hl i (by omega)).2 h)
     refine Classical.byContradiction fun hne=>?_
     have h6:=hX.ready hn hsz (fun i' j hi' hj hli ht=>by
      rw [hl i' hi'] at hli
      have:=(hX.clo i' j hi' hj ht).1
      exact (hl j hj).2 (by omega)) hi hql (hX.tail i q (by omega) (by omega) (by omega))
     rw [hl q hql] at h6;omega
    subst hiq
    obtain ⟨p,h5,h6⟩:=(cPis_at hp).2 i o (by simpa using h3)
    have hdrop:pis.drop i=p::pis.drop (i+1):=by
     rw [List.drop_eq_getElem_cons hql]
     congr 1
     rw [List.getElem?_eq_getElem hql] at h5
     simpa using h5
    rw [hdrop] at hD hr
    simp only [okL,Bool.and_eq_true] at hD
    simp only [wpOp,h3]
    refine opG h6 hS hF (okOpB_ok hD.1) hr ?_
    intro r σ' μ' a' w' k1 k2 k3 k4
    rw [updI_infL] at k3
    exact ih (i+1) _ _ _ σ' w' μ' a' (by omega) (by omega) (by simpa using hsz) (fun j hj=>by rw [lst_set (by omega),hl j hj];omega) (by omega) hD.2 k1 k2 k3 (hk.trans k4.toN)
end
def winf (pis:List Pi) (m:Nat) (listed:Array Bool) (t:Nat):Option (List (Nat×Bool)) :=
 match (List.range m).find? (fun i=>(pin pis i).d==some t) with
 | none=>some []
 | some i=>if listed.getD i false then some (pin pis i).g else none
section
variable {P:Program} {ops:Array Oper} {pis:List Pi} {bs:List Nat} {m:Nat} {ls fl:List Nat}
theorem XOK.winf_at (hX:XOK ops pis bs m ls fl) {listed:Array Bool} {i t:Nat} (hi:i<m) (hd:(pin pis i).d=some t):winf pis m listed t=if listed.getD i false then some (pin pis i).g else none:=by
 unfold winf
 split
 ·rename_i h
  rw [List.find?_eq_none] at h
  exact absurd (h i (List.mem_range.2 hi)) (by simp [hd])
 ·rename_i j h
  have h1:=List.find?_some h
  have h2:=List.mem_range.1 (List.mem_of_find?_eq_some h)
  simp only [beq_iff_eq] at h1
  rw [hX.dst j i t h2 hi h1 hd]
theorem winf_none {listed:Array Bool} {t:Nat} (h:∀ i,i<m→(pin pis i).d≠some t):winf pis m listed t=some []:=by
 unfold winf
 split
 ·rfl
 ·rename_i j hj
  have h1:=List.find?_some hj
  have h2:=List.mem_range.1 (List.mem_of_find?_eq_some hj)
  simp only [beq_iff_eq] at h1
  exact absurd h1 (h j h2)
theorem winf_cases {listed:Array Bool} {t:Nat} {ch:List (Nat×Bool)} (h:winf pis m listed t=some ch) :
  (ch=[]∧∀ i,i<m→(pin pis i).d≠some t)∨∃ i,i<m∧(pin pis i).d=some t∧Lst listed i∧ch=(pin pis i).g:=by
 unfold winf at h
 split at h
 ·rename_i hf
  rw [List.find?_eq_none] at hf
  simp only [Option.some.injEq] at h
  exact .inl ⟨h.symm,fun i hi hd=>hf i (List.mem_range.2 hi) (by simp [hd])⟩
 ·rename_i j hj
  have h1:=List.find?_some hj
  have h2:=List.mem_range.1 (List.mem_of_find?_eq_some hj)
  simp only [beq_iff_eq] at h1
  split at h<;>simp only [Option.some.injEq,reduceCtorEq] at h
  rename_i hl
  exact .inr ⟨j,h2,h1,hl,h.symm⟩
theorem XOK.looks_tb (hX:XOK ops pis bs m ls fl) {i j t:Nat} (hi:i<m) (hj:j<m) (hd:(pin pis j).d=some t) (ht:t∈looks (pin pis i)):tb bs i j=true:=by
 simp only [looks,List.mem_append,List.mem_map] at ht
 rcases ht with ⟨s,hs,rfl⟩ | ⟨q,hq,rfl⟩
 ·exact (hX.slot i s j hi hs hj hd).1
 ·obtain ⟨j',h1,h2,h3⟩:=hX.chain i q hi hq
  rw [hX.dst j j' _ hj h1 hd h2];exact h3
theorem XOK.lt (hX:XOK ops pis bs m ls fl) {i j:Nat} (hi:i<m) (hj:j<m) (h:tb bs i j=true):j<i :=
 (hX.clo i j (Nat.lt_of_lt_of_le hi hX.mn) (Nat.lt_of_lt_of_le hj hX.mn) h).1
theorem XOK.okop (hX:XOK ops pis bs m ls fl) {listed:Array Bool} (hc:∀ i j,i<pis.length→j<pis.length→Lst listed i→tb bs i j=true→Lst listed j) {i:Nat} (hi:i<m) (hun:¬ Lst listed i)
  (hall:∀ j,j<pis.length→tb bs i j=true→Lst listed j):OkOp (winf pis m listed) (pin pis i):=by
 have hm:=hX.mn
 refine ⟨fun s hs=>?_,fun ch t b hg=>?_,fun d hd=>⟨fun q hq e=>?_,fun t ch ht q hq e=>?_⟩⟩
 ·by_cases hw:∃ j,j<m∧(pin pis j).d=some s.1
  ·obtain ⟨j,hj,hd⟩:=hw
   have:=hX.slot i s j hi hs hj hd
   have hl:=hall j (by omega) this.1
   refine ⟨(pin pis j).g,?_,this.2⟩
   rw [hX.winf_at hj hd,hl];rfl
  ·exact ⟨[],winf_none fun j hj hd=>hw ⟨j,hj,hd⟩,by simp⟩
 ·obtain ⟨j,hj,hd,ht⟩:=hX.chain i (t,b) hi (by rw [hg];simp)
  rw [hX.winf_at hj hd,hall j (by omega) ht,hX.last i ch t b j hi hg hj hd];rfl
 ·obtain ⟨j,hj,hd',ht⟩:=hX.chain i q hi hq
  rw [e] at hd'
  have:=hX.dst i j d hi hj hd hd'
  subst this
  have:=hX.lt hi hi ht
  omega
 ·rcases winf_cases ht with ⟨rfl,_⟩ | ⟨j,hj,hdj,hlj,rfl⟩
  ·simp at hq
  ·obtain ⟨j2,hj2,hd2,ht2⟩:=hX.chain j q hj hq
   have hl2:=hc j j2 (by omega) (by omega) hlj ht2
   rw [e] at hd2
   have:=hX.dst i j2 d hi hj2 hd hd2
   subst this
   exact hun hl2
theorem XOK.updI (hX:XOK ops pis bs m ls fl) {listed:Array Bool} {i:Nat} (hi:i<m) (his:i<listed.size):updI (winf pis m listed) (pin pis i)=winf pis m (listed.setIfInBounds i true):=by
 funext t
 simp only [Pm.updI]
 by_cases hd:(pin pis i).d=some t
 ·have:(listed.setIfInBounds i true).getD i false=true:=(lst_set his).2 (.inl rfl)
  rw [if_pos hd,hX.winf_at hi hd,this];rfl
 ·rw [if_neg hd]
  unfold winf
  split
  ·rfl
  ·rename_i j hj
   have h1:=List.find?_some hj
   simp only [beq_iff_eq] at h1
   have hne:j≠i:=fun e=>hd (e▸h1)
   have:(listed.setIfInBounds i true).getD j false=listed.getD j false:=by
    have h2:=lst_set (listed:=listed) (j:=j) his
    simp only [hne,false_or,Lst] at h2
    cases h3:listed.getD j false<;>simp_all
   rw [this]
def RestD (P:Program) (pis:List Pi) (bs:List Nat) (m:Nat) (ls:List Nat) (Kt:St→Prop) (k:Nat) (fr:List V) (σ:Store):Prop :=
 match ls[k]? with
 | some L=>gI P (pin pis L) (fun st2=>(∀ p∈(chkX pis bs m ls k L).map (pin pis),chkF p st2)∧runD P (stX pis bs m ls (k+1) (ls.drop (k+1))) ((silX pis bs m ls ls.length).map (pin pis)) Kt st2) ⟨fr,σ⟩
 | none=>Kt ⟨fr,σ⟩
theorem mem_silX {k i:Nat}:i∈silX pis bs m ls k↔i<m∧(pin pis i).i.silent=true∧sgx bs ls i=k:=by
 simp [silX]
theorem XOK.openD (hX:XOK ops pis bs m ls fl) {Kt:St→Prop} {k:Nat} (hk:k≤ls.length) {fr:List V} {σ:Store}
  (h:runD P (stX pis bs m ls k (ls.drop k)) ((silX pis bs m ls ls.length).map (pin pis)) Kt ⟨fr,σ⟩) :
  ∃ fr',RestD P pis bs m ls Kt k fr' σ∧(∀ i∈silX pis bs m ls k,Fact (pin pis i) fr' σ)∧(∀ t,(∀ i∈silX pis bs m ls k,(pin pis i).d≠some t)→fr'[t]?=fr[t]?)∧fr'.length=fr.length:=by
 have hpw:(silX pis bs m ls k).Pairwise (fun i j=>∀ t,(pin pis j).d=some t→t ∉ looks (pin pis i)∧(pin pis i).d≠some t):=by
  refine List.Pairwise.imp_of_mem ?_ (List.Pairwise.filter _ List.pairwise_lt_range)
  intro i j hi hj hlt t hd
  replace hi:=(mem_silX (k:=k)).1 hi
  replace hj:=(mem_silX (k:=k)).1 hj
  refine ⟨fun ht=>?_,fun hd'=>?_⟩
  ·have:=hX.lt hi.1 hj.1 (hX.looks_tb hi.1 hj.1 hd ht);omega
  ·have:=hX.dst i j t hi.1 hj.1 hd' hd;omega
 have hself:∀ i∈silX pis bs m ls k,∀ t,(pin pis i).d=some t→t ∉ looks (pin pis i):=fun i hi t hd ht=>by
  rw [mem_silX] at hi
  have:=hX.lt hi.1 hi.1 (hX.looks_tb hi.1 hi.1 hd ht);omega
 have hsil:∀ i∈silX pis bs m ls k,(pin pis i).i.silent=true:=fun i hi=>(mem_silX.1 hi).2.1
 by_cases hkl:k<ls.length
 ·have e:ls.drop k=ls[k]::ls.drop (k+1):=List.drop_eq_getElem_cons hkl
  rw [e] at h
  simp only [stX,runD] at h
  obtain ⟨fr',h1,h2,h3,h4⟩:=silRun _ _ h hsil hpw hself
  refine ⟨fr',?_,h2,h3,h4⟩
  simp only [RestD,List.getElem?_eq_getElem hkl]
  exact h1
 ·have hk':k=ls.length:=by omega
  subst hk'
  rw [List.drop_length] at h
  simp only [stX,runD] at h
  obtain ⟨fr',h1,h2,h3,h4⟩:=silRun _ _ h hsil hpw hself
  refine ⟨fr',?_,h2,h3,h4⟩
  have e:ls[ls.length]?=none:=List.getElem?_eq_none (Nat.le_refl _)
  simp only [RestD,e]
  exact h1
def unl (n:Nat) (listed:Array Bool):Nat:=((List.range n).filter fun i=>!listed.getD i false).length
theorem unl_tail {n m:Nat} {listed:Array Bool} (hm:m≤n) (h:∀ i,m≤i→i<n→¬ Lst listed i):n - m≤unl n listed:=by
 have e:List.range n=List.range m++(List.range (n - m)).map (m+·):=by rw [← List.range_add];congr 1;omega
 unfold unl
 rw [e,List.filter_append,List.length_append]
 have:((List.range (n - m)).map (m+·)).filter (fun i=>!listed.getD i false)=(List.range (n - m)).map (m+·):=by
  rw [List.filter_eq_self]
  intro i hi
  simp only [List.mem_map,List.mem_range] at hi
  obtain ⟨j,hj,rfl⟩:=hi
  have:=h (m+j) (by omega) (by omega)
  simpa [Lst] using this
 rw [this];simp
theorem unl_pos {n:Nat} {listed:Array Bool} {i:Nat} (hi:i<n) (h:¬ Lst listed i):0<unl n listed:=by
 unfold unl
 rw [List.length_pos_iff_exists_mem]
 exact ⟨i,by simp only [List.mem_filter,List.mem_range];exact ⟨hi,by simpa [Lst] using h⟩⟩
theorem unl_set {n:Nat} {listed:Array Bool} {i:Nat} (hi:i<n) (his:i<listed.size) (h:¬ Lst listed i):unl n (listed.setIfInBounds i true)+1≤unl n listed:=by
 induction n with
 | zero=>omega
 | succ n ih =>
  have ex:∀ l:Array Bool,unl (n+1) l=unl n l+if l.getD n false then 0 else 1:=by
   intro l
   unfold unl
   rw [List.range_succ,List.filter_append,List.length_append]
   congr 1
   rw [List.filter_cons]
   cases hl:l.getD n false<;>rfl
  rw [ex,ex]
  by_cases hn:i=n
  ·subst hn
   have h1:(listed.setIfInBounds i true).getD i false=true:=(lst_set his).2 (.inl rfl)
   have h2:listed.getD i false=false:=by simpa [Lst] using h
   rw [h1,h2]
   have:unl i (listed.setIfInBounds i true)=unl i listed:=by
    unfold unl
    congr 1
    refine List.filter_congr fun j hj=>?_
    rw [List.mem_range] at hj
    have h2:=lst_set (listed:=listed) (j:=j) his
    have hne:j≠i:=by omega
    simp only [hne,false_or,Lst] at h2
    cases h3:listed.getD j false<;>simp_all
   simp [this]
  ·have h1:=ih (by omega)
   have h2:=lst_set (listed:=listed) (j:=n) his
   have hne:n≠i:=fun e=>hn e.symm
   simp only [hne,false_or,Lst] at h2
   have:(listed.setIfInBounds i true).getD n false=listed.getD n false:=by cases h3:listed.getD n false<;>simp_all
   rw [this];omega
def D0 (pis:List Pi) (m:Nat):List (Nat×List (Nat×Bool)):=(List.range m).filterMap fun i=>(pin pis i).d.map fun d=>(d,(pin pis i).g)
theorem lookD_eq {t:Nat} {x:List (Nat×Bool)}:∀ {D:List (Nat×List (Nat×Bool))},(∀ v,(t,v)∈D→v=x)→(∃ v,(t,v)∈D)→lookD D t=x
 | [],_,h=>by obtain ⟨v,hv⟩:=h;simp at hv
 | (s,v)::D,h,he=>by
  simp only [lookD,List.lookup_cons]
  by_cases hts:t=s
  ·subst hts
   simp [h v (by simp)]
  ·have h2:(t==s)=false:=by simpa using hts
   rw [h2]
   refine lookD_eq (D:=D) (fun v hv=>h v (by simp [hv])) ?_
   obtain ⟨v',hv'⟩:=he
   rcases List.mem_cons.1 hv' with e | hv'
   ·simp only [Prod.mk.injEq] at e;exact absurd e.1 hts
   ·exact ⟨v',hv'⟩
theorem XOK.all (hX:XOK ops pis bs m ls fl) {listed:Array Bool} (h:∀ i,i<m→Lst listed i):winf pis m listed=infL (D0 pis m):=by
 funext t
 have hmem:∀ v,(t,v)∈D0 pis m↔∃ i,i<m∧(pin pis i).d=some t∧v=(pin pis i).g:=by
  intro v
  simp only [D0,List.mem_filterMap,List.mem_range,Option.map_eq_some_iff,Prod.mk.injEq]
  constructor
  ·rintro ⟨i,hi,d,hd,rfl,rfl⟩;exact ⟨i,hi,hd,rfl⟩
  ·rintro ⟨i,hi,hd,rfl⟩;exact ⟨i,hi,t,hd,rfl,rfl⟩
 by_cases hw:∃ i,i<m∧(pin pis i).d=some t
 ·obtain ⟨i,hi,hd⟩:=hw
  rw [hX.winf_at hi hd,h i hi]
  simp only [if_true,infL,Option.some.injEq]
  refine (lookD_eq (fun v hv=>?_) ⟨_,(hmem _).2 ⟨i,hi,hd,rfl⟩⟩).symm
  obtain ⟨j,hj,hdj,rfl⟩:=(hmem v).1 hv
  rw [hX.dst i j t hi hj hd hdj]
 ·rw [winf_none fun i hi hd=>hw ⟨i,hi,hd⟩]
  simp only [infL,Option.some.injEq]
  rcases lookD_mem (D:=D0 pis m) (t:=t) with h1 | h1
  ·exact h1.symm
  ·obtain ⟨i,hi,hd,_⟩:=(hmem _).1 h1
   exact absurd ⟨i,hi,hd⟩ hw
end
theorem fact_GI {P:Program} {p:Pi} {fr:List V} {σ:Store} (h:Fact p fr σ):GI P p (fun st'=>st'=⟨fr,σ⟩) fr σ:=by
 obtain ⟨c,h1,r,h2,h3⟩:=h
 cases c with
 | false=>exact ⟨false,h1,.inr ⟨rfl,r,by rw [h2]⟩⟩
 | true =>
  obtain ⟨ob,h4,h5⟩:=h3 rfl
  refine ⟨true,h1,.inl ⟨rfl,fun st'=>st'=⟨fr,σ⟩,?_,fun _ h=>h⟩⟩
  obtain ⟨d,g,i⟩:=p
  have hs:=pexec_silent h4
  cases i<;>first | (simp [I.silent] at hs;done) | skip
  all_goals
   simp only [stepI]
   simp only at h4 h2
   rw [h4]
   exact ⟨h5,by rw [h2]⟩
section
variable {P:Program} {ops:Array Oper} {pis:List Pi} {bs:List Nat} {m:Nat} {ls fl:List Nat}
theorem prefix_sound (hX:XOK ops pis bs m ls fl) (hp:cPis P ops ops.toList=some pis) {n B:Nat} {gs:List Nat} {w0 ws:World} {σs:Store} {μs:Mem} {K:St→Prop} {Q:Exit→Act→World→Prop}
  (hQ:∀ st w μ a,K st→Sim P B w0 w st.σ μ→FR w st.σ μ st.fr a→KeepN n ws σs μs w st.σ μ→Q .normal a w) (ht:okL (D0 pis m) (pis.drop m) gs=true) :
  ∀ (fuel k:Nat) (listed:Array Bool) (fr:List V) (σ:Store) (w:World) (μ:Mem) (a:Act),listed.size=ops.size→(∀ f∈fl,Lst listed f) →
   (∀ i j,i<pis.length→j<pis.length→Lst listed i→tb bs i j=true→Lst listed j)→(∀ i,m≤i→i<pis.length→¬ Lst listed i)→k≤ls.length →
   (∀ j L,ls[j]?=some L→(Lst listed L↔j<k))→(∀ i,i<m→(pin pis i).i.silent=true→sgx bs ls i≤k→¬ Lst listed i→Fact (pin pis i) fr σ) →
   RestD P pis bs m ls (runC P gs (pis.drop m) K) k fr σ→unl pis.length listed≤fuel →
   Sim P B w0 w σ μ→FRi w σ μ fr (winf pis m listed) a→KeepN n ws σs μs w σ μ→wpAny P .any ops Q fuel listed a w:=by
 have hn:pis.length=ops.size:=by rw [(cPis_at hp).1,Array.length_toList]
 have hm:=hX.mn
 intro fuel
 induction fuel with
 | zero =>
  intro k listed fr σ w μ a hsz hfl hc htl hk hlo hfa hre hu hS hF hkn
  have hnone:∀ i,i<pis.length→Lst listed i:=fun i hi=>Classical.byContradiction fun h=>by have:=unl_pos hi h;omega
  have hall:∀ i,i<m→Lst listed i:=fun i hi=>hnone i (by omega)
  have hkl:k=ls.length:=by
   refine Classical.byContradiction fun hne=>?_
   have hlt:k<ls.length:=by omega
   have:=(hlo k ls[k] (List.getElem?_eq_getElem hlt)).1 (hall _ (hX.lsm _ (List.getElem_mem hlt)).1)
   omega
  subst hkl
  have e:ls[ls.length]?=none:=List.getElem?_eq_none (Nat.le_refl _)
  simp only [RestD,e] at hre
  rw [hX.all hall] at hF
  exact tail_sound hX hp hQ 0 m listed _ fr σ w μ a (Nat.le_refl _) hm hsz (fun i hi=>⟨fun h=>Classical.byContradiction fun h2=>htl i (by omega) hi h,fun h=>hall i h⟩) (by
   have:=unl_tail hm htl;omega) ht hre hS hF hkn
 | succ fuel ih =>
  intro k listed fr σ w μ a hsz hfl hc htl hk hlo hfa hre hu hS hF hkn
  by_cases hall:∀ i,i<m→Lst listed i
  ·have hkl:k=ls.length:=by
    refine Classical.byContradiction fun hne=>?_
    have hlt:k<ls.length:=by omega
    have:=(hlo k ls[k] (List.getElem?_eq_getElem hlt)).1 (hall _ (hX.lsm _ (List.getElem_mem hlt)).1)
    omega
   subst hkl
   have e:ls[ls.length]?=none:=List.getElem?_eq_none (Nat.le_refl _)
   simp only [RestD,e] at hre
   rw [hX.all hall] at hF
   exact tail_sound hX hp hQ _ m listed _ fr σ w μ a (Nat.le_refl _) hm hsz (fun i hi=>⟨fun h=>Classical.byContradiction fun h2=>htl i (by omega) hi h,fun h=>hall i h⟩) (by
    have:=unl_tail hm htl;omega) ht hre hS hF hkn
  ·refine ⟨fun h=>absurd (fun i hi=>hX.first hsz h i (by omega)) hall,fun i hi=>?_⟩
   obtain ⟨hio,hun,o,ho,_⟩:=ready_un hsz hi
   have hin:i<pis.length:=by omega
   have hal:∀ j,j<pis.length→tb bs i j=true→Lst listed j:=fun j hj ht=>hX.ready hn hsz hc hi hj ht
   have him:i<m:=by
    refine Classical.byContradiction fun h=>hall fun j hj=>?_
    exact hal j (by omega) (hX.tail i j (by omega) hin (by omega))
   obtain ⟨p,hpi,hcp⟩:=(cPis_at hp).2 i o (by simpa using ho)
   have hpin:pin pis i=p:=by simp [pin,List.getD_eq_getElem?_getD,hpi]
   have hok:OkOp (winf pis m listed) p:=hpin▸hX.okop hc him hun hal
   have hclos':∀ x j,x<pis.length→j<pis.length→Lst (listed.setIfInBounds i true) x→tb bs x j=true→Lst (listed.setIfInBounds i true) j:=by
    intro x j hx hj hl ht
    rw [lst_set (by omega)] at hl ⊢
    rcases hl with rfl | hl
    ·exact .inr (hal j hj ht)
    ·exact .inr (hc x j hx hj hl ht)
   have htl':∀ x,m≤x→x<pis.length→¬ Lst (listed.setIfInBounds i true) x:=by
    intro x hx hxn hl
    rw [lst_set (by omega)] at hl
    rcases hl with rfl | hl
    ·omega
    ·exact htl x hx hxn hl
   have hu':unl pis.length (listed.setIfInBounds i true)≤fuel:=by
    have:=unl_set hin (by omega:i<listed.size) hun;omega
   have hsg:∀ x,x<m→(pin pis x).i.silent=true→(∀ j,j<pis.length→tb bs x j=true→Lst listed j)→sgx bs ls x≤k:=by
    intro x hx hs hal'
    refine Classical.byContradiction fun hlt=>?_
    have h1:sgx bs ls x≤ls.length:=List.length_filter_le _ _
    have h2:k<ls.length:=by omega
    have h3:=(hX.sil x k ls[k] hx hs (List.getElem?_eq_getElem h2)).2 (by omega)
    have h4:=hal' ls[k] (by have:=(hX.lsm _ (List.getElem_mem h2)).1;omega) h3
    have:=(hlo k ls[k] (List.getElem?_eq_getElem h2)).1 h4
    omega
   simp only [wpOp,ho]
   by_cases hs:p.i.silent=true
   ·
    have hsi:(pin pis i).i.silent=true:=by rw [hpin];exact hs
    have hf:=hfa i him hsi (hsg i him hsi hal) hun
    rw [hpin] at hf
    refine opG0 hcp hS hF hok (fact_GI hf) ?_
    intro r σ' μ' a' w' k1 k2 k3 k4
    simp only [St.mk.injEq] at k1
    obtain ⟨k1,rfl⟩:=k1
    rw [k1] at k3
    have e:updI (winf pis m listed) p=winf pis m (listed.setIfInBounds i true):=by rw [← hpin];exact hX.updI him (by omega)
    rw [e] at k3
    refine ih k _ fr σ' w' μ' a' (by simpa using hsz) (fun f hf=>(lst_set (by omega)).2 (.inr (hfl f hf))) hclos' htl' hk (fun j L hL=>?_) (fun x hx hxs hxk hxl=>hfa x hx hxs hxk fun h=>hxl ((lst_set (by omega)).2 (.inr h))) hre hu' k2 k3 (hkn.trans k4.toN)
    rw [lst_set (by omega),hlo j L hL]
    have:L≠i:=fun e=>by
     have:=(hX.lsm L (List.mem_of_getElem? hL)).2
     rw [e,hsi] at this;simp at this
    simp [this]
   ·
    have hsi:(pin pis i).i.silent=false:=by rw [hpin];simpa using hs
    obtain ⟨j,hj⟩:=List.mem_iff_getElem?.1 ((hX.loud i him hsi).resolve_right fun h=>hun (hfl i h))
    have hjk:j=k:=by
     have h1:¬ j<k:=fun h=>hun ((hlo j i hj).2 h)
     refine Classical.byContradiction fun hne=>?_
     have hjl:=(List.getElem?_eq_some_iff.1 hj).1
     have hkl:k<ls.length:=by omega
     have h2:=hX.lord k j i ls[k] (by omega) (List.getElem?_eq_getElem hkl) hj
     have h3:=hal ls[k] (by have:=(hX.lsm _ (List.getElem_mem hkl)).1;omega) h2
     have:=(hlo k ls[k] (List.getElem?_eq_getElem hkl)).1 h3
     omega
    subst hjk
    have hjl:j<ls.length:=(List.getElem?_eq_some_iff.1 hj).1
    simp only [RestD,hj,hpin] at hre
    refine opG hcp hS hF hok hre ?_
    intro r σ' μ' a' w' k1 k2 k3 k4
    obtain ⟨hchk,hrun⟩:=k1
    obtain ⟨fr',h1,h2,h3,h4⟩:=hX.openD (k:=j+1) (by omega) hrun
    have e:updI (winf pis m listed) p=winf pis m (listed.setIfInBounds i true):=by rw [← hpin];exact hX.updI him (by omega)
    rw [e] at k3
    have hnew:∀ x∈silX pis bs m ls (j+1),¬ Lst (listed.setIfInBounds i true) x:=by
     intro x hx hl
     rw [mem_silX] at hx
     rw [lst_set (by omega)] at hl
     rcases hl with rfl | hl
     ·rw [hsi] at hx;simp at hx
     ·have:=hsg x hx.1 hx.2.1 fun y hy ht=>hc x y (by omega) hy hl ht
      omega
    have hagree:∀ t y,y<m→(pin pis y).d=some t→Lst (listed.setIfInBounds i true) y→fr'[t]?=(setd fr p.d r)[t]?:=by
     intro t y hy hd hl
     refine h3 t fun x hx hxd=>hnew x hx ?_
     rw [hX.dst x y t (mem_silX.1 hx).1 hy hxd hd];exact hl
    have hF':FRi w' σ' μ' fr' (winf pis m (listed.setIfInBounds i true)) a':=by
     refine ⟨k3.1,by rw [h4];exact k3.2.1,fun t x hx ch hch=>?_⟩
     have hxt:fr'[t]?=(setd fr p.d r)[t]?:=by
      rcases winf_cases hch with ⟨_,hno⟩ | ⟨y,hy,hd,hl,_⟩
      ·exact h3 t fun x hx=>hno x (mem_silX.1 hx).1
      ·exact hagree t y hy hd hl
     have hcc:chainB fr' ch=chainB (setd fr p.d r) ch:=by
      refine chainB_agree fun q hq=>?_
      rcases winf_cases hch with ⟨rfl,_⟩ | ⟨y,hy,hd,hl,rfl⟩
      ·simp at hq
      ·obtain ⟨z,hz,hzd,hzt⟩:=hX.chain y q hy hq
       exact hagree q.1 z hz hzd (hclos' y z (by omega) (by omega) hl hzt)
     rw [hcc]
     rw [hxt] at hx
     exact k3.2.2 t x hx ch hch
    refine ih (j+1) _ fr' σ' w' μ' a' (by simpa using hsz) (fun f hf=>(lst_set (by omega)).2 (.inr (hfl f hf))) hclos' htl' (by omega) (fun y L hL=>?_) (fun x hx hxs hxk hxl=>?_) h1 hu' k2 hF' (hkn.trans k4.toN)
    ·rw [lst_set (by omega),hlo y L hL]
     constructor
     ·rintro (rfl | h)
      ·refine Classical.byContradiction fun hne=>?_
       have h5:=hX.lord j y L L (by omega) hj hL
       have:=hX.lt him him h5
       omega
      ·omega
     ·intro h
      rcases Nat.lt_or_ge y j with h5 | h5
      ·exact .inr h5
      ·have:y=j:=by omega
       subst this
       rw [hL] at hj
       simp only [Option.some.injEq] at hj
       exact .inl hj
    ·by_cases hxj:sgx bs ls x=j+1
     ·exact h2 x (mem_silX.2 ⟨hx,hxs,hxj⟩)
     ·have hxj':sgx bs ls x≤j:=by omega
      have hxun:¬ Lst listed x:=fun h=>hxl ((lst_set (by omega)).2 (.inr h))
      have hnot:¬ tb bs i x=true:=fun h=>hxun (hal x (by omega) h)
      have hf2:Fact (pin pis x) (setd fr p.d r) σ':=by
       by_cases hr:(pin pis x).i.reads=true
       ·exact (hchk (pin pis x) (List.mem_map.2 ⟨x,by simp [chkX,hx,hxs,hr,hxj',hnot],rfl⟩)).fact
       ·have hr':(pin pis x).i.reads=false:=by simpa using hr
        refine Fact.still (Fact.agree (hfa x hx hxs hxj' hxun) (fun t ht=>?_) (fun t ht=>?_) setd_len) hr'
        ·refine setd_other fun hd=>?_
         have h5:=hX.looks_tb hx him (hpin▸hd) ht
         have:=(hX.sil x j i hx hxs hj).1 h5
         omega
        ·refine setd_other fun hd=>?_
         have:=hX.dst x i t hx him ht (hpin▸hd)
         subst this
         rw [hxs] at hsi;simp at hsi
      refine Fact.agree hf2 (fun t ht=>?_) (fun t ht=>?_) h4
      ·refine h3 t fun y hy hyd=>?_
       rw [mem_silX] at hy
       have:=hX.mono x y t hx hxs hy.1 hy.2.1 hyd ht
       omega
      ·refine h3 t fun y hy hyd=>?_
       rw [mem_silX] at hy
       have:=hX.dst x y t hx hy.1 ht hyd
       subst this
       omega
end
def okX (ops:Array Oper) (pis:List Pi) (bs:List Nat) (m:Nat) (ls fl:List Nat):Bool :=
 decide (m≤pis.length) &&
 (((List.range ops.size).all fun i=>match ops[i]? with
  | some o=>o.after.toList.all fun e=>!Region.binds .any e||decide (e.on<i)
  | none=>true) &&
 (((List.range pis.length).all fun i=>(List.range pis.length).all fun j=>!tb bs i j||(decide (j<i)&&match ops[i]? with
  | some o=>o.after.toList.any fun e=>Region.binds .any e&&(e.on==j||tb bs e.on j)
  | none=>false)) &&
 (((List.range pis.length).all fun i=>decide (i<m)||(List.range i).all fun j=>tb bs i j) &&
 (((List.range m).all fun i=>(List.range i).all fun j=>match (pin pis i).d with
  | none=>true
  | some t=>(pin pis j).d != some t) &&
 (((List.range m).all fun i=>(pin pis i).i.silent||(ls.contains i||fl.contains i)) &&
 ((ls.all fun L=>decide (L<m)&&!(pin pis L).i.silent) &&
 (((List.range ls.length).all fun k=>(List.range k).all fun j=>tb bs (ls.getD k 0) (ls.getD j 0)) &&
 (((List.range m).all fun i=>!(pin pis i).i.silent||(List.range ls.length).all fun k=>tb bs i (ls.getD k 0)==decide (k<sgx bs ls i)) &&
 (((List.range m).all fun i=>(pin pis i).i.slots.all fun s=>(List.range m).all fun j=>(pin pis j).d != some s.1||(tb bs i j&&(pin pis j).g.isPrefixOf ((pin pis i).g++s.2))) &&
 (((List.range m).all fun i=>(pin pis i).g.all fun q=>(List.range m).any fun j=>(pin pis j).d==some q.1&&tb bs i j) &&
 (((List.range m).all fun i=>match (pin pis i).g.getLast? with
  | none=>true
  | some q=>(List.range m).all fun j=>(pin pis j).d != some q.1||(pin pis j).g==(pin pis i).g.dropLast) &&
 ((List.range m).all fun i=>!(pin pis i).i.silent||(List.range m).all fun j=>!(pin pis j).i.silent||match (pin pis j).d with
  | none=>true
  | some t=>!(looks (pin pis i)).contains t||decide (sgx bs ls j≤sgx bs ls i)))))))))))))
section
variable {P:Program} {ops:Array Oper} {pis:List Pi} {bs:List Nat} {m:Nat} {ls fl:List Nat}
theorem getD_of {ls:List Nat} {k L:Nat} (h:ls[k]?=some L):ls.getD k 0=L:=by rw [List.getD_eq_getElem?_getD,h];rfl
theorem okX_ok (h:okX ops pis bs m ls fl=true) (_hn:pis.length=ops.size):XOK ops pis bs m ls fl:=by
 simp only [okX,Bool.and_eq_true,List.all_eq_true,List.mem_range,decide_eq_true_eq] at h
 obtain ⟨h1,h2,h3,h4,h5,h6,h7,h8,h9,h10,h11,h12,h13⟩:=h
 constructor
 ·exact h1
 ·intro i o ho e he hb
  have:=h2 i (Array.getElem?_eq_some_iff.1 ho).1
  rw [ho] at this
  simp only [List.all_eq_true,Bool.or_eq_true,Bool.not_eq_true',decide_eq_true_eq] at this
  rcases this e (Array.mem_toList_iff.2 he) with h | h
  ·rw [hb] at h;simp at h
  ·exact h
 ·intro i j hi hj ht
  have:=h3 i hi j hj
  rw [ht] at this
  simp only [Bool.not_true,Bool.false_or,Bool.and_eq_true,decide_eq_true_eq] at this
  refine ⟨this.1,?_⟩
  have h:=this.2
  split at h
  ·rename_i o ho
   simp only [List.any_eq_true,Bool.and_eq_true,Bool.or_eq_true,beq_iff_eq] at h
   obtain ⟨e,he,hb,hor⟩:=h
   exact ⟨o,ho,e,Array.mem_toList_iff.1 he,hb,hor⟩
  ·simp at h
 ·intro i j hmi hi hj
  have:=h4 i hi
  simp only [Bool.or_eq_true,decide_eq_true_eq,List.all_eq_true,List.mem_range] at this
  rcases this with h | h
  ·omega
  ·exact h j hj
 ·intro i j t hi hj hdi hdj
  have key:∀ i j,i<m→j<i→(pin pis i).d=some t→(pin pis j).d=some t→False:=by
   intro i j hi hj hdi hdj
   have:=h5 i hi j hj
   rw [hdi] at this
   simp only [bne_iff_ne,ne_eq] at this
   exact this hdj
  rcases Nat.lt_trichotomy i j with h | h | h
  ·exact (key j i hj h hdj hdi).elim
  ·exact h
  ·exact (key i j hi h hdi hdj).elim
 ·intro i hi hs
  have:=h6 i hi
  rw [hs] at this
  simpa using this
 ·intro L hL
  have:=h7 L hL
  simpa using this
 ·intro j k L L' hjk hL' hL
  have:=h8 k (List.getElem?_eq_some_iff.1 hL).1 j hjk
  rwa [getD_of hL,getD_of hL'] at this
 ·intro i k L hi hs hL
  have:=h9 i hi
  rw [hs] at this
  simp only [Bool.not_true,Bool.false_or,List.all_eq_true,List.mem_range,beq_iff_eq] at this
  have:=this k (List.getElem?_eq_some_iff.1 hL).1
  rw [getD_of hL] at this
  rw [this];simp
 ·intro i s j hi hs hj hd
  have:=h10 i hi s hs j hj
  simp only [Bool.or_eq_true,bne_iff_ne,ne_eq,Bool.and_eq_true] at this
  rcases this with h | h
  ·exact absurd hd h
  ·exact h
 ·intro i q hi hq
  have:=h11 i hi q hq
  simp only [List.any_eq_true,List.mem_range,Bool.and_eq_true,beq_iff_eq] at this
  obtain ⟨j,hj,h⟩:=this
  exact ⟨j,hj,h⟩
 ·intro i ch t b j hi hg hj hd
  have:=h12 i hi
  rw [hg] at this
  simp only [List.getLast?_append,List.getLast?_singleton,Option.some_or,List.dropLast_concat,List.all_eq_true,List.mem_range,Bool.or_eq_true,bne_iff_ne,ne_eq,beq_iff_eq] at this
  rcases this j hj with h | h
  ·exact absurd hd h
  ·exact h
 ·intro i j t hi hs hj hsj hd ht
  have:=h13 i hi
  rw [hs] at this
  simp only [Bool.not_true,Bool.false_or,List.all_eq_true,List.mem_range] at this
  have:=this j hj
  rw [hsj,hd] at this
  simp only [Bool.not_true,Bool.false_or,Bool.or_eq_true,Bool.not_eq_true',decide_eq_true_eq] at this
  rcases this with h | h
  ·simp at h;exact absurd ht h
  ·exact h
def mX (bs:List Nat):Nat→Nat
 | 0=>0
 | i+1=>if bs.getD i 0==2^i - 1 then mX bs i else i+1
theorem region_drawA {n B:Nat} {gs:List Nat} {K:St→Prop} {Q:Exit→Act→World→Prop} (hp:cPis P ops ops.toList=some pis) (hok:okX ops pis bs m ls []=true)
  (ht:okL (D0 pis m) (pis.drop m) gs=true) {fr:List V} {σ:Store} {w0 w:World} {μ:Mem} {a:Act}
  (h:runD P (stX pis bs m ls 0 ls) ((silX pis bs m ls ls.length).map (pin pis)) (runC P gs (pis.drop m) K) ⟨fr,σ⟩)
  (hS:Sim P B w0 w σ μ) (hF:FR w σ μ fr a)
  (hQ:∀ st' w' μ' a',K st'→Sim P B w0 w' st'.σ μ'→FR w' st'.σ μ' st'.fr a'→KeepN n w σ μ w' st'.σ μ'→Q .normal a' w'):wpAny P .any ops Q ops.size (Array.replicate ops.size false) a { w with drawn:=w.drawn+1 }:=by
 have hn:pis.length=ops.size:=by rw [(cPis_at hp).1,Array.length_toList]
 have hX:=okX_ok hok hn
 obtain ⟨hS',hpr⟩:=hS.grown (w':={ w with drawn:=w.drawn+1 }) ⟨rfl,rfl,rfl,Nat.le_refl _,fun _ _ _=>rfl⟩
 have hF':=hF.keep hpr.keep
 obtain ⟨fr',h1,h2,h3,h4⟩:=hX.openD (k:=0) (Nat.zero_le _) (by simpa using h)
 have hnl:∀ i,¬ Lst (Array.replicate ops.size false) i:=by
  intro i
  simp only [Lst,Array.getD_eq_getD_getElem?,Array.getElem?_replicate]
  split<;>simp
 refine prefix_sound (n:=n) hX hp (fun st' w' μ' a' k1 k2 k3 k4=>hQ st' w' μ' a' k1 k2 k3 (KeepN.trans hpr.keep.toN k4)) ht ops.size 0 _ fr' σ _ μ a (by simp) (by simp) (fun i j _ _ hl=>absurd hl (hnl i)) (fun i _ _=>hnl i) (Nat.zero_le _)
  (fun j L hL=>⟨fun hl=>absurd hl (hnl L),fun h=>by omega⟩) (fun i hi hs hsg _=>h2 i (mem_silX.2 ⟨hi,hs,by omega⟩)) h1 (by rw [hn];unfold unl;exact Nat.le_trans (List.length_filter_le _ _) (by simp)) hS' ?_ (KeepN.refl _ _ _ _)
 refine ⟨hF'.1,by rw [h4];exact hF'.2.1,fun t x hx ch hch=>?_⟩
 rcases winf_cases hch with ⟨rfl,hno⟩ | ⟨y,hy,hd,hl,_⟩
 ·rw [h3 t fun i hi=>hno i (mem_silX.1 hi).1] at hx
  exact ⟨fun _=>hF'.2.2 t x hx,fun h=>by simp [chainB] at h⟩
 ·exact absurd hl (hnl y)
theorem region_draw {id n B:Nat} {gs:List Nat} {K:St→Prop} {Q:Exit→Act→World→Prop} (hm:P.follows .mixedOrders=true) (hp:cPis P ops ops.toList=some pis) (hok:okX ops pis bs m ls []=true)
  (ht:okL (D0 pis m) (pis.drop m) gs=true) {fr:List V} {σ:Store} {w0 w:World} {μ:Mem} {a:Act}
  (h:runD P (stX pis bs m ls 0 ls) ((silX pis bs m ls ls.length).map (pin pis)) (runC P gs (pis.drop m) K) ⟨fr,σ⟩)
  (hS:Sim P B w0 w σ μ) (hF:FR w σ μ fr a)
  (hQ:∀ st' w' μ' a',K st'→Sim P B w0 w' st'.σ μ'→FR w' st'.σ μ' st'.fr a'→KeepN n w σ μ w' st'.σ μ'→Q .normal a' w'):(Code.region id ops true).wp P Q a w :=
 wp_region_any hm (region_drawA hp hok ht h hS hF hQ)
end
def holdOp (o:Oper) (j:Nat):Oper:={ o with after:=o.after.push { on:=j,ground:=.data } }
def waitsFor (ops:Array Oper) (i j:Nat):Array Oper:=ops.mapIdx fun k o=>if k=i then holdOp o j else o
theorem waitsFor_size (ops:Array Oper) (i j:Nat):(waitsFor ops i j).size=ops.size:=by simp [waitsFor]
theorem waitsFor_get (ops:Array Oper) (i j k:Nat):(waitsFor ops i j)[k]?=(ops[k]?).map fun o=>if k=i then holdOp o j else o:=by
 simp [waitsFor]
theorem ready_waits {md:Region.Mode} {ops:Array Oper} {listed:Array Bool} {i j x:Nat}:x∈Region.ready md (waitsFor ops i j) listed↔x∈Region.ready md ops listed∧(x=i→listed.getD j false=true):=by
 simp only [Region.ready,List.mem_filter,List.mem_range,waitsFor_size,waitsFor_get]
 rw [and_assoc]
 refine and_congr_right fun hx=>?_
 have ho:ops[x]?=some ops[x]:=Array.getElem?_eq_getElem hx
 simp only [ho,Option.map_some,Option.getD_some]
 by_cases hxi:x=i
 ·subst hxi
  have hb:Region.binds md { on:=j,ground:=Ground.data }=true:=rfl
  simp only [if_true,holdOp,Array.all_push,hb,Bool.not_true,Bool.false_or,Bool.and_eq_true,forall_const]
  constructor
  ·rintro ⟨h1,h2,h3⟩;exact ⟨⟨h1,h2⟩,h3⟩
  ·rintro ⟨⟨h1,h2⟩,h3⟩;exact ⟨h1,h2,h3⟩
 ·simp only [hxi,if_false,false_imp_iff,and_true]
theorem yielded_waits (ops:Array Oper) (i j:Nat) (tmps:Array Value):yielded (waitsFor ops i j) tmps=yielded ops tmps:=by
 funext k
 simp only [yielded,waitsFor_get]
 cases ops[k]? with
 | none=>rfl
 | some o =>
  simp only [Option.map_some,Option.bind_some]
  by_cases h:k=i<;>simp [h,holdOp]
section
variable {P:Program} {Q:Exit→Act→World→Prop}
theorem wpOp_waits {ops:Array Oper} {i j x:Nat} {K:Act→World→Prop} {a:Act} {w:World}:wpOp P (waitsFor ops i j) Q x K a w↔wpOp P ops Q x K a w:=by
 simp only [wpOp,waitsFor_get,yielded_waits]
 cases ops[x]? with
 | none=>exact Iff.rfl
 | some o =>
  simp only [Option.map_some]
  by_cases h:x=i
  ·simp only [h,if_true];exact Iff.rfl
  ·simp only [h,if_false]
def plainOp:Op→Bool
 | .move _ | .assign _ | .alloc _ | .box _ _ | .load _ _ | .store _ _ _ | .fieldAddr _ _ _=>true
 | _=>false
theorem runs_value {s:Sem Value} {w w':World} {n:Next} (h:(do pure (Next.value (← s)):Sem Next).run P w=.ok n w'):∃ v,n=.value v:=by
 rw [Sem.run_bind] at h
 cases hs:s.run P w with
 | ok v w1 =>
  rw [hs] at h
  simp only [Result.andThen_ok,Sem.run_pure,Result.ok.injEq] at h
  exact ⟨v,h.1.symm⟩
 | halt x w1=>rw [hs] at h;simp [Result.andThen] at h
theorem runs_unit {s:Sem Unit} {w w':World} {n:Next} (h:(do s;pure Next.skip:Sem Next).run P w=.ok n w'):n=.skip:=by
 rw [Sem.run_bind] at h
 cases hs:s.run P w with
 | ok v w1 =>
  rw [hs] at h
  simp only [Result.andThen_ok,Sem.run_pure,Result.ok.injEq] at h
  exact h.1.symm
 | halt x w1=>rw [hs] at h;simp [Result.andThen] at h
theorem exec_plain {o:Oper} {ρ:Operand→Value} {w w':World} {n:Next} (hp:plainOp o.op=true) (h:(execOp ρ o).run P w=.ok n w'):(∃ v,n=.value v)∨n=.skip:=by
 obtain ⟨d,op,t,p,af,g⟩:=o
 simp only at hp
 cases op<;>simp only [plainOp,Bool.false_eq_true] at hp
 all_goals simp only [execOp] at h
 all_goals first
  | exact .inl (runs_value h)
  | exact .inr (runs_unit h)
  | (simp only [Sem.run_pure,Result.ok.injEq] at h;exact .inl ⟨_,h.1.symm⟩)
theorem wp_and {o:Oper} (hp:plainOp o.op=true) {a:Act} {w:World} {K1 K2:Act→World→Prop} (h1:o.wp P a w K1 Q) (h2:o.wp P a w K2 Q):o.wp P a w (fun a w=>K1 a w∧K2 a w) Q:=by
 unfold Oper.wp at *
 generalize hr:(execOp a.eval o).run P w=r at *
 cases r with
 | ok n w' =>
  rcases exec_plain hp hr with ⟨v,rfl⟩ | rfl
  ·exact ⟨h1,h2⟩
  ·exact ⟨h1,h2⟩
 | halt x w'=>cases x<;>simp only [Oper.upon] at h1 h2 ⊢<;>exact h1
theorem wpOp_and {ops:Array Oper} {x:Nat} (hp:∀ o,ops[x]?=some o→plainOp o.op=true) {K1 K2:Act→World→Prop} {a:Act} {w:World} (h1:wpOp P ops Q x K1 a w) (h2:wpOp P ops Q x K2 a w) :
  wpOp P ops Q x (fun a w=>K1 a w∧K2 a w) a w:=by
 unfold wpOp at *
 cases ho:ops[x]? with
 | none=>simp only [ho] at h1 h2 ⊢;exact ⟨h1,h2⟩
 | some o =>
  simp only [ho] at h1 h2 ⊢
  split
  ·rename_i hw
   simp only [hw,if_true] at h1 h2
   rcases h1 with h1 | h1
   ·rcases h2 with h2 | h2
    ·exact .inl (wp_and (hp o ho) h1 h2)
    ·exact .inr h2
   ·exact .inr h1
  ·rename_i hw
   simp only [hw] at h1 h2
   exact ⟨h1,h2⟩
theorem wpAny_done_wait {md:Region.Mode} {ops:Array Oper} {i j:Nat}:∀ (fuel:Nat) (listed:Array Bool) (a:Act) (w:World),listed.getD j false=true→wpAny P md (waitsFor ops i j) Q fuel listed a w→wpAny P md ops Q fuel listed a w:=by
 intro fuel
 induction fuel with
 | zero =>
  intro listed a w hj h
  refine ⟨?_,h.2⟩
  refine List.eq_nil_iff_forall_not_mem.2 fun x hx=>?_
  exact List.eq_nil_iff_forall_not_mem.1 h.1 x (ready_waits.2 ⟨hx,fun _=>hj⟩)
 | succ fuel ih =>
  intro listed a w hj h
  refine ⟨fun hn=>h.1 (List.eq_nil_iff_forall_not_mem.2 fun x hx=>List.eq_nil_iff_forall_not_mem.1 hn x (ready_waits.1 hx).1),fun x hx=>?_⟩
  have:=h.2 x (ready_waits.2 ⟨hx,fun _=>hj⟩)
  rw [wpOp_waits] at this
  refine wpOp_mono (fun a w hk=>ih _ a w ?_ hk) this
  simp only [Array.getD_eq_getD_getElem?] at hj ⊢
  by_cases hxj:x=j
  ·subst hxj
   by_cases hs:x<listed.size
   ·simp [Array.getElem?_setIfInBounds,hs]
   ·rw [Array.getElem?_eq_none (by omega)] at hj;simp at hj
  ·rw [Array.getElem?_setIfInBounds_ne hxj];exact hj
theorem wpAny_split {md:Region.Mode} {ops:Array Oper} {i j:Nat} (hij:i≠j) (hp:∀ x o,x≠i→x≠j→ops[x]?=some o→plainOp o.op=true) :
  ∀ (fuel:Nat) (listed:Array Bool) (a:Act) (w:World),listed.size=ops.size→i<ops.size→j<ops.size→wpAny P md (waitsFor ops i j) Q fuel listed a w→wpAny P md (waitsFor ops j i) Q fuel listed a w→wpAny P md ops Q fuel listed a w:=by
 intro fuel
 induction fuel with
 | zero =>
  intro listed a w hsz hi hj h1 h2
  refine ⟨?_,h1.2⟩
  refine List.eq_nil_iff_forall_not_mem.2 fun x hx=>?_
  by_cases hx1:x=i
  ·exact List.eq_nil_iff_forall_not_mem.1 h2.1 x (ready_waits.2 ⟨hx,fun e=>absurd (hx1.symm.trans e) hij⟩)
  ·exact List.eq_nil_iff_forall_not_mem.1 h1.1 x (ready_waits.2 ⟨hx,fun e=>absurd e hx1⟩)
 | succ fuel ih =>
  intro listed a w hsz hi hj h1 h2
  refine ⟨fun hn=>h1.1 (List.eq_nil_iff_forall_not_mem.2 fun x hx=>List.eq_nil_iff_forall_not_mem.1 hn x (ready_waits.1 hx).1),fun x hx=>?_⟩
  by_cases hx1:x=i
  ·have:=h2.2 x (ready_waits.2 ⟨hx,fun e=>absurd (hx1.symm.trans e) hij⟩)
   rw [wpOp_waits] at this
   refine wpOp_mono (fun a w hk=>wpAny_done_wait fuel _ a w ?_ hk) this
   subst hx1
   simp [Array.getD_eq_getD_getElem?,Array.getElem?_setIfInBounds,hsz,hi]
  ·by_cases hx2:x=j
   ·have:=h1.2 x (ready_waits.2 ⟨hx,fun e=>absurd e hx1⟩)
    rw [wpOp_waits] at this
    refine wpOp_mono (fun a w hk=>wpAny_done_wait fuel _ a w ?_ hk) this
    subst hx2
    simp [Array.getD_eq_getD_getElem?,Array.getElem?_setIfInBounds,hsz,hj]
   ·have k1:=h1.2 x (ready_waits.2 ⟨hx,fun e=>absurd e hx1⟩)
    have k2:=h2.2 x (ready_waits.2 ⟨hx,fun e=>absurd e hx2⟩)
    rw [wpOp_waits] at k1 k2
    refine wpOp_mono (fun a w hk=>ih _ a w (by simp [hsz]) hi hj hk.1 hk.2) (wpOp_and (fun o ho=>hp x o hx1 hx2 ho) k1 k2)
end
def sw (i j k:Nat):Nat:=if k=i then j else if k=j then i else k
theorem sw_sw (i j k:Nat):sw i j (sw i j k)=k:=by
 simp only [sw]
 (repeat' split)<;>omega
theorem sw_lt {i j k n:Nat} (hi:i<n) (hj:j<n):sw i j k<n↔k<n:=by
 simp only [sw]
 (repeat' split)<;>omega
def renOp (i j:Nat) (o:Oper):Oper:={ o with after:=o.after.map fun e=>{ e with on:=sw i j e.on },guard:=o.guard.map fun g=>(sw i j g.1,g.2) }
def swOps (ops:Array Oper) (i j:Nat):Array Oper:=ops.mapIdx fun k o=>renOp i j ((ops[sw i j k]?).getD o)
theorem swOps_size (ops:Array Oper) (i j:Nat):(swOps ops i j).size=ops.size:=by simp [swOps]
theorem swOps_get {ops:Array Oper} {i j:Nat} (hi:i<ops.size) (hj:j<ops.size) (k:Nat):(swOps ops i j)[k]?=(ops[sw i j k]?).map (renOp i j):=by
 simp only [swOps,Array.getElem?_mapIdx]
 by_cases hk:k<ops.size
 ·have hk2:=(sw_lt (k:=k) hi hj).2 hk
  simp [Array.getElem?_eq_getElem hk,Array.getElem?_eq_getElem hk2]
 ·have hk2:¬ sw i j k<ops.size:=fun h=>hk ((sw_lt hi hj).1 h)
  rw [Array.getElem?_eq_none (by omega),Array.getElem?_eq_none (by omega)]
  rfl
theorem binds_on (md:Region.Mode) (e:Edge) (n:Nat):Region.binds md { e with on:=n }=Region.binds md e:=rfl
theorem ready_sw {md:Region.Mode} {ops:Array Oper} {listed listed':Array Bool} {i j:Nat} (hi:i<ops.size) (hj:j<ops.size) (hL:∀ k d,listed'.getD k d=listed.getD (sw i j k) d) {x:Nat} :
  x∈Region.ready md (swOps ops i j) listed'↔sw i j x∈Region.ready md ops listed:=by
 simp only [Region.ready,List.mem_filter,List.mem_range,swOps_size,swOps_get hi hj,sw_lt hi hj,hL]
 refine and_congr_right fun hx=>?_
 have hx2:=(sw_lt (k:=x) hi hj).2 hx
 simp only [Array.getElem?_eq_getElem hx2,Option.map_some,Option.getD_some,renOp,Array.all_map,Function.comp_def,binds_on,sw_sw]
theorem yielded_sw {ops:Array Oper} {i j:Nat} (hi:i<ops.size) (hj:j<ops.size) (tmps:Array Value) (k:Nat):yielded (swOps ops i j) tmps (sw i j k)=yielded ops tmps k:=by
 simp only [yielded,swOps_get hi hj,sw_sw]
 cases ops[k]?<;>rfl
section
variable {P:Program} {Q:Exit→Act→World→Prop}
theorem wpOp_sw {ops:Array Oper} {i j x:Nat} (hi:i<ops.size) (hj:j<ops.size) {K:Act→World→Prop} {a:Act} {w:World}:wpOp P (swOps ops i j) Q x K a w↔wpOp P ops Q (sw i j x) K a w:=by
 simp only [wpOp,swOps_get hi hj]
 cases ops[sw i j x]? with
 | none=>exact Iff.rfl
 | some o =>
  simp only [Option.map_some]
  have hw:Region.wanted (renOp i j o) (yielded (swOps ops i j) a.tmps)=Region.wanted o (yielded ops a.tmps):=by
   obtain ⟨d,op,t,p,af,g⟩:=o
   cases g with
   | none=>rfl
   | some g=>simp only [Region.wanted,renOp,Option.map_some,yielded_sw hi hj]
  rw [hw]
  exact Iff.rfl
theorem wpAny_sw {md:Region.Mode} {ops:Array Oper} {i j:Nat} (hi:i<ops.size) (hj:j<ops.size):∀ (fuel:Nat) (listed listed':Array Bool) (a:Act) (w:World),listed.size=ops.size→listed'.size=ops.size→(∀ k d,listed'.getD k d=listed.getD (sw i j k) d) →
  wpAny P md (swOps ops i j) Q fuel listed' a w→wpAny P md ops Q fuel listed a w:=by
 intro fuel
 induction fuel with
 | zero =>
  intro listed listed' a w hs hs' hL h
  refine ⟨?_,h.2⟩
  refine List.eq_nil_iff_forall_not_mem.2 fun x hx=>?_
  exact List.eq_nil_iff_forall_not_mem.1 h.1 (sw i j x) ((ready_sw hi hj hL).2 (by rw [sw_sw];exact hx))
 | succ fuel ih =>
  intro listed listed' a w hs hs' hL h
  refine ⟨fun hn=>h.1 (List.eq_nil_iff_forall_not_mem.2 fun x hx=>List.eq_nil_iff_forall_not_mem.1 hn _ ((ready_sw hi hj hL).1 hx)),fun x hx=>?_⟩
  have:=h.2 (sw i j x) ((ready_sw hi hj hL).2 (by rw [sw_sw];exact hx))
  rw [wpOp_sw hi hj,sw_sw] at this
  have hxl:x<ops.size:=by
   simp only [Region.ready,List.mem_filter,List.mem_range] at hx
   exact hx.1
  refine wpOp_mono (fun a w hk=>ih _ _ a w (by simp [hs]) (by simp [hs']) (fun k d=>?_) hk) this
  have h1:=hL k d
  simp only [Array.getD_eq_getD_getElem?] at h1 ⊢
  have hx2:=(sw_lt (k:=x) hi hj).2 hxl
  by_cases hk:sw i j x=k
  ·subst hk
   rw [sw_sw,Array.getElem?_setIfInBounds_self_of_lt (by omega),Array.getElem?_setIfInBounds_self_of_lt (by omega)]
  ·have hk2:x≠sw i j k:=fun e=>hk (by rw [e,sw_sw])
   rw [Array.getElem?_setIfInBounds_ne hk,Array.getElem?_setIfInBounds_ne hk2]
   exact h1
theorem region_split {ops:Array Oper} {id i j:Nat} {a:Act} {w:World} (hm:P.follows .mixedOrders=true) (hij:i≠j) (hi:i<ops.size) (hj:j<ops.size) (hp:∀ x o,x≠i→x≠j→ops[x]?=some o→plainOp o.op=true)
  (h1:wpAny P .any (waitsFor ops j i) Q ops.size (Array.replicate ops.size false) a { w with drawn:=w.drawn+1 })
  (h2:wpAny P .any (swOps (waitsFor ops i j) i j) Q ops.size (Array.replicate ops.size false) a { w with drawn:=w.drawn+1 }):(Code.region id ops true).wp P Q a w:=by
 refine wp_region_any hm (wpAny_split hij hp _ _ _ _ (by simp) hi hj ?_ h1)
 refine wpAny_sw (by rw [waitsFor_size];exact hi) (by rw [waitsFor_size];exact hj) _ _ _ _ _ (by simp [waitsFor_size]) (by simp [waitsFor_size]) (fun k d=>?_) h2
 simp only [Array.getD_eq_getD_getElem?,Array.getElem?_replicate,sw_lt hi hj]
end
end Go.Pm

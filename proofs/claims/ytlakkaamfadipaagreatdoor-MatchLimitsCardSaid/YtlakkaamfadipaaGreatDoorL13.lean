/- A part of a proof; the claim's last text says of what. -/
import Derived.Orders
import Derived.Test.YtlakkaamfadipaaGreatDoorL12
set_option linter.all false

namespace Go.Pm
open Go Go.RowKit
structure Pi where
 d:Option Nat
 g:List (Nat×Bool)
 i:I
def zm(d x:Nat):Pi:=⟨some d,[],.bg (.t x)⟩
def zl(d x:Nat):Pi:=⟨some d,[],.load none (.t x)⟩
def zL(d k x:Nat):Pi:=⟨some d,[],.load (some k) (.t x)⟩
def zf(d o x:Nat):Pi:=⟨some d,[],.gi o (.t x)⟩
def z(d:Nat)(i:I):Pi:=⟨some d,[],i⟩
def zs(i:I):Pi:=⟨none,[],i⟩
def rW(ops:Array Oper):Nat→Option (Nat×Bool)→Option (List (Nat×Bool))
 | _,none=>some []
 | 0,some _=>none
 | f+1,some (j,b)=>match ops[j]? with
  | some o=>match o.dst,rW ops f o.guard with
   | some t,some ch=>some (ch++[(t,b)])
   | _,_=>none
  | none=>none
def R4(P:Program)(ops:Array Oper)(o:Oper):Option Pi :=
 match rW ops 8 o.guard with
 | some g=>some ⟨o.dst,g,(compile P o).getD .stop⟩
 | none=>none
def nU(P:Program)(ops:Array Oper):List Oper→Option (List Pi)
 | []=>some []
 | o::os=>match R4 P ops o,nU P ops os with
  | some p,some ps=>some (p::ps)
  | _,_=>none
def c8(fr:List V):Option Nat→V→List V
 | none,_=>fr
 | some n,v=>fr.set n v
def Cj(P:Program)(f:Nat):Bool:=match P.funcs[f]? with
 | some fn=>fn.body.isSome&&fn.name != "runtime.NumGoroutine"
 | none=>false
def gK(P:Program)(p:Pi)(K:St→Prop)(st:St):Prop :=
 match p.i with
 | .call f args=>PC P f (args.map (ev st.fr)) st.J (fun r J'=>K ⟨c8 st.fr p.d r,J'⟩)
 | .jA x args=>match ev st.fr x with
  | .fn f caps=>Cj P f=true∧PC P f (args.map (ev st.fr)++caps) st.J (fun r J'=>K ⟨c8 st.fr p.d r,J'⟩)
  | _=>False
 | .next x=>match wo st.J (ev st.fr x)with
  | some (j,m,E,n,ps)=>(ps=[]→K ⟨c8 st.fr p.d (.fa [.b false]),st.J⟩)∧∀ q∈ps,K ⟨c8 st.fr p.d (.fa [.b true,.u,.u]),st.J.set j (.iter false m E n (ps.filter fun i=>i != q) (some q))⟩
  | none=>False
 | i=>match aJ st.fr st.J i with
  | some (ob,v)=>ob∧K ⟨c8 st.fr p.d v,st.J⟩
  | none=>match bC st.fr st.J i with
   | some (ob,v,J')=>ob∧K ⟨c8 st.fr p.d v,J'⟩
   | none=>False
theorem FR.put{w:World}{J:ae}{μ:Mem}{fr:List V}{a:Act}(h:FR w J μ fr a)(d:Option Nat){x:V}{v:Value}(hx:VR w J μ x v):FR w J μ (c8 fr d x) (a.put d v):=by
 cases d with
 | none=>exact h
 | some n =>
  obtain⟨h1,h2,h3⟩:=h;refine⟨h1,by simp[Act.put,c8,h2],fun i y hy=>?_⟩;simp only[c8]at hy;simp only[Act.put]
  by_cases hi:n=i
  ·subst hi
   by_cases hl:n<fr.length
   ·rw[ak hl]at hy;simp only[aa]at hy;subst hy;have:n<a.tmps.size:=by omega
    simpa[this]using hx
   ·rw[a7 (by simp;omega)]at hy;simp at hy
  ·rw[ay hi]at hy;have:=h3 i y hy;simp only[aZ,bS hi]at this ⊢;exact this
theorem Fa{P:Program}{o:Oper}{a:Act}{w:World}{f:Nat}{args:Array Operand}{ts:Array TypeId}{fn:Func}(ho:o.op=.call { callee:=.value (.func f),args,argTypes:=ts })(hf:P.funcs[f]?=some fn)(hb:fn.body.isSome=true)(hn:fn.name ≠ "runtime.NumGoroutine") :
  (execOp a.eval o).run P w=.ok (.enter f (args.map a.eval)) w:=by
 have h1:(fn.name == "runtime.NumGoroutine")=false:=by simpa using hn
 have h2:fn.body.isNone=false:=by cases hq:fn.body<;>simp_all
 simp only[execOp,ho,resolve,Act.eval,Deferred.ofValue,invoke,callFunc,Sem.run_bind,Sem.run_pure,Result.andThen_ok,run_program,hf,h1,h2,aG,aO,Fo,Fp]
theorem Dk{P:Program}{o:Oper}{a:Act}{w:World}{t f:Nat}{args:Array Operand}{ts:Array TypeId}{vs:Array Value}(ho:o.op=.call { callee:=.value (.tmp t),args,argTypes:=ts })(hv:a.tmps.getD t undef=.func (.func f) #[] vs)(hf:Cj P f=true):
  (execOp a.eval o).run P w=.ok (.enter f (args.map a.eval++vs)) w:=by
 unfold Cj at hf;split at hf
 ·rename_i fn wH;simp only[aP,kC,gC]at hf;have h1:(fn.name == "runtime.NumGoroutine")=false:=by simpa using hf.2
  have h2:fn.body.isNone=false:=by cases hq:fn.body<;>simp_all
  have he:a.eval (.tmp t)=.func (.func f) #[] vs:=hv;simp only[execOp,ho,resolve,he,Deferred.ofValue,invoke,callFunc,Sem.run_bind,Sem.run_pure,Result.andThen_ok,run_program,wH,h1,h2,aG,aO,Fo]
 ·simp at hf
theorem Eh{J:ae}{x:V}{j m E n:Nat}{ps:List Nat}(h:wo J x=some (j,m,E,n,ps)):x=.it j∧∃ c K es,J[j]?=some (.iter false m E n ps c)∧J[m]?=some (.map K E es)∧es.length=n:=by
 unfold wo at h;split at h
 ·rename_i j';split at h
  ·rename_i m' E' n' ps' c hj;split at h
   ·rename_i K E2 es hb;split at h
    ·rename_i hc;obtain⟨rfl,rfl⟩:=hc;simp only[aa,ao]at h;obtain⟨rfl,rfl,rfl,rfl,rfl⟩:=h;exact⟨rfl,c,K,es,hj,hb,rfl⟩
    ·simp at h
   ·simp at h
  ·simp at h
 ·simp at h
theorem Eg{P:Program}{o:Oper}{K:St→Prop}{st:St}{d:Option Nat}{B:Nat}{w0 w:World}{μ:Mem}{a:Act}{x0:Operand}{x:O}(du:o.op=.next x0 false)(hx:cO x0=some x)(hd:o.dst=d){j m E n:Nat}{ps:List Nat}(hn:wo st.J (ev st.fr x)=some (j,m,E,n,ps))
  (h:(ps=[]→K ⟨c8 st.fr d (.fa [.b false]),st.J⟩)∧∀ q∈ps,K ⟨c8 st.fr d (.fa [.b true,.u,.u]),st.J.set j (.iter false m E n (ps.filter fun i=>i != q) (some q))⟩)
  (hS:fe P B w0 w st.J μ) (hF:FR w st.J μ st.fr a) {Q:Exit→Act→World→Prop} :
  o.wp P a w (fun a' w'=>∃ st' μ',K st'∧fe P B w0 w' st'.J μ'∧FR w' st'.J μ' st'.fr a'∧kZ w st.J μ w' st'.J μ'∧(∃ v,a'=a.put o.dst v)∧∃ r,st'.fr=c8 st.fr d r) Q:=by
 obtain⟨h0,h3⟩:=h;obtain⟨hev,c,K0,es,hj,hb,hlen⟩:=Eh hn;have h1:=cn hF hx;rw[hev]at h1;obtain⟨r,bm,since,seen,q1,q2,q3,q4,q5,K3,E3,es3,ents,clock,q6,q7,q8,q9⟩:=hS.obj _ _ hj;rw[hb]at q6;simp only[aa,Ob.map.injEq]at q6;obtain⟨rfl,rfl,rfl⟩:=q6;obtain⟨q10,q11,q12⟩:=(q9 rfl).2 hlen;subst q10;obtain⟨r',ents',clock',hm',_,hh,hR⟩:=hS.obj _ _ hb;rw[q4]at hm';simp only[Value.map.injEq,aa]at hm';subst hm';rw[q7]at hh;simp only[aa,Obj.map.injEq]at hh;obtain⟨rfl,rfl⟩:=hh;have Sp:a.eval x0=.pointer (some ⟨r,0,none⟩):=h1.Ex.1.trans q1
 have cx:=run_next_at (P:=P) w o.type r bm clock clock seen ents clock q3 q7 (fun y hy=>by
  obtain⟨i,hi⟩:=cU.1 hy;exact hR.2.2.1 i y (by simpa using hi)) (aq _)
 have jr:j<st.J.length:=(ab.1 hj).1;have kV:r<w.heap.size:=(aN.1 q3).1;have hmj:m≠j:=by rintro rfl;rw[hj]at hb;simp at hb
 have YP:bm≠r:=by
  rintro rfl;rw[q3]at q7;simp at q7
 unfold Oper.wp;rcases cx with⟨hz,cx⟩ | ⟨e,he,w1,QP,cx⟩
 ·have jV:ps=[]:=by
   cases ps with
   | nil=>rfl
   | cons p ps =>
    exfalso;have hp:=q5 p (by simp);have U2:p<ents.size:=by rw[hR.1,hlen];exact hp
    have:=(q11 p ents[p] (aS U2)).2 (by simp)
    have nO:ents[p]∈leftOf ents seen:=by
     simp only[leftOf,Array.mem_filter];exact⟨Array.getElem_mem U2,by rw[this];rfl⟩
    have gr:leftOf ents seen=#[]:=od hz;rw[gr]at nO;simp at nO
  have ox:(execOp a.eval o).run P w=.ok (.value (.tuple #[.bool false])) w:=by simp[execOp,du,Sp,cx]
  rw[ox];simp only[Oper.upon];refine⟨_,μ,h0 jV,hS,?_,kZ.refl _ _ _,⟨_,rfl⟩,_,rfl⟩;rw[hd]
  exact hF.put d (.fa _ _ rfl fun i y hy=>by
   cases i with
   | zero=>simp only[au,aa]at hy;subst hy;exact .b _
   | succ i=>simp at hy)
 ·have hem:e∈ents∧seen.contains e.born=false:=by
   have:e∈leftOf ents seen:=by simpa using he
   simp only[leftOf,Array.mem_filter]at this;exact⟨this.1,by simpa using this.2⟩
  obtain⟨q,UY,hqe⟩:=Array.mem_iff_getElem.1 hem.1;have hq?:ents[q]?=some e:=by rw[aS UY,hqe]
  have X7:q∈ps:=(q11 q e hq?).1 hem.2;have ox:(execOp a.eval o).run P w=.ok (.value (.tuple #[.bool true,e.key,e.val])) (ChangeMaps.setBlock w1 r (.mapIter (some bm) clock (seen.push e.born) clock)):=by simp[execOp,du,Sp,cx]
  rw[ox];simp only[Oper.upon];have UN:w1.heap=w.heap:=by rcases QP with rfl | rfl<;>rfl
  have mh:=hS.update (w':=ChangeMaps.setBlock w1 r (.mapIter (some bm) clock (seen.push e.born) clock)) (J':=st.J.set j (.iter false m E n (ps.filter fun i=>i != q) (some q))) (μ':=μ) j (some r)
   (by
    rcases QP with rfl | rfl
    ·exact⟨rfl,rfl,rfl,by simp[ChangeMaps.setBlock],fun i _ hi=>by simp only[ChangeMaps.setBlock];rw[bS (fun e=>hi (by rw[e]))]⟩
    ·exact⟨rfl,rfl,rfl,by simp[ChangeMaps.setBlock],fun i _ hi=>by simp only[ChangeMaps.setBlock];rw[bS (fun e=>hi (by rw[e]))];rfl⟩)
   (fun b iX=>⟨_,hj,by simp,by simp only[aa]at iX;subst iX;simp[q1,fR]⟩)
   (by simp) (fun i hi=>ay (fun e=>hi e.symm)) (fun _ _=>rfl)
   (fun b iX=>.inl ⟨_,hj,by simp,iX⟩)
   (fun b off v2 o2 h4 _ h5 h6 _=>by
    simp only[q1,fR,aa]at h5;subst h5;simp[World.cell?,q3]at h6)
   (fun T2 cs2 h4=>by rw[hj]at h4;simp at h4)
   (fun K2 E2 es2 h4=>by rw[hj]at h4;simp at h4)
   (fun E2 sz2 by2 g2 sh2 xs2 _ h4=>by simp[jr]at h4)
   (fun uC o2 h4=>by
    simp only[ak jr,aa]at h4;subst h4;refine⟨r,bm,clock,seen.push e.born,q1,q2,by simp[ChangeMaps.setBlock,UN,kV],q4,fun p hp=>q5 p (cc.1 hp).1,_,E,_,ents,clock,(ay (fun e=>hmj e.symm)).trans hb,?_,aq _,fun _=>⟨by omega,fun _=>⟨rfl,fun i e2 hi=>?_,fun c hc=>?_⟩⟩⟩
    ·simp only[ChangeMaps.setBlock,UN];rw[bS (fun e=>YP e.symm)];exact q7
    ·have:=q11 i e2 hi;rw[contains_push,kG,this];simp only[cc,kC,gC,dv];constructor
     ·rintro⟨h5,h6⟩;refine⟨h5,fun Yw=>h6 ?_⟩;subst Yw;rw[hq?]at hi;simp only[aa]at hi;rw[hi]
     ·rintro⟨h5,h6⟩;refine⟨h5,fun WD=>h6 (hR.2.2.2 i q e2 e hi hq? ?_)⟩
      first | exact WD | exact WD.symm
    ·simp only[aa]at hc;subst hc;exact⟨e,hq?,by simp⟩)
   (fun st2 m2 E2 n2 ps2 c2 h4=>by
    rw[hj]at h4;simp only[aa,Ob.iter.injEq]at h4;obtain⟨rfl,rfl,rfl,rfl,rfl,rfl⟩:=h4;exact⟨⟨_,_,ak jr⟩,rfl⟩)
  refine⟨_,μ,h3 q X7,mh.1,?_,mh.2.dY,⟨_,rfl⟩,_,rfl⟩;rw[hd]
  exact(hF.dY mh.2.dY).put d (.fa _ _ rfl fun i y hy=>by
   match i with
   | 0=>simp only[au,aa]at hy;subst hy;exact .b _
   | 1=>simp only[bA,au,aa]at hy;subst hy;exact .u _
   | 2=>simp only[bA,au,aa]at hy;subst hy;exact .u _
   | i+3=>simp at hy)
theorem BO{P:Program}{o:Oper}{p:Pi}{K:St→Prop}{st:St}{B:Nat}{w0 w:World}{μ:Mem}{a:Act}(hc:compile P o=some p.i)(hd:o.dst=p.d)(h:gK P p K st)(hS:fe P B w0 w st.J μ)(hF:FR w st.J μ st.fr a){Q:Exit→Act→World→Prop}:
  o.wp P a w (fun a' w'=>∃ st' μ',K st'∧fe P B w0 w' st'.J μ'∧FR w' st'.J μ' st'.fr a'∧kZ w st.J μ w' st'.J μ'∧(∃ v,a'=a.put o.dst v)∧∃ r,st'.fr=c8 st.fr p.d r) Q:=by
 unfold gK at h;split at h
 ·
  rename_i f args hi;rw[hi]at hc;cases du:o.op with
  | call c =>
   simp only[compile,du]at hc;obtain⟨callee,args0,argTypes⟩:=c;unfold iB at hc;dsimp only at hc;split at hc
   ·split at hc<;>simp at hc
   ·split at hc<;>simp at hc
   ·split at hc<;>simp at hc
   ·split at hc<;>(try simp at hc;done);split at hc<;>(try simp at hc;done);split at hc<;>(try simp at hc;done);split at hc
    ·split at hc<;>simp at hc
    ·split at hc<;>(try simp at hc;done)
   ·(repeat' split at hc)<;>(simp at hc;done)
   ·(repeat' split at hc)<;>(simp at hc;done)
   ·rename_i f' e1;split at hc<;>(try simp only[reduceCtorEq]at hc);rename_i fn wH;split at hc
    rotate_left
    ·(repeat' split at hc)<;>(simp at hc;done)
    rename_i fi;simp only[ah,I.call.injEq]at hc;obtain⟨ys,u3,rfl,rfl⟩:=hc;have cx:=Fa (P:=P) (a:=a) (w:=w) du wH fi.1 fi.2;unfold Oper.wp;rw[cx];simp only[Oper.upon];obtain⟨h1,h2⟩:=xp hF _ _ u3;refine(h B w0 w μ (args0.map a.eval) hS ⟨by simp[h1],fun i y hy=>?_⟩).mono ?_
    ·have:=h2 i y hy;simpa[ar]using this
    ·rintro e w' ⟨r,v,J',μ',rfl,hK,hS',hv,hk⟩;refine⟨_,μ',hK,hS',?_,hk,⟨_,rfl⟩,_,rfl⟩;rw[hd];exact(hF.dY hk).put p.d hv
   ·simp at hc
   ·simp at hc
  | buildSlice T len parts =>
   exfalso;simp only[compile,du]at hc
   (repeat' split at hc)<;>(try (simp only[reduceCtorEq]at hc;done))
   simp only[ah]at hc;obtain⟨xs,_,hx⟩:=hc;split at hx<;>simp at hx
  | _ =>
   exfalso;simp only[compile,du]at hc
   (repeat' split at hc)<;>first | (simp at hc;done) | (simp_all;done)
 ·
  rename_i x args hi;split at h
  rotate_left
  ·exact h.elim
  rename_i f caps hx;obtain⟨fQ,h⟩:=h;rw[hi]at hc;cases du:o.op with
  | call c =>
   simp only[compile,du]at hc;obtain⟨callee,args0,argTypes⟩:=c;unfold iB at hc;dsimp only at hc;split at hc
   ·split at hc<;>simp at hc
   ·split at hc<;>simp at hc
   ·split at hc<;>simp at hc
   ·split at hc<;>(try simp at hc;done);split at hc<;>(try simp at hc;done);split at hc<;>(try simp at hc;done);split at hc
    ·split at hc<;>simp at hc
    ·split at hc<;>(try simp at hc;done)
   ·(repeat' split at hc)<;>(simp at hc;done)
   ·(repeat' split at hc)<;>(simp at hc;done)
   ·(repeat' split at hc)<;>(simp at hc;done)
   ·rename_i t;simp only[ah,I.jA.injEq]at hc;obtain⟨ys,u3,rfl,rfl⟩:=hc;have hv:=hF.at t;simp only[ev]at hx;rw[hx]at hv;generalize hg:a.tmps.getD t undef=u at hv;cases hv with
    | fn _ _ vs hl s8 =>
     have cx:=Dk (P:=P) (a:=a) (w:=w) du hg fQ;unfold Oper.wp;rw[cx];simp only[Oper.upon];obtain⟨h1,h2⟩:=xp hF _ _ u3;refine(h B w0 w μ (args0.map a.eval++vs) hS ⟨by simp[h1,hl],fun i y hy=>?_⟩).mono ?_
     ·rcases ft i (ys.map (ev st.fr)).length with cM | I4
      ·rw[ag cM]at hy;have h3:=h2 i y hy;have Yy:i<args0.size:=by simpa[h1]using cM
       simpa[aZ,fv,Yy,ar]using h3
      ·rw[aw I4]at hy;have h3:=s8 _ y hy;have Yy:args0.size≤i:=by simpa[h1]using I4
       simpa[aZ,Array.getElem?_append_right,Yy,h1]using h3
     ·rintro e w' ⟨r,v,J',μ',rfl,hK,hS',hv,hk⟩;refine⟨_,μ',hK,hS',?_,hk,⟨_,rfl⟩,_,rfl⟩;rw[hd];exact(hF.dY hk).put p.d hv
   ·simp at hc
  | buildSlice T len parts =>
   exfalso;simp only[compile,du]at hc
   (repeat' split at hc)<;>(try (simp only[reduceCtorEq]at hc;done))
   simp only[ah]at hc;obtain⟨xs,_,hx⟩:=hc;split at hx<;>simp at hx
  | _ =>
   exfalso;simp only[compile,du]at hc
   (repeat' split at hc)<;>first | (simp at hc;done) | (simp_all;done)
 ·
  rename_i x hi;split at h
  rotate_left
  ·exact h.elim
  rename_i j m E n ps hn;rw[hi]at hc;cases du:o.op with
  | next x0 q =>
   cases q with
   | true=>simp[compile,du]at hc
   | false =>
    simp only[compile,du,ah,I.next.injEq]at hc;obtain⟨x',hx,rfl⟩:=hc;exact Eg du hx hd hn h hS hF
  | call c =>
   exfalso;simp only[compile,du]at hc;unfold iB at hc
   (repeat' split at hc)<;>(simp at hc;done)
  | buildSlice T len parts =>
   exfalso;simp only[compile,du]at hc
   (repeat' split at hc)<;>(try (simp only[reduceCtorEq]at hc;done))
   simp only[ah]at hc;obtain⟨xs,_,hx⟩:=hc;split at hx<;>simp at hx
  | _ =>
   exfalso;simp only[compile,du]at hc
   (repeat' split at hc)<;>first | (simp at hc;done) | (simp_all;done)
 ·rename_i i gr U4 U3;split at h
  ·rename_i ob v hp;obtain⟨cK,hK⟩:=h;obtain⟨u,w',hr,hg,hv⟩:=Ca hc hF hS hp cK;obtain⟨hS',I1⟩:=hS.grown hg;unfold Oper.wp;rw[hr];simp only[Oper.upon];exact⟨_,μ,hK,hS',by rw[hd];exact(hF.dY I1.dY).put p.d hv,I1.dY,⟨_,rfl⟩,_,rfl⟩
  ·split at h
   ·rename_i ob v J' hx;obtain⟨cK,hK⟩:=h;obtain⟨u,w',μ',hr,hS',hv,I1⟩:=Bx hc hF hS hx cK;unfold Oper.wp;rcases hr with hr | ⟨hr,rfl⟩
    ·rw[hr];simp only[Oper.upon];exact⟨_,μ',hK,hS',by rw[hd];exact(hF.dY I1.dY).put p.d hv,I1.dY,⟨_,rfl⟩,_,rfl⟩
    ·rw[hr];simp only[Oper.upon];exact⟨_,μ',hK,hS',by rw[hd];exact(hF.dY I1.dY).put p.d (.u _),I1.dY,⟨_,rfl⟩,_,rfl⟩
   ·exact h.elim
def I.os:I→List O
 | .bg x=>[x]
 | .pick c a b=>[c,a,b]
 | .box _ x=>[x]
 | .alloc _ _=>[]
 | .build _ parts=>parts.map (·.2.2)
 | .c6 _ _ xs=>xs
 | .Dq _ _ _ _ xs=>xs
 | .load _ a=>[a]
 | .store _ _ a x=>[a,x]
 | .cF x=>[x]
 | .bin _ x y=>[x,y]
 | .beq _ _ x y=>[x,y]
 | .PQ _ x y=>[x,y]
 | .un _ x=>[x]
 | .De _ x=>[x]
 | .Fc x=>[x]
 | .slice _ x lo hi=>x::(lo.toList++hi.toList)
 | .fN x lo hi=>x::(lo.toList++hi.toList)
 | .gi _ x=>[x]
 | .idx _ x i=>[x,i]
 | .gY x i=>[x,i]
 | .Dw _ _ x i=>[x,i]
 | .Sz _ x=>[x]
 | .ext _ x=>[x]
 | .len _ x=>[x]
 | .max2 x y=>[x,y]
 | .min2 x y=>[x,y]
 | .app _ _ _ x y=>[x,y]
 | .apps _ x y=>[x,y]
 | .mk _ _ _ _ l c=>[l,c]
 | .kU _ _=>[]
 | .look _ _ _ m k=>[m,k]
 | .qu _ _ m k x=>[m,k,x]
 | .wq x=>[x]
 | .call _ args=>args
 | .jA x args=>x::args
 | .LI _ xs=>xs
 | .Bu _ _ x=>[x]
 | .yb _ m k=>[m,k]
 | .rE _ _ m k=>[m,k]
 | .rD _ m s x=>[m,s,x]
 | .range x=>[x]
 | .next x=>[x]
 | .Gy x=>[x]
 | .GV _ x=>[x]
 | .GU _ x i=>[x,i]
 | .clip _ x h m=>[x,h,m]
 | .yH x y=>[x,y]
 | .Qn _ _ l c=>[l,c]
 | .stop=>[]
def O.slot:O→List Nat
 | .t n=>[n]
 | .c _=>[]
def I.lq:I→List (Nat×List (Nat×Bool))
 | .pick (.t c) a b=>(c,[])::(a.slot.map (·,[(c,true)])++b.slot.map (·,[(c,false)]))
 | i=>(i.os.flatMap O.slot).map (·,[])
def I.b9:I→Bool
 | .box _ _ | .alloc _ _ | .store _ _ _ _ | .app _ _ _ _ _ | .apps _ _ _ | .mk _ _ _ _ _ _ | .Qn _ _ _ _ | .Dq _ _ _ _ _ | .kU _ _ | .qu _ _ _ _ _ | .Bu _ _ _ | .yb _ _ _ | .rE _ _ _ _ | .rD _ _ _ _ | .range _ | .next _ | .call _ _ | .jA _ _ | .stop=>false
 | _=>true
def I.reads:I→Bool
 | .build _ _ | .c6 _ _ _ | .load _ _ | .cF _ | .Fc _ | .slice _ _ _ _ | .gi _ _ | .idx _ _ _ | .len _ _ | .wq _ | .look _ _ _ _ _ | .Gy _=>true
 | _=>false
section
variable {fr fr':List V} {J:ae}
theorem tO{i:I}(h:∀ x∈i.os,ev fr x=ev fr' x):aJ fr J i=aJ fr' J i:=by
 cases i with
 | build zs parts =>
  have h1:∀ p∈parts,ev fr p.2.2=ev fr' p.2.2:=fun p hp=>h _ (aT.2 ⟨p,hp,rfl⟩)
  have e1:(parts.map fun(off,sz,x)=>(off,sz,dL (ev fr x)))=parts.map fun(off,sz,x)=>(off,sz,dL (ev fr' x)) :=
   cD fun p hp=>by
    have h2:=h1 p hp;obtain⟨a,b,c⟩:=p;simp only at h2 ⊢;rw[h2]
  have e2:(∀ p∈parts,eO J (ev fr p.2.2)=true)=(∀ p∈parts,eO J (ev fr' p.2.2)=true) :=
   propext ⟨fun k p hp=>h1 p hp▸k p hp,fun k p hp=>(h1 p hp).symm▸k p hp⟩
  simp only[aJ,e1,e2]
 | c6 sz szs xs =>
  have h1:∀ p∈xs,ev fr p=ev fr' p:=fun p hp=>h _ hp
  have e1:(xs.map fun x=>bW szs (dL (ev fr x)))=xs.map fun x=>bW szs (dL (ev fr' x)) :=
   cD fun p hp=>by rw[h1 p hp]
  have e2:(∀ p∈xs,eO J (ev fr p)=true)=(∀ p∈xs,eO J (ev fr' p)=true) :=
   propext ⟨fun k p hp=>h1 p hp▸k p hp,fun k p hp=>(h1 p hp).symm▸k p hp⟩
  simp only[aJ,e1,e2]
 | slice sz x lo hi =>
  have hx:=h x (by simp[I.os]);have hl:∀ y,lo=some y→ev fr y=ev fr' y:=fun y hy=>h y (by simp[I.os,hy]);have hh:∀ y,hi=some y→ev fr y=ev fr' y:=fun y hy=>h y (by simp[I.os,hy]);cases lo<;>cases hi<;>simp_all [aJ]
 | fN x lo hi =>
  have hx:=h x (by simp[I.os]);have hl:∀ y,lo=some y→ev fr y=ev fr' y:=fun y hy=>h y (by simp[I.os,hy]);have hh:∀ y,hi=some y→ev fr y=ev fr' y:=fun y hy=>h y (by simp[I.os,hy]);cases lo<;>cases hi<;>simp_all [aJ]
 | len str x =>
  have hx:=h x (by simp[I.os]);cases str<;>simp only[aJ,hx]
 | _=>simp_all [aJ,I.os]
theorem By{i:I}(h:∀ x∈i.os,ev fr x=ev fr' x):bC fr J i=bC fr' J i:=by
 cases i<;>simp_all [bC,I.os]
theorem B9{J':ae}{i:I}(h:i.reads=false):aJ fr J i=aJ fr J' i:=by
 cases i<;>simp_all [aJ,I.reads]
theorem rA{i:I}{r:Prop×V}(h:aJ fr J i=some r):i.b9=true:=by
 cases i<;>simp_all [aJ,I.b9]
theorem qV{i:I}(h:i.b9=true):bC fr J i=none:=by
 cases i<;>simp_all [bC,I.b9]
end
def chainB(fr:List V):List (Nat×Bool)→Option Bool
 | []=>some true
 | (t,b)::r=>match fr.getD t .u with
  | .b x=>match chainB fr r with
   | some y=>some ((x==b)&&y)
   | none=>none
  | _=>none
theorem uk{fr:List V}:∀ {ch:List (Nat×Bool)},chainB fr ch=some true↔∀ p∈ch,fr.getD p.1 .u=.b p.2
 | []=>by simp[chainB]
 | (t,b)::r=>by
  have ih:=uk (fr:=fr) (ch:=r);simp only[chainB,bn,forall_eq_or_imp];rw[← ih];split
  ·rename_i x hx;split
   ·rename_i y hy;rw[hx,hy];cases x<;>cases b<;>cases y<;>simp
   ·rename_i hy;simp[hy]
  ·rename_i hx;simp only[reduceCtorEq,L5,not_and];intro h;exact absurd h (hx b)
theorem yl{fr:List V}{a b:List (Nat×Bool)}(h:chainB fr b=some true)(hp:a.isPrefixOf b=true):chainB fr a=some true:=by
 rw[uk]at *;exact fun p hp'=>h p ((List.isPrefixOf_iff_prefix.1 hp).subset hp')
theorem mM{fr:List V}:∀ {a b:List (Nat×Bool)},chainB fr (a++b)=match chainB fr a,chainB fr b with
  | some x,some y=>some (x&&y)
  | _,_=>none
 | [],b=>by simp only[bh,chainB];cases chainB fr b<;>simp
 | (t,w)::r,b=>by
  simp only[bq,chainB,mM (a:=r) (b:=b)];cases fr.getD t .u<;>simp;cases chainB fr r<;>cases chainB fr b<;>simp[Bool.and_assoc]
theorem Ld{fr:List V}{n m:Nat}{x y:V}(h:n≠m):(fr.set n x).getD m y=fr.getD m y:=by
 simp[ar,ay h]
theorem o9{fr:List V}{d:Option Nat}{r:V}:∀ {ch:List (Nat×Bool)},(∀ p∈ch,d≠some p.1)→chainB (c8 fr d r) ch=chainB fr ch
 | [],_=>by simp[chainB]
 | (t,b)::ch,h=>by
  have ih:=o9 (fr:=fr) (d:=d) (r:=r) (ch:=ch) fun p hp=>h p (by simp[hp]);have h0:=h (t,b) (by simp);simp only[chainB,ih];cases d with
  | none=>rfl
  | some n =>
   have:n≠t:=fun e=>h0 (by simp[e]);simp only[c8,Ld this]
def ud(P:Program)(p:Pi)(c:Bool)(K:St→Prop)(st:St):Prop :=
 match p.i with
 | .call f args=>(c=true→PC P f (args.map (ev st.fr)) st.J (fun r' J'=>K ⟨c8 st.fr p.d r',J'⟩))∧(c=false→∃ r,K ⟨c8 st.fr p.d r,st.J⟩)
 | .jA x args=>(c=true→match ev st.fr x with
  | .fn f caps=>Cj P f=true∧PC P f (args.map (ev st.fr)++caps) st.J (fun r' J'=>K ⟨c8 st.fr p.d r',J'⟩)
  | _=>False)∧(c=false→∃ r,K ⟨c8 st.fr p.d r,st.J⟩)
 | .load k a=>match ev st.fr a with
  | .ptr _ _=>match aJ st.fr st.J (.load k a)with
   | some (ob,v)=>(c=true→ob)∧K ⟨c8 st.fr p.d v,st.J⟩
   | none=>False
  | _=>∃ v,(c=true→∃ ob,aJ st.fr st.J (.load k a)=some (ob,v)∧ob)∧K ⟨c8 st.fr p.d v,st.J⟩
 | i=>match aJ st.fr st.J i with
  | some (ob,v)=>(c=true→ob)∧K ⟨c8 st.fr p.d v,st.J⟩
  | none=>False
def gI(P:Program)(p:Pi)(K:St→Prop)(st:St):Prop :=
 match p.g with
 | []=>gK P p K st
 | _::_=>match chainB st.fr p.g with
  | some c=>ud P p c K st
  | none=>False
theorem wP{P:Program}{p:Pi}{c:Bool}{K:St→Prop}{st:St}(h:ud P p c K st)(hn:∀ f args,p.i≠.call f args)(hv:∀ x args,p.i≠.jA x args):
  ∃ r,K ⟨c8 st.fr p.d r,st.J⟩∧(c=true→gK P p (fun st'=>st'=⟨c8 st.fr p.d r,st.J⟩) st):=by
 obtain⟨d,g,i⟩:=p;cases i with
 | call f args=>exact absurd rfl (hn f args)
 | load k a =>
  simp only[ud]at h;split at h
  ·split at h
   ·rename_i ob v hp;exact⟨v,h.2,fun hc=>by simp only[gK,hp];exact⟨h.1 hc,trivial⟩⟩
   ·exact h.elim
  ·obtain⟨v,h1,h2⟩:=h;refine⟨v,h2,fun hc=>?_⟩;obtain⟨ob,h3,h4⟩:=h1 hc;simp only[gK,h3];exact⟨h4,trivial⟩
 | jA x args=>exact absurd rfl (hv x args)
 | next x=>simp[ud,aJ]at h
 | _ =>
  simp only[ud]at h;split at h
  ·rename_i ob v hp;exact⟨v,h.2,fun hc=>by simp only[gK,hp];exact⟨h.1 hc,trivial⟩⟩
  ·exact h.elim
theorem va{fr fr':List V}{x:O}(h:∀ s∈x.slot,fr.getD s .u=fr'.getD s .u):ev fr x=ev fr' x:=by
 cases x with
 | t n=>exact h n (by simp[O.slot])
 | c v=>rfl
theorem Ju{P:Program}{p:Pi}{K:St→Prop}{fr fr':List V}{J:ae}(h:∀ x∈p.i.os,ev fr x=ev fr' x)(hs:gK P p K ⟨fr,J⟩):
  gK P p (fun st'=>∃ r,st'.fr=c8 fr' p.d r∧K ⟨c8 fr p.d r,st'.J⟩) ⟨fr',J⟩:=by
 obtain⟨d,g,i⟩:=p
 by_cases CY:∃ f args,i=.call f args
 ·obtain⟨f,args,rfl⟩:=CY;have e:args.map (ev fr)=args.map (ev fr'):=cD fun x hx=>h x hx;simp only[gK]at hs ⊢;rw[← e];exact hs.mono fun r J' hk=>⟨r,rfl,hk⟩
 by_cases wM:∃ x args,i=.jA x args
 ·obtain⟨x,args,rfl⟩:=wM;have e:args.map (ev fr)=args.map (ev fr'):=cD fun y hy=>h y (by simp[I.os,hy]);have e2:=h x (by simp[I.os]);simp only[gK]at hs ⊢;rw[← e,← e2];split at hs
  ·exact⟨hs.1,hs.2.mono fun r J' hk=>⟨r,rfl,hk⟩⟩
  ·exact hs.elim
 by_cases zi:∃ x,i=.next x
 ·obtain⟨x,rfl⟩:=zi;have e2:=h x (by simp[I.os]);simp only[gK]at hs ⊢;rw[← e2];split at hs
  ·exact⟨fun he=>⟨_,rfl,hs.1 he⟩,fun q hq=>⟨_,rfl,hs.2 q hq⟩⟩
  ·exact hs.elim
 ·have e1:=tO (J:=J) h;have e2:=By (J:=J) h
  have key:∀ (fr0:List V) (K0:St→Prop),gK P ⟨d,g,i⟩ K0 ⟨fr0,J⟩=match aJ fr0 J i with
    | some (ob,v)=>ob∧K0 ⟨c8 fr0 d v,J⟩
    | none=>match bC fr0 J i with
     | some (ob,v,J')=>ob∧K0 ⟨c8 fr0 d v,J'⟩
     | none=>False:=by
   intro fr0 K0;cases i<;>first | rfl | (exfalso;exact CY ⟨_,_,rfl⟩) | (exfalso;exact wM ⟨_,_,rfl⟩) | (exfalso;exact zi ⟨_,rfl⟩)
  simp only at e1 e2;rw[key]at hs ⊢;rw[← e1,← e2];split at hs
  ·exact⟨hs.1,_,rfl,hs.2⟩
  ·split at hs
   ·exact⟨hs.1,_,rfl,hs.2⟩
   ·exact hs.elim
theorem BP{P:Program}{p:Pi}{K:St→Prop}{fr fr':List V}{J:ae}(h:∀ s∈p.i.lq,chainB fr s.2=some true→fr.getD s.1 .u=fr'.getD s.1 .u)(hs:gK P p K ⟨fr,J⟩):
  gK P p (fun st'=>∃ r,st'.fr=c8 fr' p.d r∧K ⟨c8 fr p.d r,st'.J⟩) ⟨fr',J⟩:=by
 by_cases hp:∃ c a b,p.i=.pick (.t c) a b
 ·obtain⟨c,x,y,hi⟩:=hp;obtain⟨d,g,i⟩:=p;simp only at hi;subst hi;have hc:fr.getD c .u=fr'.getD c .u:=h (c,[]) (by simp[I.lq]) (by simp[chainB]);have hx:fr.getD c .u=.b true→ev fr x=ev fr' x:=fun hb=>va fun s hs'=>h (s,[(c,true)]) (by simp[I.lq,hs']) (by simp only[chainB,hb];rfl);have hy:fr.getD c .u=.b false→ev fr y=ev fr' y:=fun hb=>va fun s hs'=>h (s,[(c,false)]) (by simp[I.lq,hs']) (by simp only[chainB,hb];rfl);simp only[gK,aJ,ev]at hs ⊢;rw[← hc];split at hs
  ·rename_i ob v hq;split at hq
   ·rename_i b hb;simp only[aa,ao]at hq;obtain⟨rfl,rfl⟩:=hq;refine⟨trivial,_,rfl,?_⟩
    have e:(match ev fr x,ev fr y with
      | .b p,.b q=>V.b (bif b then p else q)
      | p,q=>bif b then p else q)=(match ev fr' x,ev fr' y with
      | .b p,.b q=>V.b (bif b then p else q)
      | p,q=>bif b then p else q):=by
     have gen:∀ p q:V,(match p,q with
      | .b p,.b q=>V.b (bif b then p else q)
      | p,q=>bif b then p else q)=bif b then p else q:=by
      intro p q;cases b<;>cases p<;>cases q<;>rfl
     rw[gen,gen];cases b
     ·simp only[cond_false];exact hy hb
     ·simp only[cond_true];exact hx hb
    exact Eq.mp (congrArg (fun v=>K ⟨c8 fr d v,J⟩) e) hs.2
   ·simp at hq
  ·rename_i hq;split at hq
   ·simp at hq
   ·simp only[bC]at hs
 ·refine Ju (fun x hx=>va fun s hs'=>h (s,[]) ?_ (by simp[chainB])) hs
  have:p.i.lq=(p.i.os.flatMap O.slot).map (·,[]):=by
   unfold I.lq;split
   ·rename_i c a b hi;exact absurd ⟨c,a,b,hi⟩ hp
   ·rfl
  rw[this];exact aT.2 ⟨s,gJ.2 ⟨x,hx,hs'⟩,rfl⟩
def yp(w:World)(J:ae)(μ:Mem)(fr:List V)(inf:Nat→Option (List (Nat×Bool)))(a:Act):Prop :=
 a.defers=[]∧a.tmps.size=fr.length∧∀ t x,fr[t]?=some x→∀ ch,inf t=some ch →
  (chainB fr ch=some true→VR w J μ x (a.tmps.getD t undef))∧(chainB fr ch=some false→a.tmps.getD t undef=undef)
def Po(inf:Nat→Option (List (Nat×Bool)))(fr:List V):List V:=fr.mapIdx fun t x=>match inf t with
 | some ch=>if chainB fr ch=some true then x else .u
 | none=>.u
theorem yp.mask{w:World}{J:ae}{μ:Mem}{fr:List V}{inf:Nat→Option (List (Nat×Bool))}{a:Act}(h:yp w J μ fr inf a):FR w J μ (Po inf fr) a:=by
 refine⟨h.1,by simp[Po,h.2.1],fun t x hx=>?_⟩;simp only[Po,List.getElem?_mapIdx,ah]at hx;obtain⟨y,hy,rfl⟩:=hx;split
 ·rename_i ch uc;split
  ·rename_i hc;exact(h.2.2 t y hy ch uc).1 hc
  ·exact .u _
 ·exact .u _
theorem Qo{inf:Nat→Option (List (Nat×Bool))}{fr:List V}{t:Nat}{ch:List (Nat×Bool)}(hi:inf t=some ch)(hc:chainB fr ch=some true):(Po inf fr).getD t .u=fr.getD t .u:=by
 simp only[Po,ar,List.getElem?_mapIdx,hi,hc,aR];cases fr[t]?<;>rfl
structure DA (inf:Nat→Option (List (Nat×Bool))) (p:Pi):Prop where
 lq:∀ s∈p.i.lq,∃ ch,inf s.1=some ch∧ch.isPrefixOf (p.g++s.2)=true
 guard:∀ ch t b,p.g=ch++[(t,b)]→inf t=some ch
 fresh:∀ d,p.d=some d→(∀ q∈p.g,q.1≠d)∧∀ t ch,inf t=some ch→∀ q∈ch,q.1≠d
def oG(inf:Nat→Option (List (Nat×Bool)))(p:Pi):Nat→Option (List (Nat×Bool)):=fun t=>if p.d=some t then some p.g else inf t
theorem Hq{a:Act}{d:Option Nat}{v:Value}{t:Nat}(h:d≠some t):(a.put d v).tmps.getD t undef=a.tmps.getD t undef:=by
 cases d with
 | none=>rfl
 | some n =>
  have hn:n≠t:=fun e=>h (by simp[e]);simp only[Act.put,aZ,bS hn]
theorem B4{a:Act}{v:Value}{t:Nat}(h:t<a.tmps.size):(a.put (some t) v).tmps.getD t undef=v:=by
 simp[Act.put,h]
theorem iw{fr:List V}{d:Option Nat}{r:V}{t:Nat}(h:d≠some t):(c8 fr d r)[t]?=fr[t]?:=by
 cases d with
 | none=>rfl
 | some n =>
  have hn:n≠t:=fun e=>h (by simp[e]);simp only[c8,ay hn]
theorem lR{fr:List V}{d:Option Nat}{r:V}:(c8 fr d r).length=fr.length:=by cases d<;>simp[c8]
theorem B2{a:Act}{d:Option Nat}{v:Value}:(a.put d v).tmps.size=a.tmps.size∧(a.put d v).defers=a.defers:=by
 cases d<;>simp[Act.put]
theorem yp.oh{w w':World}{J J':ae}{μ μ':Mem}{fr:List V}{inf:Nat→Option (List (Nat×Bool))}{a:Act}{p:Pi}{r:V}{v:Value}(h:yp w J μ fr inf a)(fQ:DA inf p)(hk:kZ w J μ w' J' μ')
  (h1:∀ t,p.d=some t→t<fr.length→chainB fr p.g=some true→VR w' J' μ' r v) (h2:chainB fr p.g=some false→v=undef):yp w' J' μ' (c8 fr p.d r) (oG inf p) (a.put p.d v):=by
 refine⟨by rw[B2.2];exact h.1,by rw[B2.1,lR];exact h.2.1,fun t x hx ch uc=>?_⟩
 by_cases hd:p.d=some t
 ·have hf:=fQ.fresh t hd;simp only[oG,hd,aR,aa]at uc;subst uc
  have hlen:t<fr.length:=by
   have:=(ab.1 hx).1;rwa [lR]at this
  rw[hd]at hx;simp only[c8,ak hlen,aa]at hx;subst hx;have e:chainB (c8 fr p.d r) p.g=chainB fr p.g:=o9 fun q hq e=>hf.1 q hq (by rw[hd]at e;exact(gm e).symm);rw[e,hd,B4 (by rw[h.2.1];exact hlen)];exact⟨h1 t hd hlen,h2⟩
 ·simp only[oG,hd,aO]at uc;rw[iw hd]at hx;have e:chainB (c8 fr p.d r) ch=chainB fr ch:=o9 fun q hq e=>(fQ.fresh q.1 e).2 t ch uc q hq rfl;rw[e,Hq hd];have:=h.2.2 t x hx ch uc;exact⟨fun hc=>hk _ _ (this.1 hc),this.2⟩
def GI(P:Program)(p:Pi)(K:St→Prop)(fr:List V)(J:ae):Prop :=
 ∃ c,chainB fr p.g=some c∧((c=true∧∃ K':St→Prop,gK P p K' ⟨fr,J⟩∧∀ st',K' st'→K st')∨(c=false∧∃ r,K ⟨c8 fr p.d r,J⟩))
theorem VM{P:Program}{p:Pi}{K:St→Prop}{fr:List V}{J:ae}(h:gI P p K ⟨fr,J⟩):GI P p K fr J:=by
 unfold gI at h;split at h
 ·rename_i hg;exact⟨true,by rw[hg];rfl,.inl ⟨rfl,K,h,fun _ h=>h⟩⟩
 ·split at h
  ·rename_i c hc
   by_cases CY:∃ f args,p.i=.call f args
   ·obtain⟨f,args,hi⟩:=CY;obtain⟨d,g,i⟩:=p;simp only at hi;subst hi;cases c with
    | true=>exact⟨true,hc,.inl ⟨rfl,K,h.1 rfl,fun _ h=>h⟩⟩
    | false=>exact⟨false,hc,.inr ⟨rfl,h.2 rfl⟩⟩
   by_cases wM:∃ x args,p.i=.jA x args
   ·obtain⟨x,args,hi⟩:=wM;obtain⟨d,g,i⟩:=p;simp only at hi;subst hi;cases c with
    | true=>exact⟨true,hc,.inl ⟨rfl,K,h.1 rfl,fun _ h=>h⟩⟩
    | false=>exact⟨false,hc,.inr ⟨rfl,h.2 rfl⟩⟩
   obtain⟨r,h1,h2⟩:=wP h (fun f args e=>CY ⟨f,args,e⟩) fun x args e=>wM ⟨x,args,e⟩;cases c with
   | true=>exact⟨true,hc,.inl ⟨rfl,_,h2 rfl,fun st' e=>e▸h1⟩⟩
   | false=>exact⟨false,hc,.inr ⟨rfl,r,h1⟩⟩
  ·exact h.elim
theorem Qh{P:Program}{ops:Array Oper}{o:Oper}{p:Pi}(hc:R4 P ops o=some p){inf:Nat→Option (List (Nat×Bool))}{B:Nat}{w0 w:World}{fr:List V}{J:ae}{μ:Mem}{a:Act}{K:St→Prop}
  (hS:fe P B w0 w J μ) (hF:yp w J μ fr inf a) (fQ:DA inf p) (hK:GI P p K fr J) {R:Act→World→Prop} {Q:Exit→Act→World→Prop}
  (hR:∀ r J' μ' a' w',K ⟨c8 fr p.d r,J'⟩→fe P B w0 w' J' μ'→yp w' J' μ' (c8 fr p.d r) (oG inf p) a'→kZ w J μ w' J' μ'→R a' w') :
  if Region.wanted o (yielded ops a.tmps)then o.wp P a w R Q∨(o.asks P a w∧LetsOut Q)else R (a.put o.dst undef) w:=by
 unfold R4 at hc;split at hc<;>simp only[aa,reduceCtorEq]at hc;rename_i g hg;obtain⟨i,NV⟩:∃ i,i=(compile P o).getD .stop:=⟨_,rfl⟩;rw[← NV]at hc;subst hc
 have doit:∀ K':St→Prop,chainB fr g=some true→gK P ⟨o.dst,g,i⟩ K' ⟨fr,J⟩→(∀ st',K' st'→K st')→o.wp P a w R Q:=by
  intro K' uc hs Gl
  have hi:compile P o=some i:=by
   cases I5:compile P o with
   | none=>rw[I5]at NV;simp only[uN]at NV;subst NV;simp[gK,aJ,bC]at hs
   | some j=>rw[I5]at NV;simp only[eW]at NV;rw[NV]
  have h1:=BP (fr':=Po inf fr) (fun s hs' XX=>by
   obtain⟨ch,h2,h3⟩:=fQ.lq s hs';exact(Qo h2 (yl (by rw[mM,uc,XX];rfl) h3)).symm) hs
  refine Oper.wp_mono ?_ (BO (p:=⟨o.dst,g,i⟩) hi rfl h1 hS hF.mask);rintro a' w' ⟨st',μ',⟨r,h2,h3⟩,h4,h5,h6,⟨v,rfl⟩,_⟩;have hlen:(Po inf fr).length=fr.length:=by simp[Po]
  refine hR r st'.J μ' _ w' (Gl _ h3) h4 (hF.oh fQ h6 (fun t ht hl _=>?_) fun h=>by simp only at h;rw[uc]at h;simp at h) h6;simp only at ht h2;have h7:=h5.2.2 t r (by rw[h2,ht];simp only[c8];rw[ak (by rw[hlen];exact hl)])
  rwa [ht,B4 (by rw[hF.2.1];exact hl)]at h7
 have guard:∀ c,chainB fr g=some c→Region.wanted o (yielded ops a.tmps)=c:=by
  intro c wL;cases Mh:o.guard with
  | none =>
   rw[Mh]at hg;simp only[rW,aa]at hg;subst hg;simp only[chainB,aa]at wL;subst wL;simp[Region.wanted,Mh]
  | some jb =>
   obtain⟨j,b⟩:=jb;rw[Mh]at hg;simp only[rW]at hg;split at hg<;>(try simp only[reduceCtorEq]at hg);rename_i oj hoj;split at hg<;>simp only[aa,reduceCtorEq]at hg;rename_i t ch ht uc;subst hg;have Q1:=fQ.guard ch t b rfl;rw[mM]at wL;split at wL<;>simp only[aa,reduceCtorEq]at wL;rename_i x y hx hy;simp only[chainB]at hy;split at hy<;>simp only[aa,reduceCtorEq]at hy;rename_i z hz;simp only[oy]at hy
   have hl:t<fr.length:=by
    rcases ft t fr.length with h | h
    ·exact h
    ·rw[ar,a7 h]at hz;simp at hz
   have eJ:fr[t]?=some (.b z):=by
    rw[ar,an hl]at hz;rw[an hl];simpa using hz
   have hv:=hF.2.2 t _ eJ ch Q1;have EF:t<a.tmps.size:=by rw[hF.2.1];exact hl
   have UJ:yielded ops a.tmps j=match a.tmps.getD t undef with | .bool q=>some q | _=>none:=by
    unfold yielded;simp only[hoj,ey,ht];rw[aS EF];have:a.tmps.getD t undef=a.tmps[t]:=by simp[EF]
    rw[this];cases a.tmps[t]<;>rfl
   subst wL hy;cases x
   ·rw[hv.2 hx]at UJ;simp only[undef]at UJ;simp[Region.wanted,Mh,UJ]
   ·rw[(hv.1 hx).lW]at UJ;simp[Region.wanted,Mh,UJ]
 obtain⟨c,wL,pE⟩:=hK;rcases pE with⟨rfl,K',h1,h2⟩ | ⟨rfl,r,h1⟩
 ·rw[aQ (guard true wL)];exact .inl (doit K' wL h1 h2)
 ·have hw:=guard false wL;rw[hw];simp only[aG,aO];exact hR r J μ _ w h1 hS (hF.oh (p:=⟨o.dst,g,i⟩) fQ (kZ.refl _ _ _) (fun t _ _ h=>by simp only at h;rw[wL]at h;simp at h) fun _=>rfl) (kZ.refl _ _ _)
theorem We{P:Program}{ops:Array Oper}{o:Oper}{p:Pi}(hc:R4 P ops o=some p){inf:Nat→Option (List (Nat×Bool))}{B:Nat}{w0 w:World}{fr:List V}{J:ae}{μ:Mem}{a:Act}{K:St→Prop}
  (hS:fe P B w0 w J μ) (hF:yp w J μ fr inf a) (fQ:DA inf p) (hK:gI P p K ⟨fr,J⟩) {R:Act→World→Prop} {Q:Exit→Act→World→Prop}
  (hR:∀ r J' μ' a' w',K ⟨c8 fr p.d r,J'⟩→fe P B w0 w' J' μ'→yp w' J' μ' (c8 fr p.d r) (oG inf p) a'→kZ w J μ w' J' μ'→R a' w') :
  if Region.wanted o (yielded ops a.tmps)then o.wp P a w R Q∨(o.asks P a w∧LetsOut Q)else R (a.put o.dst undef) w :=
 Qh hc hS hF fQ (VM hK) hR
def Bu(gs:List Nat)(fr:List V):List V:=gs.foldl (fun fr s=>fr.set s .u) fr
def ix(P:Program)(gs:List Nat):List Pi→(St→Prop)→St→Prop
 | [],K,st=>K ⟨Bu gs st.fr,st.J⟩
 | p::ps,K,st=>gI P p (ix P gs ps K) st
def nc(D:List (Nat×List (Nat×Bool)))(t:Nat):List (Nat×Bool):=(D.lookup t).getD []
def Sa(D:List (Nat×List (Nat×Bool)))(p:Pi):List (Nat×List (Nat×Bool)):=match p.d with
 | some d=>(d,p.g)::D
 | none=>D
def JY(D:List (Nat×List (Nat×Bool)))(p:Pi):Bool :=
 p.i.lq.all (fun s=>(nc D s.1).isPrefixOf (p.g++s.2)) &&
 (match p.g.getLast? with
  | none=>true
  | some q=>nc D q.1==p.g.dropLast) &&
 (match p.d with
  | none=>true
  | some d=>p.g.all (fun q=>q.1 != d)&&D.all fun e=>e.2.all fun q=>q.1 != d)
def Bl:List (Nat×List (Nat×Bool))→List Pi→List Nat→Bool
 | D,[],gs=>D.all fun e=>e.2.isEmpty||gs.contains e.1
 | D,p::ps,gs=>JY D p&&Bl (Sa D p) ps gs
def rH(D:List (Nat×List (Nat×Bool)))(t:Nat):Option (List (Nat×Bool)):=some (nc D t)
theorem sW{D:List (Nat×List (Nat×Bool))}{t:Nat}:nc D t=[]∨(t,nc D t)∈D:=by
 induction D with
 | nil=>exact .inl rfl
 | cons e D ih =>
  obtain⟨s,ch⟩:=e;simp only[nc,L8]
  by_cases h:t=s
  ·subst h;right;simp
  ·have:(t==s)=false:=by simpa using h
   rw[this];simp only[nc]at ih;rcases ih with h | h
   ·exact .inl h
   ·exact .inr (di _ h)
theorem Ci{D:List (Nat×List (Nat×Bool))}{p:Pi}(h:JY D p=true):DA (rH D) p:=by
 simp only[JY,aP,cj]at h;obtain⟨⟨h1,h2⟩,h3⟩:=h;refine⟨fun s hs=>⟨_,rfl,h1 s hs⟩,fun ch t b hg=>?_,fun d hd=>?_⟩
 ·rw[hg]at h2;simp only[kF,iV,qM,List.dropLast_concat,bN]at h2;simp[rH,h2]
 ·rw[hd]at h3;simp only[aP,cj,kC,gC]at h3;refine⟨fun q hq=>h3.1 q hq,fun t ch ht q hq=>?_⟩;simp only[rH,aa]at ht;subst ht;rcases sW (D:=D) (t:=t)with h | h
  ·rw[h]at hq;simp at hq
  ·exact h3.2 _ h q hq
theorem yw{D:List (Nat×List (Nat×Bool))}{p:Pi}:oG (rH D) p=rH (Sa D p):=by
 funext t;simp only[oG,rH,Sa];cases hd:p.d with
 | none=>simp
 | some d =>
  by_cases h:d=t
  ·subst h;simp[nc]
  ·have h2:(t==d)=false:=by simpa using fun e=>h e.symm
   simp[h,nc,L8,h2]
theorem LG:∀ (gs:List Nat) (fr:List V) (t:Nat),(Bu gs fr)[t]?=if t∈gs then(fr[t]?).map (fun _=>V.u)else fr[t]?
 | [],fr,t=>by simp[Bu]
 | s::gs,fr,t=>by
  have ih:=LG gs (fr.set s .u) t;simp only[Bu,eS]at ih ⊢;rw[ih]
  by_cases hs:s=t
  ·subst hs;simp only[bn,IN,aR];rw[uQ];split<;>cases fr[s]?<;>rfl
  ·rw[ay hs];have:(t∈s::gs)↔t∈gs:=by simp[PS hs]
   simp only[this]
theorem yp.ends{w:World}{J:ae}{μ:Mem}{fr:List V}{D:List (Nat×List (Nat×Bool))}{gs:List Nat}{a:Act}(h:yp w J μ fr (rH D) a)(hD:Bl D [] gs=true):FR w J μ (Bu gs fr) a:=by
 refine⟨h.1,?_,fun t x hx=>?_⟩
 ·rw[h.2.1]
  have:∀ (gs:List Nat) (fr:List V),(Bu gs fr).length=fr.length:=by
   intro gs
   induction gs with
   | nil=>intro fr;rfl
   | cons s gs ih=>intro fr;simp only[Bu,eS]at ih ⊢;rw[ih];simp
  rw[this]
 ·rw[LG]at hx;split at hx
  ·rw[ah]at hx;obtain⟨_,_,rfl⟩:=hx;exact .u _
  ·rename_i xN;refine(h.2.2 t x hx _ rfl).1 ?_
   have:nc D t=[]:=by
    rcases sW (D:=D) (t:=t)with h | h
    ·exact h
    ·simp only[Bl,cj]at hD;have:=hD _ h;simp only[da,List.isEmpty_iff,List.contains_eq_mem,a8]at this;rcases this with h2 | h2
     ·exact h2
     ·exact absurd h2 xN
   rw[this];simp[chainB]
def fB(P:Program)(n B:Nat)(w0 w:World)(J:ae)(μ:Mem)(K:Exit→St→Prop)(e:Exit)(a':Act)(w':World):Prop :=
 ∃ st' μ',K e st'∧fe P B w0 w' st'.J μ'∧FR w' st'.J μ' st'.fr a'∧dX n w J μ w' st'.J μ'
theorem vP{P:Program}{ops:Array Oper}{n B:Nat}{gs:List Nat}{w0 ws:World}{σs:ae}{μs:Mem}{K:St→Prop}{Q:Exit→Act→World→Prop}
  (hQ:∀ st w μ a,K st→fe P B w0 w st.J μ→FR w st.J μ st.fr a→dX n ws σs μs w st.J μ→Q .normal a w) :
  ∀ (l:List Oper) (k:Nat) (ps:List Pi) (D:List (Nat×List (Nat×Bool))) (fr:List V) (J:ae) (w:World) (μ:Mem) (a:Act),(∀ j,l[j]?=ops[k+j]?)→nU P ops l=some ps→Bl D ps gs=true→ix P gs ps K ⟨fr,J⟩ →
   fe P B w0 w J μ→yp w J μ fr (rH D) a→dX n ws σs μs w J μ →
   wpOps P ops Q ((List.range l.length).map (k+·)) a w
 | [],k,ps,D,fr,J,w,μ,a,_,hc,hD,hr,hS,hF,hk=>by
  simp only[nU,aa]at hc;subst hc;exact hQ _ w μ a hr hS (hF.ends hD) hk
 | o::l,k,ps,D,fr,J,w,μ,a,hl,hc,hD,hr,hS,hF,hk=>by
  simp only[nU]at hc;split at hc<;>simp only[aa,reduceCtorEq]at hc;rename_i p qs hp UY;subst hc;simp only[Bl,aP]at hD;have ho:ops[k]?=some o:=by have:=hl 0;simpa using this.symm
  have e1:(List.range (o::l).length).map (k+·)=k::(List.range l.length).map (k+1+·):=by
   rw[ai,List.range_succ_eq_map,az,gB];simp only[eA];congr 1;apply cD;intro x _;simp only[Function.comp];omega
  rw[e1];simp only[wpOps,ho];refine We hp hS hF (Ci hD.1) hr ?_;intro r J' μ' a' w' h1 h2 h3 h4;rw[yw]at h3;exact vP hQ l (k+1) qs _ _ _ w' μ' a' (fun j=>by have:=hl (j+1);rw[bA]at this;rw[this];congr 1;omega) UY hD.2 h1 h2 h3 (hk.trans h4.GZ)
theorem FR.toI{w:World}{J:ae}{μ:Mem}{fr:List V}{a:Act}(h:FR w J μ fr a):yp w J μ fr (rH []) a :=
 ⟨h.1,h.2.1,fun t x hx ch uc=>by
  simp only[rH,nc,List.lookup_nil,uN,aa]at uc;subst uc;exact⟨fun _=>h.2.2 t x hx,fun h=>by simp[chainB]at h⟩⟩
def tb(bs:List Nat)(i j:Nat):Bool:=(bs.getD i 0).testBit j
def dB(pis:List Pi)(i:Nat):Pi:=pis.getD i ⟨none,[],.alloc 0 []⟩
def yL(bs ls:List Nat)(i:Nat):Nat:=(ls.filter (tb bs i)).length
def kR(pis:List Pi)(bs:List Nat)(m:Nat)(ls:List Nat)(k:Nat):List Nat:=(List.range m).filter fun i=>(dB pis i).i.b9&&yL bs ls i==k
def LO(pis:List Pi)(bs:List Nat)(m:Nat)(ls:List Nat)(k L:Nat):List Nat :=
 (List.range m).filter fun i=>(dB pis i).i.b9&&((dB pis i).i.reads&&(decide (yL bs ls i≤k)&&!tb bs L i))
def xK(pis:List Pi)(bs:List Nat)(m:Nat)(ls:List Nat):Nat→List Nat→List (List Pi×Pi×List Pi)
 | _,[]=>[]
 | k,L::r=>((kR pis bs m ls k).map (dB pis),dB pis L,(LO pis bs m ls k L).map (dB pis))::xK pis bs m ls (k+1) r
def xm(p:Pi)(st:St):Prop :=
 match chainB st.fr p.g with
 | some c=>match p.d with
  | some d=>c=true→∃ ob,aJ st.fr st.J p.i=some (ob,st.fr.getD d .u)∧ob
  | none=>c=true→∃ ob r,aJ st.fr st.J p.i=some (ob,r)∧ob
 | none=>False
def oz(P:Program):List (List Pi×Pi×List Pi)→List Pi→(St→Prop)→St→Prop
 | [],last,K,st=>ix P [] last K st
 | (Bk,L,chk)::ds,last,K,st=>ix P [] Bk (fun st1=>gI P L (fun st2=>(∀ p∈chk,xm p st2)∧oz P ds last K st2) st1) st
def looks(p:Pi):List Nat:=p.i.lq.map (·.1)++p.g.map (·.1)
def Fact(p:Pi)(fr:List V)(J:ae):Prop :=
 ∃ c,chainB fr p.g=some c∧∃ r,c8 fr p.d r=fr∧(c=true→∃ ob,aJ fr J p.i=some (ob,r)∧ob)
theorem JA{fr:List V}{t:Nat}{r:V}:fr.set t r=fr↔(t<fr.length→fr[t]?=some r):=by
 constructor
 ·intro h hl;rw[← h,ak hl]
 ·intro h;refine gd fun i=>?_
  by_cases hi:t=i
  ·subst hi;rw[uQ];rcases ft t fr.length with hl | hl
   ·rw[h hl];rfl
   ·rw[a7 hl];rfl
  ·rw[ay hi]
theorem mV{fr:List V}{d:Option Nat}{r:V}:c8 fr d r=fr↔∀ t,d=some t→t<fr.length→fr[t]?=some r:=by
 cases d with
 | none=>simp[c8]
 | some t=>simp only[c8,JA,aa];exact⟨fun h s hs=>hs▸h,fun h=>h t rfl⟩
theorem JW{i:I}{x:O}(hx:x∈i.os){t:Nat}(ht:t∈x.slot):t∈i.lq.map (·.1):=by
 unfold I.lq;split
 ·rename_i c a b;simp only[I.os,bn,eZ,IP]at hx;rcases hx with rfl | rfl | rfl
  ·simp only[O.slot,cR]at ht;simp[ht]
  ·simp[ht]
  ·simp[ht]
 ·simp only[gB,aT,gJ,Function.comp];exact⟨t,⟨x,hx,ht⟩,rfl⟩
theorem jN{fr fr':List V}:∀ {ch:List (Nat×Bool)},(∀ q∈ch,fr'[q.1]?=fr[q.1]?)→chainB fr' ch=chainB fr ch
 | [],_=>rfl
 | (t,b)::ch,h=>by
  have h0:fr'[t]?=fr[t]?:=h (t,b) (by simp);have ih:=jN (fr:=fr) (fr':=fr') (ch:=ch) fun q hq=>h q (by simp[hq]);simp only[chainB,ih,ar,h0]
theorem tP{fr fr':List V}{J:ae}{p:Pi}(h:∀ t∈p.i.lq.map (·.1),fr'[t]?=fr[t]?):aJ fr' J p.i=aJ fr J p.i :=
 tO fun x hx=>va fun s hs=>by rw[ar,ar,h s (JW hx hs)]
theorem Fact.agree{p:Pi}{fr fr':List V}{J:ae}(h:Fact p fr J)(hl:∀ t∈looks p,fr'[t]?=fr[t]?)(hd:∀ t,p.d=some t→fr'[t]?=fr[t]?)(hlen:fr'.length=fr.length):Fact p fr' J:=by
 obtain⟨c,h1,r,h2,h3⟩:=h;refine⟨c,by rw[jN fun q hq=>hl q.1 (by simp only[looks,bQ,aT];exact .inr ⟨q,hq,rfl⟩)];exact h1,r,?_,fun hc=>?_⟩
 ·rw[mV]at h2 ⊢;intro t ht cM;rw[hd t ht];exact h2 t ht (hlen▸cM)
 ·rw[tP fun t ht=>hl t (by simp only[looks,bQ];exact .inl ht)];exact h3 hc
theorem Fact.still{p:Pi}{fr:List V}{J J':ae}(h:Fact p fr J)(hr:p.i.reads=false):Fact p fr J':=by
 obtain⟨c,h1,r,h2,h3⟩:=h;exact⟨c,h1,r,h2,fun hc=>by rw[← B9 (J:=J) hr];exact h3 hc⟩
theorem xm.fact{p:Pi}{st:St}(h:xm p st):Fact p st.fr st.J:=by
 unfold xm at h;split at h
 ·rename_i c hc;split at h
  ·rename_i d hd;refine⟨c,hc,_,?_,h⟩;rw[mV];intro t ht hl;rw[hd]at ht;simp only[aa]at ht;subst ht;rw[ar,an hl];rfl
  ·rename_i hd
   by_cases Bq:c=true
   ·obtain⟨ob,r,h1,h2⟩:=h Bq;exact⟨c,hc,r,by rw[hd];rfl,fun _=>⟨ob,h1,h2⟩⟩
   ·exact⟨c,hc,.u,by rw[hd];rfl,fun h=>absurd h Bq⟩
 ·exact h.elim
theorem Iv{P:Program}{p:Pi}{K:St→Prop}{fr:List V}{J:ae}(h:gI P p K ⟨fr,J⟩)(hs:p.i.b9=true):
  ∃ c r,chainB fr p.g=some c∧K ⟨c8 fr p.d r,J⟩∧(c=true→∃ ob,aJ fr J p.i=some (ob,r)∧ob):=by
 have key:∀ K0,gK P p K0 ⟨fr,J⟩→∃ r,K0 ⟨c8 fr p.d r,J⟩∧∃ ob,aJ fr J p.i=some (ob,r)∧ob:=by
  intro K0 h0;obtain⟨d,g,i⟩:=p;cases i<;>first | (simp[I.b9]at hs;done) | skip
  all_goals
   simp only[gK]at h0;split at h0
   ·rename_i ob v hv;exact⟨v,h0.2,ob,hv,h0.1⟩
   ·rw[qV (by simpa using hs)]at h0;exact h0.elim
 unfold gI at h;split at h
 ·rename_i hg;obtain⟨r,h1,h2⟩:=key _ h;exact⟨true,r,by rw[hg];rfl,h1,fun _=>h2⟩
 ·split at h
  ·rename_i c hc;obtain⟨r,h1,h2⟩:=wP h (fun f args e=>by rw[e]at hs;simp[I.b9]at hs) fun x args e=>by rw[e]at hs;simp[I.b9]at hs
   by_cases Bq:c=true
   ·obtain⟨r',h3,h4⟩:=key _ (h2 Bq);simp only[St.mk.injEq,kD]at h3;subst Bq;refine⟨true,r',hc,?_,fun _=>h4⟩;rw[h3];exact h1
   ·exact⟨c,r,hc,h1,fun h=>absurd h Bq⟩
  ·exact h.elim
theorem sE{P:Program}{pis:List Pi}{K:St→Prop}{J:ae}:∀ (l:List Nat) (fr:List V),ix P [] (l.map (dB pis)) K ⟨fr,J⟩→(∀ i∈l,(dB pis i).i.b9=true) →
  l.Pairwise (fun i j=>∀ t,(dB pis j).d=some t→t ∉ looks (dB pis i)∧(dB pis i).d≠some t)→(∀ i∈l,∀ t,(dB pis i).d=some t→t ∉ looks (dB pis i)) →
  ∃ fr',K ⟨fr',J⟩∧(∀ i∈l,Fact (dB pis i) fr' J)∧(∀ t,(∀ i∈l,(dB pis i).d≠some t)→fr'[t]?=fr[t]?)∧fr'.length=fr.length
 | [],fr,h,_,_,_=>⟨fr,h,by simp,fun _ _=>rfl,rfl⟩
 | i::l,fr,h,hs,hp,rL=>by
  simp only[az,ix]at h;obtain⟨c,r,h1,h2,h3⟩:=Iv h (hs i (by simp));rw[gS]at hp;obtain⟨fr',h4,h5,h6,h7⟩:=sE l _ h2 (fun j hj=>hs j (by simp[hj])) hp.2 fun j hj=>rL j (by simp[hj])
  have KR:∀ t∈looks (dB pis i),fr'[t]?=fr[t]?:=fun t ht=>by
   rw[h6 t fun j hj e=>(hp.1 j hj t e).1 ht];exact iw fun e=>rL i (by simp) t e ht
  refine⟨fr',h4,fun j hj=>?_,fun t ht=>?_,by rw[h7,lR]⟩
  ·rcases bn.1 hj with rfl | hj
   ·refine⟨c,by rw[jN fun q hq=>KR q.1 (by simp only[looks,bQ,aT];exact .inr ⟨q,hq,rfl⟩)];exact h1,r,?_,fun hc=>?_⟩
    ·rw[mV];intro t ht cM;rw[h6 t fun k hk e=>(hp.1 k hk t e).2 ht,ht];have:t<fr.length:=by rw[h7,lR]at cM;exact cM
     simp only[c8,ak this]
    ·rw[tP fun t ht=>KR t (by simp only[looks,bQ];exact .inl ht)];exact h3 hc
   ·exact h5 j hj
  ·rw[h6 t fun j hj=>ht j (by simp[hj])];exact iw (ht i (by simp))
structure vk (ops:Array Oper) (pis:List Pi) (bs:List Nat) (m:Nat) (ls fl:List Nat):Prop where
 mn:m≤pis.length
 back:∀ i o,ops[i]?=some o→∀ e∈o.after,Region.binds .any e=true→e.on<i
 LI:∀ (i j:Nat),i<pis.length→j<pis.length→tb bs i j=true→j<i∧∃ o,ops[i]?=some o∧∃ e∈o.after,Region.binds .any e=true∧(e.on=j∨tb bs e.on j=true)
 tail:∀ (i j:Nat),m≤i→i<pis.length→j<i→tb bs i j=true
 dst:∀ (i j:Nat) (t:Nat),i<m→j<m→(dB pis i).d=some t→(dB pis j).d=some t→i=j
 Cp:∀ (i:Nat),i<m→(dB pis i).i.b9=false→i∈ls∨i∈fl
 L9:∀ L∈ls,L<m∧(dB pis L).i.b9=false
 M8:∀ (j k L L':Nat),j<k→ls[j]?=some L'→ls[k]?=some L→tb bs L L'=true
 Bk:∀ (i k L:Nat),i<m→(dB pis i).i.b9=true→ls[k]?=some L→(tb bs i L=true↔k<yL bs ls i)
 slot:∀ (i:Nat) (s:Nat×List (Nat×Bool)) (j:Nat),i<m→s∈(dB pis i).i.lq→j<m→(dB pis j).d=some s.1→tb bs i j=true∧(dB pis j).g.isPrefixOf ((dB pis i).g++s.2)=true
 chain:∀ (i:Nat) (q:Nat×Bool),i<m→q∈(dB pis i).g→∃ j,j<m∧(dB pis j).d=some q.1∧tb bs i j=true
 last:∀ (i:Nat) (ch:List (Nat×Bool)) (t:Nat) (b:Bool) (j:Nat),i<m→(dB pis i).g=ch++[(t,b)]→j<m→(dB pis j).d=some t→(dB pis j).g=ch
 mono:∀ (i j t:Nat),i<m→(dB pis i).i.b9=true→j<m→(dB pis j).i.b9=true→(dB pis j).d=some t→t∈looks (dB pis i)→yL bs ls j≤yL bs ls i
theorem lE{P:Program}{ops:Array Oper}:∀ {l:List Oper} {ps:List Pi},nU P ops l=some ps→ps.length=l.length∧∀ (i:Nat) (o:Oper),l[i]?=some o→∃ p,ps[i]?=some p∧R4 P ops o=some p
 | [],ps,h=>by simp only[nU,aa]at h;subst h;simp
 | o::l,ps,h=>by
  simp only[nU]at h;split at h<;>simp only[aa,reduceCtorEq]at h;rename_i p qs hp UY;subst h;obtain⟨h1,h2⟩:=lE UY;refine⟨by simp[h1],fun i o' ho=>?_⟩;cases i with
  | zero=>simp only[au,aa]at ho;subst ho;exact⟨p,rfl,hp⟩
  | succ i=>exact h2 i o' (by simpa using ho)
abbrev il(listed:Array Bool)(i:Nat):Prop:=listed.getD i false=true
theorem dK{listed:Array Bool}{i j:Nat}(hi:i<listed.size):il (listed.setIfInBounds i true) j↔j=i∨il listed j:=by
 simp only[il,aZ]
 by_cases h:i=j
 ·subst h;simp[hi]
 ·rw[bS h];simp[PS h]
theorem oN{ops:Array Oper}{listed:Array Bool}{i:Nat}(hn:listed.size=ops.size)(h:i∈Region.ready .any ops listed):
  i<ops.size∧¬ il listed i∧∃ o,ops[i]?=some o∧∀ e∈o.after,Region.binds .any e=true→il listed e.on:=by
 obtain⟨h1,o,h2,h3⟩:=mem_ready.1 h;have hi:i<ops.size:=(aN.1 h2).1;refine⟨hi,?_,o,h2,h3⟩;simp only[il,aZ]at h1 ⊢;rw[aS (by rw[hn];exact hi)]at h1 ⊢;simp at h1 ⊢;exact h1
section
variable {P:Program} {ops:Array Oper} {pis:List Pi} {bs:List Nat} {m:Nat} {ls fl:List Nat}
theorem vk.ready(hX:vk ops pis bs m ls fl)(hn:pis.length=ops.size){listed:Array Bool}(eI:listed.size=ops.size)
  (hc:∀ i j,i<pis.length→j<pis.length→il listed i→tb bs i j=true→il listed j) {i:Nat} (h:i∈Region.ready .any ops listed) {j:Nat} (hj:j<pis.length) (ht:tb bs i j=true):il listed j:=by
 obtain⟨h1,h2,o,h3,h4⟩:=oN eI h;obtain⟨h5,o',h6,e,h7,h8,h9⟩:=hX.LI i j (by omega) hj ht;rw[h3]at h6;simp only[aa]at h6;subst h6;have CZ:=h4 e h7 h8;rcases h9 with rfl | h9
 ·exact CZ
 ·have:=hX.back i o h3 e h7 h8;exact hc e.on j (by omega) hj CZ h9
theorem vk.first(hX:vk ops pis bs m ls fl){listed:Array Bool}(eI:listed.size=ops.size)(h:Region.ready .any ops listed=[]):∀ i,i<ops.size→il listed i:=by
 intro i
 induction i using Nat.strongRecOn with
 | ind i ih =>
  intro hi;refine bc fun hn=>?_
  have:i∈Region.ready .any ops listed:=by
   rw[mem_ready];refine⟨?_,ops[i],by simp[hi],fun e he hb=>?_⟩
   ·simp only[il,aZ]at hn ⊢;rw[aS (by rw[eI];exact hi)]at hn ⊢;simp at hn ⊢;exact hn
   ·have hl:=hX.back i ops[i] (by simp[hi]) e he hb;exact ih e.on hl (by omega)
  rw[h]at this;simp at this
theorem yR{listed:Array Bool}(eI:listed.size=ops.size)(h:∀ i,i<ops.size→il listed i):Region.ready .any ops listed=[]:=by
 refine bD.2 fun i hi=>?_;obtain⟨h1,h2,_⟩:=oN eI hi;exact h2 (h i h1)
theorem vu(hX:vk ops pis bs m ls fl)(hp:nU P ops ops.toList=some pis){n B:Nat}{gs:List Nat}{w0 ws:World}{σs:ae}{μs:Mem}{K:St→Prop}{Q:Exit→Act→World→Prop}
  (hQ:∀ st w μ a,K st→fe P B w0 w st.J μ→FR w st.J μ st.fr a→dX n ws σs μs w st.J μ→Q .normal a w) :
  ∀ (fuel q:Nat) (listed:Array Bool) (D:List (Nat×List (Nat×Bool))) (fr:List V) (J:ae) (w:World) (μ:Mem) (a:Act),m≤q→q≤pis.length→listed.size=ops.size→(∀ i,i<pis.length→(il listed i↔i<q))→pis.length - q≤fuel →
   Bl D (pis.drop q) gs=true→ix P gs (pis.drop q) K ⟨fr,J⟩→fe P B w0 w J μ→yp w J μ fr (rH D) a→dX n ws σs μs w J μ→wpAny P .any ops Q fuel listed a w:=by
 have hn:pis.length=ops.size:=by rw[(lE hp).1,aF]
 intro fuel
 induction fuel with
 | zero =>
  intro q listed D fr J w μ a Yl hq eI hl hf hD hr hS hF hk;have hq':q=pis.length:=by omega
  subst hq';rw[uS]at hD hr;refine wpAny_done (yR eI fun i hi=>(hl i (by omega)).2 (by omega)) ?_ 0;exact hQ _ w μ a hr hS (hF.ends hD) hk
 | succ fuel ih =>
  intro q listed D fr J w μ a Yl hq eI hl hf hD hr hS hF hk
  by_cases hq':q=pis.length
  ·subst hq';rw[uS]at hD hr;refine wpAny_done (yR eI fun i hi=>(hl i (by omega)).2 (by omega)) ?_ _;exact hQ _ w μ a hr hS (hF.ends hD) hk
  ·have u4:q<pis.length:=by omega
   refine⟨fun h=>?_,fun i hi=>?_⟩
   ·have:=hX.first eI h q (by omega);rw[hl q u4]at this;omega
   ·obtain⟨h1,h2,o,h3,h4⟩:=oN eI hi
    have Yw:i=q:=by
     have h5:¬ i<q:=fun h=>h2 ((hl i (by omega)).2 h);refine bc fun gr=>?_
     have h6:=hX.ready hn eI (fun i' j hi' hj hli ht=>by
      rw[hl i' hi']at hli;have:=(hX.LI i' j hi' hj ht).1;exact(hl j hj).2 (by omega)) hi u4 (hX.tail i q (by omega) (by omega) (by omega))
     rw[hl q u4]at h6;omega
    subst Yw;obtain⟨p,h5,h6⟩:=(lE hp).2 i o (by simpa using h3)
    have Vr:pis.drop i=p::pis.drop (i+1):=by
     rw[eC u4];congr 1;rw[an u4]at h5;simpa using h5
    rw[Vr]at hD hr;simp only[Bl,aP]at hD;simp only[wpOp,h3];refine We h6 hS hF (Ci hD.1) hr ?_;intro r J' μ' a' w' k1 k2 k3 k4;rw[yw]at k3;exact ih (i+1) _ _ _ J' w' μ' a' (by omega) (by omega) (by simpa using eI) (fun j hj=>by rw[dK (by omega),hl j hj];omega) (by omega) hD.2 k1 k2 k3 (hk.trans k4.GZ)
end
def lx(pis:List Pi)(m:Nat)(listed:Array Bool)(t:Nat):Option (List (Nat×Bool)) :=
 match (List.range m).find? (fun i=>(dB pis i).d==some t)with
 | none=>some []
 | some i=>if listed.getD i false then some (dB pis i).g else none
section
variable {P:Program} {ops:Array Oper} {pis:List Pi} {bs:List Nat} {m:Nat} {ls fl:List Nat}
theorem vk.uU(hX:vk ops pis bs m ls fl){listed:Array Bool}{i t:Nat}(hi:i<m)(hd:(dB pis i).d=some t):lx pis m listed t=if listed.getD i false then some (dB pis i).g else none:=by
 unfold lx;split
 ·rename_i h;rw[List.find?_eq_none]at h;exact absurd (h i (b7.2 hi)) (by simp[hd])
 ·rename_i j h;have h1:=xR h;have h2:=b7.1 (se h);simp only[bN]at h1;rw[hX.dst j i t h2 hi h1 hd]
theorem yu{listed:Array Bool}{t:Nat}(h:∀ i,i<m→(dB pis i).d≠some t):lx pis m listed t=some []:=by
 unfold lx;split
 ·rfl
 ·rename_i j hj;have h1:=xR hj;have h2:=b7.1 (se hj);simp only[bN]at h1;exact absurd h1 (h j h2)
theorem jl{listed:Array Bool}{t:Nat}{ch:List (Nat×Bool)}(h:lx pis m listed t=some ch):
  (ch=[]∧∀ i,i<m→(dB pis i).d≠some t)∨∃ i,i<m∧(dB pis i).d=some t∧il listed i∧ch=(dB pis i).g:=by
 unfold lx at h;split at h
 ·rename_i hf;rw[List.find?_eq_none]at hf;simp only[aa]at h;exact .inl ⟨h.symm,fun i hi hd=>hf i (b7.2 hi) (by simp[hd])⟩
 ·rename_i j hj;have h1:=xR hj;have h2:=b7.1 (se hj);simp only[bN]at h1;split at h<;>simp only[aa,reduceCtorEq]at h;rename_i hl;exact .inr ⟨j,h2,h1,hl,h.symm⟩
theorem vk.nb(hX:vk ops pis bs m ls fl){i j t:Nat}(hi:i<m)(hj:j<m)(hd:(dB pis j).d=some t)(ht:t∈looks (dB pis i)):tb bs i j=true:=by
 simp only[looks,bQ,aT]at ht;rcases ht with⟨s,hs,rfl⟩ | ⟨q,hq,rfl⟩
 ·exact(hX.slot i s j hi hs hj hd).1
 ·obtain⟨j',h1,h2,h3⟩:=hX.chain i q hi hq;rw[hX.dst j j' _ hj h1 hd h2];exact h3
theorem vk.lt(hX:vk ops pis bs m ls fl){i j:Nat}(hi:i<m)(hj:j<m)(h:tb bs i j=true):j<i :=
 (hX.LI i j (cu hi hX.mn) (cu hj hX.mn) h).1
theorem vk.Ux(hX:vk ops pis bs m ls fl){listed:Array Bool}(hc:∀ i j,i<pis.length→j<pis.length→il listed i→tb bs i j=true→il listed j){i:Nat}(hi:i<m)(Ic:¬ il listed i)
  (lX:∀ j,j<pis.length→tb bs i j=true→il listed j):DA (lx pis m listed) (dB pis i):=by
 have hm:=hX.mn;refine⟨fun s hs=>?_,fun ch t b hg=>?_,fun d hd=>⟨fun q hq e=>?_,fun t ch ht q hq e=>?_⟩⟩
 ·by_cases hw:∃ j,j<m∧(dB pis j).d=some s.1
  ·obtain⟨j,hj,hd⟩:=hw;have:=hX.slot i s j hi hs hj hd;have hl:=lX j (by omega) this.1;refine⟨(dB pis j).g,?_,this.2⟩;rw[hX.uU hj hd,hl];rfl
  ·exact⟨[],yu fun j hj hd=>hw ⟨j,hj,hd⟩,by simp⟩
 ·obtain⟨j,hj,hd,ht⟩:=hX.chain i (t,b) hi (by rw[hg];simp);rw[hX.uU hj hd,lX j (by omega) ht,hX.last i ch t b j hi hg hj hd];rfl
 ·obtain⟨j,hj,hd',ht⟩:=hX.chain i q hi hq;rw[e]at hd';have:=hX.dst i j d hi hj hd hd';subst this;have:=hX.lt hi hi ht;omega
 ·rcases jl ht with⟨rfl,_⟩ | ⟨j,hj,KW,hlj,rfl⟩
  ·simp at hq
  ·obtain⟨j2,Ss,Sw,Pu⟩:=hX.chain j q hj hq;have EF:=hc j j2 (by omega) (by omega) hlj Pu;rw[e]at Sw;have:=hX.dst i j2 d hi Ss hd Sw;subst this;exact Ic EF
theorem vk.oG(hX:vk ops pis bs m ls fl){listed:Array Bool}{i:Nat}(hi:i<m)(KS:i<listed.size):oG (lx pis m listed) (dB pis i)=lx pis m (listed.setIfInBounds i true):=by
 funext t;simp only[Pm.oG]
 by_cases hd:(dB pis i).d=some t
 ·have:(listed.setIfInBounds i true).getD i false=true:=(dK KS).2 (.inl rfl);rw[aQ hd,hX.uU hi hd,this];rfl
 ·rw[aC hd];unfold lx;split
  ·rfl
  ·rename_i j hj;have h1:=xR hj;simp only[bN]at h1;have gr:j≠i:=fun e=>hd (e▸h1)
   have:(listed.setIfInBounds i true).getD j false=listed.getD j false:=by
    have h2:=dK (listed:=listed) (j:=j) KS;simp only[gr,qL,il]at h2;cases h3:listed.getD j false<;>simp_all
   rw[this]
def qm(P:Program)(pis:List Pi)(bs:List Nat)(m:Nat)(ls:List Nat)(Kt:St→Prop)(k:Nat)(fr:List V)(J:ae):Prop :=
 match ls[k]? with
 | some L=>gI P (dB pis L) (fun st2=>(∀ p∈(LO pis bs m ls k L).map (dB pis),xm p st2)∧oz P (xK pis bs m ls (k+1) (ls.drop (k+1))) ((kR pis bs m ls ls.length).map (dB pis)) Kt st2) ⟨fr,J⟩
 | none=>Kt ⟨fr,J⟩
theorem cT{k i:Nat}:i∈kR pis bs m ls k↔i<m∧(dB pis i).i.b9=true∧yL bs ls i=k:=by
 simp[kR]
theorem vk.Pk(hX:vk ops pis bs m ls fl){Kt:St→Prop}{k:Nat}(hk:k≤ls.length){fr:List V}{J:ae}
  (h:oz P (xK pis bs m ls k (ls.drop k)) ((kR pis bs m ls ls.length).map (dB pis)) Kt ⟨fr,J⟩) :
  ∃ fr',qm P pis bs m ls Kt k fr' J∧(∀ i∈kR pis bs m ls k,Fact (dB pis i) fr' J)∧(∀ t,(∀ i∈kR pis bs m ls k,(dB pis i).d≠some t)→fr'[t]?=fr[t]?)∧fr'.length=fr.length:=by
 have Gi:(kR pis bs m ls k).Pairwise (fun i j=>∀ t,(dB pis j).d=some t→t ∉ looks (dB pis i)∧(dB pis i).d≠some t):=by
  refine V7 ?_ (List.Pairwise.filter _ aao);intro i j hi hj cM t hd
  replace hi:=(cT (k:=k)).1 hi
  replace hj:=(cT (k:=k)).1 hj
  refine⟨fun ht=>?_,fun hd'=>?_⟩
  ·have:=hX.lt hi.1 hj.1 (hX.nb hi.1 hj.1 hd ht);omega
  ·have:=hX.dst i j t hi.1 hj.1 hd' hd;omega
 have rL:∀ i∈kR pis bs m ls k,∀ t,(dB pis i).d=some t→t ∉ looks (dB pis i):=fun i hi t hd ht=>by
  rw[cT]at hi;have:=hX.lt hi.1 hi.1 (hX.nb hi.1 hi.1 hd ht);omega
 have Ie:∀ i∈kR pis bs m ls k,(dB pis i).i.b9=true:=fun i hi=>(cT.1 hi).2.1
 by_cases oE:k<ls.length
 ·have e:ls.drop k=ls[k]::ls.drop (k+1):=eC oE;rw[e]at h;simp only[xK,oz]at h;obtain⟨fr',h1,h2,h3,h4⟩:=sE _ _ h Ie Gi rL;refine⟨fr',?_,h2,h3,h4⟩;simp only[qm,an oE];exact h1
 ·have hk':k=ls.length:=by omega
  subst hk';rw[uS]at h;simp only[xK,oz]at h;obtain⟨fr',h1,h2,h3,h4⟩:=sE _ _ h Ie Gi rL;refine⟨fr',?_,h2,h3,h4⟩;have e:ls[ls.length]?=none:=a7 (aq _);simp only[qm,e];exact h1
def zI(n:Nat)(listed:Array Bool):Nat:=((List.range n).filter fun i=>!listed.getD i false).length
theorem BC{n m:Nat}{listed:Array Bool}(hm:m≤n)(h:∀ i,m≤i→i<n→¬ il listed i):n - m≤zI n listed:=by
 have e:List.range n=List.range m++(List.range (n - m)).map (m+·):=by rw[← List.range_add];congr 1;omega
 unfold zI;rw[e,gT,al]
 have:((List.range (n - m)).map (m+·)).filter (fun i=>!listed.getD i false)=(List.range (n - m)).map (m+·):=by
  rw[iQ];intro i hi;simp only[aT,b7]at hi;obtain⟨j,hj,rfl⟩:=hi;have:=h (m+j) (by omega) (by omega);simpa[il]using this
 rw[this];simp
theorem Fv{n:Nat}{listed:Array Bool}{i:Nat}(hi:i<n)(h:¬ il listed i):0<zI n listed:=by
 unfold zI;rw[List.length_pos_iff_exists_mem];exact⟨i,by simp only[cc,b7];exact⟨hi,by simpa[il]using h⟩⟩
theorem Fu{n:Nat}{listed:Array Bool}{i:Nat}(hi:i<n)(KS:i<listed.size)(h:¬ il listed i):zI n (listed.setIfInBounds i true)+1≤zI n listed:=by
 induction n with
 | zero=>omega
 | succ n ih =>
  have ex:∀ l:Array Bool,zI (n+1) l=zI n l+if l.getD n false then 0 else 1:=by
   intro l;unfold zI;rw[O6,gT,al];congr 1;rw[dz];cases hl:l.getD n false<;>rfl
  rw[ex,ex]
  by_cases hn:i=n
  ·subst hn;have h1:(listed.setIfInBounds i true).getD i false=true:=(dK KS).2 (.inl rfl);have h2:listed.getD i false=false:=by simpa[il]using h
   rw[h1,h2]
   have:zI i (listed.setIfInBounds i true)=zI i listed:=by
    unfold zI;congr 1;refine List.filter_congr fun j hj=>?_;rw[b7]at hj;have h2:=dK (listed:=listed) (j:=j) KS;have gr:j≠i:=by omega
    simp only[gr,qL,il]at h2;cases h3:listed.getD j false<;>simp_all
   simp[this]
  ·have h1:=ih (by omega);have h2:=dK (listed:=listed) (j:=n) KS;have gr:n≠i:=fun e=>hn e.symm;simp only[gr,qL,il]at h2;have:(listed.setIfInBounds i true).getD n false=listed.getD n false:=by cases h3:listed.getD n false<;>simp_all
   rw[this];omega
def D0(pis:List Pi)(m:Nat):List (Nat×List (Nat×Bool)):=(List.range m).filterMap fun i=>(dB pis i).d.map fun d=>(d,(dB pis i).g)
theorem Cr{t:Nat}{x:List (Nat×Bool)}:∀ {D:List (Nat×List (Nat×Bool))},(∀ v,(t,v)∈D→v=x)→(∃ v,(t,v)∈D)→nc D t=x
 | [],_,h=>by obtain⟨v,hv⟩:=h;simp at hv
 | (s,v)::D,h,he=>by
  simp only[nc,L8]
  by_cases XU:t=s
  ·subst XU;simp[h v (by simp)]
  ·have h2:(t==s)=false:=by simpa using XU
   rw[h2];refine Cr (D:=D) (fun v hv=>h v (by simp[hv])) ?_;obtain⟨v',hv'⟩:=he;rcases bn.1 hv' with e | hv'
   ·simp only[ao]at e;exact absurd e.1 XU
   ·exact⟨v',hv'⟩
theorem vk.all(hX:vk ops pis bs m ls fl){listed:Array Bool}(h:∀ i,i<m→il listed i):lx pis m listed=rH (D0 pis m):=by
 funext t
 have nO:∀ v,(t,v)∈D0 pis m↔∃ i,i<m∧(dB pis i).d=some t∧v=(dB pis i).g:=by
  intro v;simp only[D0,jt,b7,ah,ao];constructor
  ·rintro⟨i,hi,d,hd,rfl,rfl⟩;exact⟨i,hi,hd,rfl⟩
  ·rintro⟨i,hi,hd,rfl⟩;exact⟨i,hi,t,hd,rfl,rfl⟩
 by_cases hw:∃ i,i<m∧(dB pis i).d=some t
 ·obtain⟨i,hi,hd⟩:=hw;rw[hX.uU hi hd,h i hi];simp only[aR,rH,aa];refine(Cr (fun v hv=>?_) ⟨_,(nO _).2 ⟨i,hi,hd,rfl⟩⟩).symm;obtain⟨j,hj,KW,rfl⟩:=(nO v).1 hv;rw[hX.dst i j t hi hj hd KW]
 ·rw[yu fun i hi hd=>hw ⟨i,hi,hd⟩];simp only[rH,aa];rcases sW (D:=D0 pis m) (t:=t)with h1 | h1
  ·exact h1.symm
  ·obtain⟨i,hi,hd,_⟩:=(nO _).1 h1;exact absurd ⟨i,hi,hd⟩ hw
end
theorem Gw{P:Program}{p:Pi}{fr:List V}{J:ae}(h:Fact p fr J):GI P p (fun st'=>st'=⟨fr,J⟩) fr J:=by
 obtain⟨c,h1,r,h2,h3⟩:=h;cases c with
 | false=>exact⟨false,h1,.inr ⟨rfl,r,by rw[h2]⟩⟩
 | true =>
  obtain⟨ob,h4,h5⟩:=h3 rfl;refine⟨true,h1,.inl ⟨rfl,fun st'=>st'=⟨fr,J⟩,?_,fun _ h=>h⟩⟩;obtain⟨d,g,i⟩:=p;have hs:=rA h4;cases i<;>first | (simp[I.b9]at hs;done) | skip
  all_goals
   simp only[gK];simp only at h4 h2;rw[h4];exact⟨h5,by rw[h2]⟩
section
variable {P:Program} {ops:Array Oper} {pis:List Pi} {bs:List Nat} {m:Nat} {ls fl:List Nat}
theorem rz(hX:vk ops pis bs m ls fl)(hp:nU P ops ops.toList=some pis){n B:Nat}{gs:List Nat}{w0 ws:World}{σs:ae}{μs:Mem}{K:St→Prop}{Q:Exit→Act→World→Prop}
  (hQ:∀ st w μ a,K st→fe P B w0 w st.J μ→FR w st.J μ st.fr a→dX n ws σs μs w st.J μ→Q .normal a w) (ht:Bl (D0 pis m) (pis.drop m) gs=true) :
  ∀ (fuel k:Nat) (listed:Array Bool) (fr:List V) (J:ae) (w:World) (μ:Mem) (a:Act),listed.size=ops.size→(∀ f∈fl,il listed f) →
   (∀ i j,i<pis.length→j<pis.length→il listed i→tb bs i j=true→il listed j)→(∀ i,m≤i→i<pis.length→¬ il listed i)→k≤ls.length →
   (∀ j L,ls[j]?=some L→(il listed L↔j<k))→(∀ i,i<m→(dB pis i).i.b9=true→yL bs ls i≤k→¬ il listed i→Fact (dB pis i) fr J) →
   qm P pis bs m ls (ix P gs (pis.drop m) K) k fr J→zI pis.length listed≤fuel →
   fe P B w0 w J μ→yp w J μ fr (lx pis m listed) a→dX n ws σs μs w J μ→wpAny P .any ops Q fuel listed a w:=by
 have hn:pis.length=ops.size:=by rw[(lE hp).1,aF]
 have hm:=hX.mn;intro fuel
 induction fuel with
 | zero =>
  intro k listed fr J w μ a eI si hc xM hk nw xO wF hu hS hF EG;have CP:∀ i,i<pis.length→il listed i:=fun i hi=>bc fun h=>by have:=Fv hi h;omega
  have lX:∀ i,i<m→il listed i:=fun i hi=>CP i (by omega)
  have oE:k=ls.length:=by
   refine bc fun gr=>?_;have cM:k<ls.length:=by omega
   have:=(nw k ls[k] (an cM)).1 (lX _ (hX.L9 _ (cg cM)).1);omega
  subst oE;have e:ls[ls.length]?=none:=a7 (aq _);simp only[qm,e]at wF;rw[hX.all lX]at hF
  exact vu hX hp hQ 0 m listed _ fr J w μ a (aq _) hm eI (fun i hi=>⟨fun h=>bc fun h2=>xM i (by omega) hi h,fun h=>lX i h⟩) (by
   have:=BC hm xM;omega) ht wF hS hF EG
 | succ fuel ih =>
  intro k listed fr J w μ a eI si hc xM hk nw xO wF hu hS hF EG
  by_cases lX:∀ i,i<m→il listed i
  ·have oE:k=ls.length:=by
    refine bc fun gr=>?_;have cM:k<ls.length:=by omega
    have:=(nw k ls[k] (an cM)).1 (lX _ (hX.L9 _ (cg cM)).1);omega
   subst oE;have e:ls[ls.length]?=none:=a7 (aq _);simp only[qm,e]at wF;rw[hX.all lX]at hF
   exact vu hX hp hQ _ m listed _ fr J w μ a (aq _) hm eI (fun i hi=>⟨fun h=>bc fun h2=>xM i (by omega) hi h,fun h=>lX i h⟩) (by
    have:=BC hm xM;omega) ht wF hS hF EG
  ·refine⟨fun h=>absurd (fun i hi=>hX.first eI h i (by omega)) lX,fun i hi=>?_⟩;obtain⟨hio,Ic,o,ho,_⟩:=oN eI hi;have CV:i<pis.length:=by omega
   have zn:∀ j,j<pis.length→tb bs i j=true→il listed j:=fun j hj ht=>hX.ready hn eI hc hi hj ht
   have yg:i<m:=by
    refine bc fun h=>lX fun j hj=>?_;exact zn j (by omega) (hX.tail i j (by omega) CV (by omega))
   obtain⟨p,Yd,I5⟩:=(lE hp).2 i o (by simpa using ho);have mi:dB pis i=p:=by simp[dB,ar,Yd]
   have fQ:DA (lx pis m listed) p:=mi▸hX.Ux hc yg Ic zn
   have hclos':∀ x j,x<pis.length→j<pis.length→il (listed.setIfInBounds i true) x→tb bs x j=true→il (listed.setIfInBounds i true) j:=by
    intro x j hx hj hl ht;rw[dK (by omega)]at hl ⊢;rcases hl with rfl | hl
    ·exact .inr (zn j hj ht)
    ·exact .inr (hc x j hx hj hl ht)
   have htl':∀ x,m≤x→x<pis.length→¬ il (listed.setIfInBounds i true) x:=by
    intro x hx XN hl;rw[dK (by omega)]at hl;rcases hl with rfl | hl
    ·omega
    ·exact xM x hx XN hl
   have hu':zI pis.length (listed.setIfInBounds i true)≤fuel:=by
    have:=Fu CV (by omega:i<listed.size) Ic;omega
   have QT:∀ x,x<m→(dB pis x).i.b9=true→(∀ j,j<pis.length→tb bs x j=true→il listed j)→yL bs ls x≤k:=by
    intro x hx hs hal';refine bc fun cM=>?_;have h1:yL bs ls x≤ls.length:=dQ _ _;have h2:k<ls.length:=by omega
    have h3:=(hX.Bk x k ls[k] hx hs (an h2)).2 (by omega);have h4:=hal' ls[k] (by have:=(hX.L9 _ (cg h2)).1;omega) h3;have:=(nw k ls[k] (an h2)).1 h4;omega
   simp only[wpOp,ho]
   by_cases hs:p.i.b9=true
   ·
    have nN:(dB pis i).i.b9=true:=by rw[mi];exact hs
    have hf:=xO i yg nN (QT i yg nN zn) Ic;rw[mi]at hf;refine Qh I5 hS hF fQ (Gw hf) ?_;intro r J' μ' a' w' k1 k2 k3 k4;simp only[St.mk.injEq]at k1;obtain⟨k1,rfl⟩:=k1;rw[k1]at k3;have e:oG (lx pis m listed) p=lx pis m (listed.setIfInBounds i true):=by rw[← mi];exact hX.oG yg (by omega)
    rw[e]at k3;refine ih k _ fr J' w' μ' a' (by simpa using eI) (fun f hf=>(dK (by omega)).2 (.inr (si f hf))) hclos' htl' hk (fun j L hL=>?_) (fun x hx sf QN qU=>xO x hx sf QN fun h=>qU ((dK (by omega)).2 (.inr h))) wF hu' k2 k3 (EG.trans k4.GZ);rw[dK (by omega),nw j L hL]
    have:L≠i:=fun e=>by
     have:=(hX.L9 L (aL hL)).2;rw[e,nN]at this;simp at this
    simp[this]
   ·
    have nN:(dB pis i).i.b9=false:=by rw[mi];simpa using hs
    obtain⟨j,hj⟩:=cU.1 ((hX.Cp i yg nN).resolve_right fun h=>Ic (si i h))
    have Gm:j=k:=by
     have h1:¬ j<k:=fun h=>Ic ((nw j i hj).2 h);refine bc fun gr=>?_;have jr:=(ab.1 hj).1;have oE:k<ls.length:=by omega
     have h2:=hX.M8 k j i ls[k] (by omega) (an oE) hj;have h3:=zn ls[k] (by have:=(hX.L9 _ (cg oE)).1;omega) h2;have:=(nw k ls[k] (an oE)).1 h3;omega
    subst Gm;have jr:j<ls.length:=(ab.1 hj).1;simp only[qm,hj,mi]at wF;refine We I5 hS hF fQ wF ?_;intro r J' μ' a' w' k1 k2 k3 k4;obtain⟨Q8,cx⟩:=k1;obtain⟨fr',h1,h2,h3,h4⟩:=hX.Pk (k:=j+1) (by omega) cx;have e:oG (lx pis m listed) p=lx pis m (listed.setIfInBounds i true):=by rw[← mi];exact hX.oG yg (by omega)
    rw[e]at k3
    have ik:∀ x∈kR pis bs m ls (j+1),¬ il (listed.setIfInBounds i true) x:=by
     intro x hx hl;rw[cT]at hx;rw[dK (by omega)]at hl;rcases hl with rfl | hl
     ·rw[nN]at hx;simp at hx
     ·have:=QT x hx.1 hx.2.1 fun y hy ht=>hc x y (by omega) hy hl ht;omega
    have wO:∀ t y,y<m→(dB pis y).d=some t→il (listed.setIfInBounds i true) y→fr'[t]?=(c8 fr p.d r)[t]?:=by
     intro t y hy hd hl;refine h3 t fun x hx UL=>ik x hx ?_;rw[hX.dst x y t (cT.1 hx).1 hy UL hd];exact hl
    have hF':yp w' J' μ' fr' (lx pis m (listed.setIfInBounds i true)) a':=by
     refine⟨k3.1,by rw[h4];exact k3.2.1,fun t x hx ch uc=>?_⟩
     have Mb:fr'[t]?=(c8 fr p.d r)[t]?:=by
      rcases jl uc with⟨_,zh⟩ | ⟨y,hy,hd,hl,_⟩
      ·exact h3 t fun x hx=>zh x (cT.1 hx).1
      ·exact wO t y hy hd hl
     have wL:chainB fr' ch=chainB (c8 fr p.d r) ch:=by
      refine jN fun q hq=>?_;rcases jl uc with⟨rfl,_⟩ | ⟨y,hy,hd,hl,rfl⟩
      ·simp at hq
      ·obtain⟨z,hz,XJ,XI⟩:=hX.chain y q hy hq;exact wO q.1 z hz XJ (hclos' y z (by omega) (by omega) hl XI)
     rw[wL];rw[Mb]at hx;exact k3.2.2 t x hx ch uc
    refine ih (j+1) _ fr' J' w' μ' a' (by simpa using eI) (fun f hf=>(dK (by omega)).2 (.inr (si f hf))) hclos' htl' (by omega) (fun y L hL=>?_) (fun x hx sf QN qU=>?_) h1 hu' k2 hF' (EG.trans k4.GZ)
    ·rw[dK (by omega),nw y L hL];constructor
     ·rintro(rfl | h)
      ·refine bc fun gr=>?_;have h5:=hX.M8 j y L L (by omega) hj hL;have:=hX.lt yg yg h5;omega
      ·omega
     ·intro h;rcases ft y j with h5 | h5
      ·exact .inr h5
      ·have:y=j:=by omega
       subst this;rw[hL]at hj;simp only[aa]at hj;exact .inl hj
    ·by_cases Sk:yL bs ls x=j+1
     ·exact h2 x (cT.2 ⟨hx,sf,Sk⟩)
     ·have hxj':yL bs ls x≤j:=by omega
      have Kx:¬ il listed x:=fun h=>qU ((dK (by omega)).2 (.inr h));have QW:¬ tb bs i x=true:=fun h=>Kx (zn x (by omega) h)
      have AS:Fact (dB pis x) (c8 fr p.d r) J':=by
       by_cases hr:(dB pis x).i.reads=true
       ·exact(Q8 (dB pis x) (aT.2 ⟨x,by simp[LO,hx,sf,hr,hxj',QW],rfl⟩)).fact
       ·have hr':(dB pis x).i.reads=false:=by simpa using hr
        refine Fact.still (Fact.agree (xO x hx sf hxj' Kx) (fun t ht=>?_) (fun t ht=>?_) lR) hr'
        ·refine iw fun hd=>?_;have h5:=hX.nb hx yg (mi▸hd) ht;have:=(hX.Bk x j i hx sf hj).1 h5;omega
        ·refine iw fun hd=>?_;have:=hX.dst x i t hx yg ht (mi▸hd);subst this;rw[sf]at nN;simp at nN
      refine Fact.agree AS (fun t ht=>?_) (fun t ht=>?_) h4
      ·refine h3 t fun y hy NM=>?_;rw[cT]at hy;have:=hX.mono x y t hx sf hy.1 hy.2.1 NM ht;omega
      ·refine h3 t fun y hy NM=>?_;rw[cT]at hy;have:=hX.dst x y t hx hy.1 ht NM;subst this;omega
end
def MW(ops:Array Oper)(pis:List Pi)(bs:List Nat)(m:Nat)(ls fl:List Nat):Bool :=
 decide (m≤pis.length) &&
 (((List.range ops.size).all fun i=>match ops[i]? with
  | some o=>o.after.toList.all fun e=>!Region.binds .any e||decide (e.on<i)
  | none=>true) &&
 (((List.range pis.length).all fun i=>(List.range pis.length).all fun j=>!tb bs i j||(decide (j<i)&&match ops[i]? with
  | some o=>o.after.toList.any fun e=>Region.binds .any e&&(e.on==j||tb bs e.on j)
  | none=>false)) &&
 (((List.range pis.length).all fun i=>decide (i<m)||(List.range i).all fun j=>tb bs i j) &&
 (((List.range m).all fun i=>(List.range i).all fun j=>match (dB pis i).d with
  | none=>true
  | some t=>(dB pis j).d != some t) &&
 (((List.range m).all fun i=>(dB pis i).i.b9||(ls.contains i||fl.contains i)) &&
 ((ls.all fun L=>decide (L<m)&&!(dB pis L).i.b9) &&
 (((List.range ls.length).all fun k=>(List.range k).all fun j=>tb bs (ls.getD k 0) (ls.getD j 0)) &&
 (((List.range m).all fun i=>!(dB pis i).i.b9||(List.range ls.length).all fun k=>tb bs i (ls.getD k 0)==decide (k<yL bs ls i)) &&
 (((List.range m).all fun i=>(dB pis i).i.lq.all fun s=>(List.range m).all fun j=>(dB pis j).d != some s.1||(tb bs i j&&(dB pis j).g.isPrefixOf ((dB pis i).g++s.2))) &&
 (((List.range m).all fun i=>(dB pis i).g.all fun q=>(List.range m).any fun j=>(dB pis j).d==some q.1&&tb bs i j) &&
 (((List.range m).all fun i=>match (dB pis i).g.getLast? with
  | none=>true
  | some q=>(List.range m).all fun j=>(dB pis j).d != some q.1||(dB pis j).g==(dB pis i).g.dropLast) &&
 ((List.range m).all fun i=>!(dB pis i).i.b9||(List.range m).all fun j=>!(dB pis j).i.b9||match (dB pis j).d with
  | none=>true
  | some t=>!(looks (dB pis i)).contains t||decide (yL bs ls j≤yL bs ls i)))))))))))))
section
variable {P:Program} {ops:Array Oper} {pis:List Pi} {bs:List Nat} {m:Nat} {ls fl:List Nat}
theorem AX{ls:List Nat}{k L:Nat}(h:ls[k]?=some L):ls.getD k 0=L:=by rw[ar,h];rfl
theorem JX(h:MW ops pis bs m ls fl=true)(_hn:pis.length=ops.size):vk ops pis bs m ls fl:=by
 simp only[MW,aP,cj,b7,a8]at h;obtain⟨h1,h2,h3,h4,h5,h6,h7,h8,h9,CZ,uG,Mm,VH⟩:=h;constructor
 ·exact h1
 ·intro i o ho e he hb;have:=h2 i (aN.1 ho).1;rw[ho]at this;simp only[cj,da,eH,a8]at this;rcases this e (Array.mem_toList_iff.2 he)with h | h
  ·rw[hb]at h;simp at h
  ·exact h
 ·intro i j hi hj ht;have:=h3 i hi j hj;rw[ht]at this;simp only[gE,jE,aP,a8]at this;refine⟨this.1,?_⟩;have h:=this.2;split at h
  ·rename_i o ho;simp only[List.any_eq_true,aP,da,bN]at h;obtain⟨e,he,hb,Yf⟩:=h;exact⟨o,ho,e,Array.mem_toList_iff.1 he,hb,Yf⟩
  ·simp at h
 ·intro i j U9 hi hj;have:=h4 i hi;simp only[da,a8,cj,b7]at this;rcases this with h | h
  ·omega
  ·exact h j hj
 ·intro i j t hi hj Mi KW
  have key:∀ i j,i<m→j<i→(dB pis i).d=some t→(dB pis j).d=some t→False:=by
   intro i j hi hj Mi KW;have:=h5 i hi j hj;rw[Mi]at this;simp only[kC,gC]at this;exact this KW
  rcases Nat.lt_trichotomy i j with h | h | h
  ·exact(key j i hj h KW Mi).elim
  ·exact h
  ·exact(key i j hi h Mi KW).elim
 ·intro i hi hs;have:=h6 i hi;rw[hs]at this;simpa using this
 ·intro L hL;have:=h7 L hL;simpa using this
 ·intro j k L L' Gm hL' hL;have:=h8 k (ab.1 hL).1 j Gm
  rwa [AX hL,AX hL']at this
 ·intro i k L hi hs hL;have:=h9 i hi;rw[hs]at this;simp only[gE,jE,cj,b7,bN]at this;have:=this k (ab.1 hL).1;rw[AX hL]at this;rw[this];simp
 ·intro i s j hi hs hj hd;have:=CZ i hi s hs j hj;simp only[da,kC,gC,aP]at this;rcases this with h | h
  ·exact absurd hd h
  ·exact h
 ·intro i q hi hq;have:=uG i hi q hq;simp only[List.any_eq_true,b7,aP,bN]at this;obtain⟨j,hj,h⟩:=this;exact⟨j,hj,h⟩
 ·intro i ch t b j hi hg hj hd;have:=Mm i hi;rw[hg]at this;simp only[kF,iV,qM,List.dropLast_concat,cj,b7,da,kC,gC,bN]at this;rcases this j hj with h | h
  ·exact absurd hd h
  ·exact h
 ·intro i j t hi hs hj Mc hd ht;have:=VH i hi;rw[hs]at this;simp only[gE,jE,cj,b7]at this;have:=this j hj;rw[Mc,hd]at this;simp only[gE,jE,da,eH,a8]at this;rcases this with h | h
  ·simp at h;exact absurd ht h
  ·exact h
def mX(bs:List Nat):Nat→Nat
 | 0=>0
 | i+1=>if bs.getD i 0==2^i - 1 then mX bs i else i+1
theorem ru{n B:Nat}{gs:List Nat}{K:St→Prop}{Q:Exit→Act→World→Prop}(hp:nU P ops ops.toList=some pis)(fQ:MW ops pis bs m ls []=true)
  (ht:Bl (D0 pis m) (pis.drop m) gs=true) {fr:List V} {J:ae} {w0 w:World} {μ:Mem} {a:Act}
  (h:oz P (xK pis bs m ls 0 ls) ((kR pis bs m ls ls.length).map (dB pis)) (ix P gs (pis.drop m) K) ⟨fr,J⟩)
  (hS:fe P B w0 w J μ) (hF:FR w J μ fr a)
  (hQ:∀ st' w' μ' a',K st'→fe P B w0 w' st'.J μ'→FR w' st'.J μ' st'.fr a'→dX n w J μ w' st'.J μ'→Q .normal a' w'):wpAny P .any ops Q ops.size (Array.replicate ops.size false) a { w with drawn:=w.drawn+1 }:=by
 have hn:pis.length=ops.size:=by rw[(lE hp).1,aF]
 have hX:=JX fQ hn;obtain⟨hS',I1⟩:=hS.grown (w':={ w with drawn:=w.drawn+1 }) ⟨rfl,rfl,rfl,aq _,fun _ _ _=>rfl⟩;have hF':=hF.dY I1.dY;obtain⟨fr',h1,h2,h3,h4⟩:=hX.Pk (k:=0) (eX _) (by simpa using h)
 have sg:∀ i,¬ il (Array.replicate ops.size false) i:=by
  intro i;simp only[il,aZ,tF];split<;>simp
 refine rz (n:=n) hX hp (fun st' w' μ' a' k1 k2 k3 k4=>hQ st' w' μ' a' k1 k2 k3 (dX.trans I1.dY.GZ k4)) ht ops.size 0 _ fr' J _ μ a (by simp) (by simp) (fun i j _ _ hl=>absurd hl (sg i)) (fun i _ _=>sg i) (eX _)
  (fun j L hL=>⟨fun hl=>absurd hl (sg L),fun h=>by omega⟩) (fun i hi hs QT _=>h2 i (cT.2 ⟨hi,hs,by omega⟩)) h1 (by rw[hn];unfold zI;exact bl (dQ _ _) (by simp)) hS' ?_ (dX.refl _ _ _ _)
 refine⟨hF'.1,by rw[h4];exact hF'.2.1,fun t x hx ch uc=>?_⟩;rcases jl uc with⟨rfl,zh⟩ | ⟨y,hy,hd,hl,_⟩
 ·rw[h3 t fun i hi=>zh i (cT.1 hi).1]at hx;exact⟨fun _=>hF'.2.2 t x hx,fun h=>by simp[chainB]at h⟩
 ·exact absurd hl (sg y)
theorem B0{id n B:Nat}{gs:List Nat}{K:St→Prop}{Q:Exit→Act→World→Prop}(hm:P.follows .mixedOrders=true)(hp:nU P ops ops.toList=some pis)(fQ:MW ops pis bs m ls []=true)
  (ht:Bl (D0 pis m) (pis.drop m) gs=true) {fr:List V} {J:ae} {w0 w:World} {μ:Mem} {a:Act}
  (h:oz P (xK pis bs m ls 0 ls) ((kR pis bs m ls ls.length).map (dB pis)) (ix P gs (pis.drop m) K) ⟨fr,J⟩)
  (hS:fe P B w0 w J μ) (hF:FR w J μ fr a)
  (hQ:∀ st' w' μ' a',K st'→fe P B w0 w' st'.J μ'→FR w' st'.J μ' st'.fr a'→dX n w J μ w' st'.J μ'→Q .normal a' w'):(Code.region id ops true).wp P Q a w :=
 wp_region_any hm (ru hp fQ ht h hS hF hQ)
end
end Go.Pm

/- A part of a proof; the claim's last text says of what. -/
import Derived.Orders
import Derived.Test.YtlakkaamfadipaaGreatDoorV11
set_option linter.all false

namespace Go.Pm
open Go Go.RowKit
structure Pi where
 d:Option Nat
 g:List (Nat×Bool)
 i:I
def zm(d x:Nat):Pi:=⟨some d,[],.aT (.t x)⟩
def zl(d x:Nat):Pi:=⟨some d,[],.load none (.t x)⟩
def zL(d k x:Nat):Pi:=⟨some d,[],.load (some k) (.t x)⟩
def zf(d o x:Nat):Pi:=⟨some d,[],.fv o (.t x)⟩
def z(d:Nat)(i:I):Pi:=⟨some d,[],i⟩
def zs(i:I):Pi:=⟨none,[],i⟩
def tH(ops:Array Oper):Nat→Option (Nat×Bool)→Option (List (Nat×Bool))
 | _,none=>some []
 | 0,some _=>none
 | f+1,some (j,b)=>match ops[j]? with
  | some o=>match o.dst,tH ops f o.guard with
   | some t,some ch=>some (ch++[(t,b)])
   | _,_=>none
  | none=>none
def U6(P:Program)(ops:Array Oper)(o:Oper):Option Pi :=
 match tH ops 8 o.guard with
 | some g=>some ⟨o.dst,g,(compile P o).getD .stop⟩
 | none=>none
def oS(P:Program)(ops:Array Oper):List Oper→Option (List Pi)
 | []=>some []
 | o::os=>match U6 P ops o,oS P ops os with
  | some p,some ps=>some (p::ps)
  | _,_=>none
def dh(fr:List V):Option Nat→V→List V
 | none,_=>fr
 | some n,v=>fr.set n v
def DY(P:Program)(f:Nat):Bool:=match P.funcs[f]? with
 | some fn=>fn.body.isSome&&fn.name != "runtime.NumGoroutine"
 | none=>false
def iv(P:Program)(p:Pi)(K:St→Prop)(st:St):Prop :=
 match p.i with
 | .call f args=>PC P f (args.map (ev st.fr)) st.J (fun r J'=>K ⟨dh st.fr p.d r,J'⟩)
 | .kJ x args=>match ev st.fr x with
  | .fn f caps=>DY P f=true∧PC P f (args.map (ev st.fr)++caps) st.J (fun r J'=>K ⟨dh st.fr p.d r,J'⟩)
  | _=>False
 | .next x=>match xX st.J (ev st.fr x)with
  | some (j,m,E,n,ps)=>(ps=[]→K ⟨dh st.fr p.d (.fu [.b false]),st.J⟩)∧∀ q∈ps,K ⟨dh st.fr p.d (.fu [.b true,.u,.u]),st.J.set j (.iter false m E n (ps.filter fun i=>i != q) (some q))⟩
  | none=>False
 | i=>match aQ st.fr st.J i with
  | some (ob,v)=>ob∧K ⟨dh st.fr p.d v,st.J⟩
  | none=>match bO st.fr st.J i with
   | some (ob,v,J')=>ob∧K ⟨dh st.fr p.d v,J'⟩
   | none=>False
theorem FR.put{w:World}{J:ae}{μ:Mem}{fr:List V}{a:Act}(h:FR w J μ fr a)(d:Option Nat){x:V}{v:Value}(hx:VR w J μ x v):FR w J μ (dh fr d x) (a.put d v):=by
 cases d with
 | none=>exact h
 | some n =>
  obtain⟨h1,h2,h3⟩:=h;refine⟨h1,by simp[Act.put,dh,h2],fun i y hy=>?_⟩;simp only[dh]at hy;simp only[Act.put]
  by_cases hi:n=i
  ·subst hi
   by_cases hl:n<fr.length
   ·rw[ao hl]at hy;simp only[aa]at hy;subst hy;have:n<a.tmps.size:=by omega
    simpa[this]using hx
   ·rw[bn (by simp;omega)]at hy;simp at hy
  ·rw[aK hi]at hy;have:=h3 i y hy;simp only[bl,cd hi]at this ⊢;exact this
theorem G8{P:Program}{o:Oper}{a:Act}{w:World}{f:Nat}{args:Array Operand}{ts:Array TypeId}{fn:Func}(ho:o.op=.call { callee:=.value (.func f),args,argTypes:=ts })(hf:P.funcs[f]?=some fn)(hb:fn.body.isSome=true)(hn:fn.name ≠ "runtime.NumGoroutine") :
  (execOp a.eval o).run P w=.ok (.enter f (args.map a.eval)) w:=by
 have h1:(fn.name == "runtime.NumGoroutine")=false:=by simpa using hn
 have h2:fn.body.isNone=false:=by cases hq:fn.body<;>simp_all
 simp only[execOp,ho,resolve,Act.eval,Deferred.ofValue,invoke,callFunc,Sem.run_bind,Sem.run_pure,Result.andThen_ok,run_program,hf,h1,h2,aA,aJ,Hl,Hm]
theorem EZ{P:Program}{o:Oper}{a:Act}{w:World}{t f:Nat}{args:Array Operand}{ts:Array TypeId}{vs:Array Value}(ho:o.op=.call { callee:=.value (.tmp t),args,argTypes:=ts })(hv:a.tmps.getD t undef=.func (.func f) #[] vs)(hf:DY P f=true):
  (execOp a.eval o).run P w=.ok (.enter f (args.map a.eval++vs)) w:=by
 unfold DY at hf;split at hf
 ·rename_i fn yf;simp only[aG,mQ,eX]at hf;have h1:(fn.name == "runtime.NumGoroutine")=false:=by simpa using hf.2
  have h2:fn.body.isNone=false:=by cases hq:fn.body<;>simp_all
  have he:a.eval (.tmp t)=.func (.func f) #[] vs:=hv;simp only[execOp,ho,resolve,he,Deferred.ofValue,invoke,callFunc,Sem.run_bind,Sem.run_pure,Result.andThen_ok,run_program,yf,h1,h2,aA,aJ,Hl]
 ·simp at hf
theorem Ga{J:ae}{x:V}{j m E n:Nat}{ps:List Nat}(h:xX J x=some (j,m,E,n,ps)):x=.it j∧∃ c K es,J[j]?=some (.iter false m E n ps c)∧J[m]?=some (.map K E es)∧es.length=n:=by
 unfold xX at h;split at h
 ·rename_i j';split at h
  ·rename_i m' E' n' ps' c hj;split at h
   ·rename_i K E2 es hb;split at h
    ·rename_i hc;obtain⟨rfl,rfl⟩:=hc;simp only[aa,an]at h;obtain⟨rfl,rfl,rfl,rfl,rfl⟩:=h;exact⟨rfl,c,K,es,hj,hb,rfl⟩
    ·simp at h
   ·simp at h
  ·simp at h
 ·simp at h
theorem F7{P:Program}{o:Oper}{K:St→Prop}{st:St}{d:Option Nat}{B:Nat}{w0 w:World}{μ:Mem}{a:Act}{x0:Operand}{x:O}(dI:o.op=.next x0 false)(hx:cO x0=some x)(hd:o.dst=d){j m E n:Nat}{ps:List Nat}(hn:xX st.J (ev st.fr x)=some (j,m,E,n,ps))
  (h:(ps=[]→K ⟨dh st.fr d (.fu [.b false]),st.J⟩)∧∀ q∈ps,K ⟨dh st.fr d (.fu [.b true,.u,.u]),st.J.set j (.iter false m E n (ps.filter fun i=>i != q) (some q))⟩)
  (hS:fF P B w0 w st.J μ) (hF:FR w st.J μ st.fr a) {Q:Exit→Act→World→Prop} :
  o.wp P a w (fun a' w'=>∃ st' μ',K st'∧fF P B w0 w' st'.J μ'∧FR w' st'.J μ' st'.fr a'∧lJ w st.J μ w' st'.J μ'∧(∃ v,a'=a.put o.dst v)∧∃ r,st'.fr=dh st.fr d r) Q:=by
 obtain⟨h0,h3⟩:=h;obtain⟨hev,c,K0,es,hj,hb,hlen⟩:=Ga hn;have h1:=cK hF hx;rw[hev]at h1;obtain⟨r,bm,since,seen,q1,q2,q3,q4,q5,K3,E3,es3,ents,clock,q6,q7,q8,q9⟩:=hS.obj _ _ hj;rw[hb]at q6;simp only[aa,Ob.map.injEq]at q6;obtain⟨rfl,rfl,rfl⟩:=q6;obtain⟨q10,q11,q12⟩:=(q9 rfl).2 hlen;subst q10;obtain⟨r',ents',clock',hm',_,hh,hR⟩:=hS.obj _ _ hb;rw[q4]at hm';simp only[Value.map.injEq,aa]at hm';subst hm';rw[q7]at hh;simp only[aa,Obj.map.injEq]at hh;obtain⟨rfl,rfl⟩:=hh;have QI:a.eval x0=.pointer (some ⟨r,0,none⟩):=h1.Gp.1.trans q1
 have cQ:=run_next_at (P:=P) w o.type r bm clock clock seen ents clock q3 q7 (fun y hy=>by
  obtain⟨i,hi⟩:=eZ.1 hy;exact hR.2.2.1 i y (by simpa using hi)) (au _)
 have kH:j<st.J.length:=(ab.1 hj).1;have qZ:r<w.heap.size:=(aX.1 q3).1;have hmj:m≠j:=by rintro rfl;rw[hj]at hb;simp at hb
 have hbr:bm≠r:=by
  rintro rfl;rw[q3]at q7;simp at q7
 unfold Oper.wp;rcases cQ with⟨hz,cQ⟩ | ⟨e,he,w1,Lo,cQ⟩
 ·have lx:ps=[]:=by
   cases ps with
   | nil=>rfl
   | cons p ps =>
    exfalso;have hp:=q5 p (by simp);have X4:p<ents.size:=by rw[hR.1,hlen];exact hp
    have:=(q11 p ents[p] (bc X4)).2 (by simp)
    have tf:ents[p]∈leftOf ents seen:=by
     simp only[leftOf,Array.mem_filter];exact⟨Array.getElem_mem X4,by rw[this];rfl⟩
    have ig:leftOf ents seen=#[]:=o8 hz;rw[ig]at tf;simp at tf
  have sA:(execOp a.eval o).run P w=.ok (.value (.tuple #[.bool false])) w:=by simp[execOp,dI,QI,cQ]
  rw[sA];simp only[Oper.upon];refine⟨_,μ,h0 lx,hS,?_,lJ.refl _ _ _,⟨_,rfl⟩,_,rfl⟩;rw[hd]
  exact hF.put d (.fu _ _ rfl fun i y hy=>by
   cases i with
   | zero=>simp only[aq,aa]at hy;subst hy;exact .b _
   | succ i=>simp at hy)
 ·have hem:e∈ents∧seen.contains e.born=false:=by
   have:e∈leftOf ents seen:=by simpa using he
   simp only[leftOf,Array.mem_filter]at this;exact⟨this.1,by simpa using this.2⟩
  obtain⟨q,XZ,hqe⟩:=Array.mem_iff_getElem.1 hem.1;have hq?:ents[q]?=some e:=by rw[bc XZ,hqe]
  have aaN:q∈ps:=(q11 q e hq?).1 hem.2;have sA:(execOp a.eval o).run P w=.ok (.value (.tuple #[.bool true,e.key,e.val])) (ChangeMaps.setBlock w1 r (.mapIter (some bm) clock (seen.push e.born) clock)):=by simp[execOp,dI,QI,cQ]
  rw[sA];simp only[Oper.upon];have XM:w1.heap=w.heap:=by rcases Lo with rfl | rfl<;>rfl
  have oe:=hS.update (w':=ChangeMaps.setBlock w1 r (.mapIter (some bm) clock (seen.push e.born) clock)) (J':=st.J.set j (.iter false m E n (ps.filter fun i=>i != q) (some q))) (μ':=μ) j (some r)
   (by
    rcases Lo with rfl | rfl
    ·exact⟨rfl,rfl,rfl,by simp[ChangeMaps.setBlock],fun i _ hi=>by simp only[ChangeMaps.setBlock];rw[cd (fun e=>hi (by rw[e]))]⟩
    ·exact⟨rfl,rfl,rfl,by simp[ChangeMaps.setBlock],fun i _ hi=>by simp only[ChangeMaps.setBlock];rw[cd (fun e=>hi (by rw[e]))];rfl⟩)
   (fun b jA=>⟨_,hj,by simp,by simp only[aa]at jA;subst jA;simp[q1,ir]⟩)
   (by simp) (fun i hi=>aK (fun e=>hi e.symm)) (fun _ _=>rfl)
   (fun b jA=>.inl ⟨_,hj,by simp,jA⟩)
   (fun b off v2 o2 h4 _ h5 h6 _=>by
    simp only[q1,ir,aa]at h5;subst h5;simp[World.cell?,q3]at h6)
   (fun T2 cs2 h4=>by rw[hj]at h4;simp at h4)
   (fun K2 E2 es2 h4=>by rw[hj]at h4;simp at h4)
   (fun E2 sz2 by2 g2 sh2 xs2 _ h4=>by simp[kH]at h4)
   (fun yc o2 h4=>by
    simp only[ao kH,aa]at h4;subst h4;refine⟨r,bm,clock,seen.push e.born,q1,q2,by simp[ChangeMaps.setBlock,XM,qZ],q4,fun p hp=>q5 p (cU.1 hp).1,_,E,_,ents,clock,(aK (fun e=>hmj e.symm)).trans hb,?_,au _,fun _=>⟨by omega,fun _=>⟨rfl,fun i e2 hi=>?_,fun c hc=>?_⟩⟩⟩
    ·simp only[ChangeMaps.setBlock,XM];rw[cd (fun e=>hbr e.symm)];exact q7
    ·have:=q11 i e2 hi;rw[contains_push,ja,this];simp only[cU,mQ,eX,cT];constructor
     ·rintro⟨h5,h6⟩;refine⟨h5,fun hiq=>h6 ?_⟩;subst hiq;rw[hq?]at hi;simp only[aa]at hi;rw[hi]
     ·rintro⟨h5,h6⟩;refine⟨h5,fun VA=>h6 (hR.2.2.2 i q e2 e hi hq? ?_)⟩
      first | exact VA | exact VA.symm
    ·simp only[aa]at hc;subst hc;exact⟨e,hq?,by simp⟩)
   (fun st2 m2 E2 n2 ps2 c2 h4=>by
    rw[hj]at h4;simp only[aa,Ob.iter.injEq]at h4;obtain⟨rfl,rfl,rfl,rfl,rfl,rfl⟩:=h4;exact⟨⟨_,_,ao kH⟩,rfl⟩)
  refine⟨_,μ,h3 q aaN,oe.1,?_,oe.2.eO,⟨_,rfl⟩,_,rfl⟩;rw[hd]
  exact(hF.eO oe.2.eO).put d (.fu _ _ rfl fun i y hy=>by
   match i with
   | 0=>simp only[aq,aa]at hy;subst hy;exact .b _
   | 1=>simp only[bF,aq,aa]at hy;subst hy;exact .u _
   | 2=>simp only[bF,aq,aa]at hy;subst hy;exact .u _
   | i+3=>simp at hy)
theorem Dr{P:Program}{o:Oper}{p:Pi}{K:St→Prop}{st:St}{B:Nat}{w0 w:World}{μ:Mem}{a:Act}(hc:compile P o=some p.i)(hd:o.dst=p.d)(h:iv P p K st)(hS:fF P B w0 w st.J μ)(hF:FR w st.J μ st.fr a){Q:Exit→Act→World→Prop}:
  o.wp P a w (fun a' w'=>∃ st' μ',K st'∧fF P B w0 w' st'.J μ'∧FR w' st'.J μ' st'.fr a'∧lJ w st.J μ w' st'.J μ'∧(∃ v,a'=a.put o.dst v)∧∃ r,st'.fr=dh st.fr p.d r) Q:=by
 unfold iv at h;split at h
 ·
  rename_i f args hi;rw[hi]at hc;cases dI:o.op with
  | call c =>
   simp only[compile,dI]at hc;obtain⟨callee,args0,argTypes⟩:=c;unfold jl at hc;dsimp only at hc;split at hc
   ·split at hc<;>simp at hc
   ·split at hc<;>simp at hc
   ·split at hc<;>simp at hc
   ·split at hc<;>(try simp at hc;done);split at hc<;>(try simp at hc;done);split at hc<;>(try simp at hc;done);split at hc
    ·split at hc<;>simp at hc
    ·split at hc<;>(try simp at hc;done)
   ·(repeat' split at hc)<;>(simp at hc;done)
   ·(repeat' split at hc)<;>(simp at hc;done)
   ·rename_i f' e1;split at hc<;>(try simp only[reduceCtorEq]at hc);rename_i fn yf;split at hc
    rotate_left
    ·(repeat' split at hc)<;>(simp at hc;done)
    rename_i fH;simp only[aj,I.call.injEq]at hc;obtain⟨ys,wG,rfl,rfl⟩:=hc;have cQ:=G8 (P:=P) (a:=a) (w:=w) dI yf fH.1 fH.2;unfold Oper.wp;rw[cQ];simp only[Oper.upon];obtain⟨h1,h2⟩:=yN hF _ _ wG;refine(h B w0 w μ (args0.map a.eval) hS ⟨by simp[h1],fun i y hy=>?_⟩).mono ?_
    ·have:=h2 i y hy;simpa[ar]using this
    ·rintro e w' ⟨r,v,J',μ',rfl,hK,hS',hv,hk⟩;refine⟨_,μ',hK,hS',?_,hk,⟨_,rfl⟩,_,rfl⟩;rw[hd];exact(hF.eO hk).put p.d hv
   ·simp at hc
   ·simp at hc
  | buildSlice T len parts =>
   exfalso;simp only[compile,dI]at hc
   (repeat' split at hc)<;>(try (simp only[reduceCtorEq]at hc;done))
   simp only[aj]at hc;obtain⟨xs,_,hx⟩:=hc;split at hx<;>simp at hx
  | _ =>
   exfalso;simp only[compile,dI]at hc
   (repeat' split at hc)<;>first | (simp at hc;done) | (simp_all;done)
 ·
  rename_i x args hi;split at h
  rotate_left
  ·exact h.elim
  rename_i f caps hx;obtain⟨gU,h⟩:=h;rw[hi]at hc;cases dI:o.op with
  | call c =>
   simp only[compile,dI]at hc;obtain⟨callee,args0,argTypes⟩:=c;unfold jl at hc;dsimp only at hc;split at hc
   ·split at hc<;>simp at hc
   ·split at hc<;>simp at hc
   ·split at hc<;>simp at hc
   ·split at hc<;>(try simp at hc;done);split at hc<;>(try simp at hc;done);split at hc<;>(try simp at hc;done);split at hc
    ·split at hc<;>simp at hc
    ·split at hc<;>(try simp at hc;done)
   ·(repeat' split at hc)<;>(simp at hc;done)
   ·(repeat' split at hc)<;>(simp at hc;done)
   ·(repeat' split at hc)<;>(simp at hc;done)
   ·rename_i t;simp only[aj,I.kJ.injEq]at hc;obtain⟨ys,wG,rfl,rfl⟩:=hc;have hv:=hF.at t;simp only[ev]at hx;rw[hx]at hv;generalize hg:a.tmps.getD t undef=u at hv;cases hv with
    | fn _ _ vs hl AY =>
     have cQ:=EZ (P:=P) (a:=a) (w:=w) dI hg gU;unfold Oper.wp;rw[cQ];simp only[Oper.upon];obtain⟨h1,h2⟩:=yN hF _ _ wG;refine(h B w0 w μ (args0.map a.eval++vs) hS ⟨by simp[h1,hl],fun i y hy=>?_⟩).mono ?_
     ·rcases fp i (ys.map (ev st.fr)).length with dp | Ly
      ·rw[ai dp]at hy;have h3:=h2 i y hy;have hia:i<args0.size:=by simpa[h1]using dp
       simpa[bl,fU,hia,ar]using h3
      ·rw[aH Ly]at hy;have h3:=AY _ y hy;have hia:args0.size≤i:=by simpa[h1]using Ly
       simpa[bl,Array.getElem?_append_right,hia,h1]using h3
     ·rintro e w' ⟨r,v,J',μ',rfl,hK,hS',hv,hk⟩;refine⟨_,μ',hK,hS',?_,hk,⟨_,rfl⟩,_,rfl⟩;rw[hd];exact(hF.eO hk).put p.d hv
   ·simp at hc
  | buildSlice T len parts =>
   exfalso;simp only[compile,dI]at hc
   (repeat' split at hc)<;>(try (simp only[reduceCtorEq]at hc;done))
   simp only[aj]at hc;obtain⟨xs,_,hx⟩:=hc;split at hx<;>simp at hx
  | _ =>
   exfalso;simp only[compile,dI]at hc
   (repeat' split at hc)<;>first | (simp at hc;done) | (simp_all;done)
 ·
  rename_i x hi;split at h
  rotate_left
  ·exact h.elim
  rename_i j m E n ps hn;rw[hi]at hc;cases dI:o.op with
  | next x0 q =>
   cases q with
   | true=>simp[compile,dI]at hc
   | false =>
    simp only[compile,dI,aj,I.next.injEq]at hc;obtain⟨x',hx,rfl⟩:=hc;exact F7 dI hx hd hn h hS hF
  | call c =>
   exfalso;simp only[compile,dI]at hc;unfold jl at hc
   (repeat' split at hc)<;>(simp at hc;done)
  | buildSlice T len parts =>
   exfalso;simp only[compile,dI]at hc
   (repeat' split at hc)<;>(try (simp only[reduceCtorEq]at hc;done))
   simp only[aj]at hc;obtain⟨xs,_,hx⟩:=hc;split at hx<;>simp at hx
  | _ =>
   exfalso;simp only[compile,dI]at hc
   (repeat' split at hc)<;>first | (simp at hc;done) | (simp_all;done)
 ·rename_i i ig X6 X5;split at h
  ·rename_i ob v hp;obtain⟨cX,hK⟩:=h;obtain⟨u,w',hr,hg,hv⟩:=DM hc hF hS hp cX;obtain⟨hS',Ls⟩:=hS.grown hg;unfold Oper.wp;rw[hr];simp only[Oper.upon];exact⟨_,μ,hK,hS',by rw[hd];exact(hF.eO Ls.eO).put p.d hv,Ls.eO,⟨_,rfl⟩,_,rfl⟩
  ·split at h
   ·rename_i ob v J' hx;obtain⟨cX,hK⟩:=h;obtain⟨u,w',μ',hr,hS',hv,Ls⟩:=C6 hc hF hS hx cX;unfold Oper.wp;rcases hr with hr | ⟨hr,rfl⟩
    ·rw[hr];simp only[Oper.upon];exact⟨_,μ',hK,hS',by rw[hd];exact(hF.eO Ls.eO).put p.d hv,Ls.eO,⟨_,rfl⟩,_,rfl⟩
    ·rw[hr];simp only[Oper.upon];exact⟨_,μ',hK,hS',by rw[hd];exact(hF.eO Ls.eO).put p.d (.u _),Ls.eO,⟨_,rfl⟩,_,rfl⟩
   ·exact h.elim
def I.os:I→List O
 | .aT x=>[x]
 | .pick c a b=>[c,a,b]
 | .box _ x=>[x]
 | .alloc _ _=>[]
 | .build _ parts=>parts.map (·.2.2)
 | .bL _ _ xs=>xs
 | .Ha _ _ _ _ xs=>xs
 | .load _ a=>[a]
 | .store _ _ a x=>[a,x]
 | .di x=>[x]
 | .bin _ x y=>[x,y]
 | .beq _ _ x y=>[x,y]
 | .SG _ x y=>[x,y]
 | .un _ x=>[x]
 | .EN _ x=>[x]
 | .C2 x=>[x]
 | .slice _ x lo hi=>x::(lo.toList++hi.toList)
 | .eK x lo hi=>x::(lo.toList++hi.toList)
 | .fv _ x=>[x]
 | .idx _ x i=>[x,i]
 | .ft x i=>[x,i]
 | .Fc _ _ x i=>[x,i]
 | .VD _ x=>[x]
 | .ext _ x=>[x]
 | .len _ x=>[x]
 | .max2 x y=>[x,y]
 | .min2 x y=>[x,y]
 | .app _ _ _ x y=>[x,y]
 | .apps _ x y=>[x,y]
 | .mk _ _ _ _ l c=>[l,c]
 | .lF _ _=>[]
 | .look _ _ _ m k=>[m,k]
 | .uw _ _ m k x=>[m,k,x]
 | .xY x=>[x]
 | .call _ args=>args
 | .kJ x args=>x::args
 | .Pf _ xs=>xs
 | .ET _ _ x=>[x]
 | .Ge _ m k=>[m,k]
 | .s0 _ _ m k=>[m,k]
 | .sZ _ m s x=>[m,s,x]
 | .range x=>[x]
 | .next x=>[x]
 | .KN x=>[x]
 | .IX _ x=>[x]
 | .IW _ x i=>[x,i]
 | .clip _ x h m=>[x,h,m]
 | .Ay x y=>[x,y]
 | .Tj _ _ l c=>[l,c]
 | .stop=>[]
def O.slot:O→List Nat
 | .t n=>[n]
 | .c _=>[]
def I.lN:I→List (Nat×List (Nat×Bool))
 | .pick (.t c) a b=>(c,[])::(a.slot.map (·,[(c,true)])++b.slot.map (·,[(c,false)]))
 | i=>(i.os.flatMap O.slot).map (·,[])
def I.cD:I→Bool
 | .box _ _ | .alloc _ _ | .store _ _ _ _ | .app _ _ _ _ _ | .apps _ _ _ | .mk _ _ _ _ _ _ | .Tj _ _ _ _ | .Ha _ _ _ _ _ | .lF _ _ | .uw _ _ _ _ _ | .ET _ _ _ | .Ge _ _ _ | .s0 _ _ _ _ | .sZ _ _ _ _ | .range _ | .next _ | .call _ _ | .kJ _ _ | .stop=>false
 | _=>true
def I.reads:I→Bool
 | .build _ _ | .bL _ _ _ | .load _ _ | .di _ | .C2 _ | .slice _ _ _ _ | .fv _ _ | .idx _ _ _ | .len _ _ | .xY _ | .look _ _ _ _ _ | .KN _=>true
 | _=>false
section
variable {fr fr':List V} {J:ae}
theorem vh{i:I}(h:∀ x∈i.os,ev fr x=ev fr' x):aQ fr J i=aQ fr' J i:=by
 cases i with
 | build zs parts =>
  have h1:∀ p∈parts,ev fr p.2.2=ev fr' p.2.2:=fun p hp=>h _ (bI.2 ⟨p,hp,rfl⟩)
  have e1:(parts.map fun(off,sz,x)=>(off,sz,er (ev fr x)))=parts.map fun(off,sz,x)=>(off,sz,er (ev fr' x)) :=
   cN fun p hp=>by
    have h2:=h1 p hp;obtain⟨a,b,c⟩:=p;simp only at h2 ⊢;rw[h2]
  have e2:(∀ p∈parts,fi J (ev fr p.2.2)=true)=(∀ p∈parts,fi J (ev fr' p.2.2)=true) :=
   propext ⟨fun k p hp=>h1 p hp▸k p hp,fun k p hp=>(h1 p hp).symm▸k p hp⟩
  simp only[aQ,e1,e2]
 | bL sz szs xs =>
  have h1:∀ p∈xs,ev fr p=ev fr' p:=fun p hp=>h _ hp
  have e1:(xs.map fun x=>cx szs (er (ev fr x)))=xs.map fun x=>cx szs (er (ev fr' x)) :=
   cN fun p hp=>by rw[h1 p hp]
  have e2:(∀ p∈xs,fi J (ev fr p)=true)=(∀ p∈xs,fi J (ev fr' p)=true) :=
   propext ⟨fun k p hp=>h1 p hp▸k p hp,fun k p hp=>(h1 p hp).symm▸k p hp⟩
  simp only[aQ,e1,e2]
 | slice sz x lo hi =>
  have hx:=h x (by simp[I.os]);have hl:∀ y,lo=some y→ev fr y=ev fr' y:=fun y hy=>h y (by simp[I.os,hy]);have hh:∀ y,hi=some y→ev fr y=ev fr' y:=fun y hy=>h y (by simp[I.os,hy]);cases lo<;>cases hi<;>simp_all [aQ]
 | eK x lo hi =>
  have hx:=h x (by simp[I.os]);have hl:∀ y,lo=some y→ev fr y=ev fr' y:=fun y hy=>h y (by simp[I.os,hy]);have hh:∀ y,hi=some y→ev fr y=ev fr' y:=fun y hy=>h y (by simp[I.os,hy]);cases lo<;>cases hi<;>simp_all [aQ]
 | len str x =>
  have hx:=h x (by simp[I.os]);cases str<;>simp only[aQ,hx]
 | _=>simp_all [aQ,I.os]
theorem C7{i:I}(h:∀ x∈i.os,ev fr x=ev fr' x):bO fr J i=bO fr' J i:=by
 cases i<;>simp_all [bO,I.os]
theorem DL{J':ae}{i:I}(h:i.reads=false):aQ fr J i=aQ fr J' i:=by
 cases i<;>simp_all [aQ,I.reads]
theorem sT{i:I}{r:Prop×V}(h:aQ fr J i=some r):i.cD=true:=by
 cases i<;>simp_all [aQ,I.cD]
theorem sB{i:I}(h:i.cD=true):bO fr J i=none:=by
 cases i<;>simp_all [bO,I.cD]
end
def chainB(fr:List V):List (Nat×Bool)→Option Bool
 | []=>some true
 | (t,b)::r=>match fr.getD t .u with
  | .b x=>match chainB fr r with
   | some y=>some ((x==b)&&y)
   | none=>none
  | _=>none
theorem vI{fr:List V}:∀ {ch:List (Nat×Bool)},chainB fr ch=some true↔∀ p∈ch,fr.getD p.1 .u=.b p.2
 | []=>by simp[chainB]
 | (t,b)::r=>by
  have ih:=vI (fr:=fr) (ch:=r);simp only[chainB,bA,forall_eq_or_imp];rw[← ih];split
  ·rename_i x hx;split
   ·rename_i y hy;rw[hx,hy];cases x<;>cases b<;>cases y<;>simp
   ·rename_i hy;simp[hy]
  ·rename_i hx;simp only[reduceCtorEq,OW,not_and];intro h;exact absurd h (hx b)
theorem Ad{fr:List V}{a b:List (Nat×Bool)}(h:chainB fr b=some true)(hp:a.isPrefixOf b=true):chainB fr a=some true:=by
 rw[vI]at *;exact fun p hp'=>h p ((List.isPrefixOf_iff_prefix.1 hp).subset hp')
theorem nH{fr:List V}:∀ {a b:List (Nat×Bool)},chainB fr (a++b)=match chainB fr a,chainB fr b with
  | some x,some y=>some (x&&y)
  | _,_=>none
 | [],b=>by simp only[aW,chainB];cases chainB fr b<;>simp
 | (t,w)::r,b=>by
  simp only[bg,chainB,nH (a:=r) (b:=b)];cases fr.getD t .u<;>simp;cases chainB fr r<;>cases chainB fr b<;>simp[Bool.and_assoc]
theorem NV{fr:List V}{n m:Nat}{x y:V}(h:n≠m):(fr.set n x).getD m y=fr.getD m y:=by
 simp[ar,aK h]
theorem qn{fr:List V}{d:Option Nat}{r:V}:∀ {ch:List (Nat×Bool)},(∀ p∈ch,d≠some p.1)→chainB (dh fr d r) ch=chainB fr ch
 | [],_=>by simp[chainB]
 | (t,b)::ch,h=>by
  have ih:=qn (fr:=fr) (d:=d) (r:=r) (ch:=ch) fun p hp=>h p (by simp[hp]);have h0:=h (t,b) (by simp);simp only[chainB,ih];cases d with
  | none=>rfl
  | some n =>
   have:n≠t:=fun e=>h0 (by simp[e]);simp only[dh,NV this]
def tk(P:Program)(p:Pi)(c:Bool)(K:St→Prop)(st:St):Prop :=
 match p.i with
 | .call f args=>(c=true→PC P f (args.map (ev st.fr)) st.J (fun r' J'=>K ⟨dh st.fr p.d r',J'⟩))∧(c=false→∃ r,K ⟨dh st.fr p.d r,st.J⟩)
 | .kJ x args=>(c=true→match ev st.fr x with
  | .fn f caps=>DY P f=true∧PC P f (args.map (ev st.fr)++caps) st.J (fun r' J'=>K ⟨dh st.fr p.d r',J'⟩)
  | _=>False)∧(c=false→∃ r,K ⟨dh st.fr p.d r,st.J⟩)
 | .load k a=>match ev st.fr a with
  | .ptr _ _=>match aQ st.fr st.J (.load k a)with
   | some (ob,v)=>(c=true→ob)∧K ⟨dh st.fr p.d v,st.J⟩
   | none=>False
  | _=>∃ v,(c=true→∃ ob,aQ st.fr st.J (.load k a)=some (ob,v)∧ob)∧K ⟨dh st.fr p.d v,st.J⟩
 | i=>match aQ st.fr st.J i with
  | some (ob,v)=>(c=true→ob)∧K ⟨dh st.fr p.d v,st.J⟩
  | none=>False
def gI(P:Program)(p:Pi)(K:St→Prop)(st:St):Prop :=
 match p.g with
 | []=>iv P p K st
 | _::_=>match chainB st.fr p.g with
  | some c=>tk P p c K st
  | none=>False
theorem yl{P:Program}{p:Pi}{c:Bool}{K:St→Prop}{st:St}(h:tk P p c K st)(hn:∀ f args,p.i≠.call f args)(hv:∀ x args,p.i≠.kJ x args):
  ∃ r,K ⟨dh st.fr p.d r,st.J⟩∧(c=true→iv P p (fun st'=>st'=⟨dh st.fr p.d r,st.J⟩) st):=by
 obtain⟨d,g,i⟩:=p;cases i with
 | call f args=>exact absurd rfl (hn f args)
 | load k a =>
  simp only[tk]at h;split at h
  ·split at h
   ·rename_i ob v hp;exact⟨v,h.2,fun hc=>by simp only[iv,hp];exact⟨h.1 hc,trivial⟩⟩
   ·exact h.elim
  ·obtain⟨v,h1,h2⟩:=h;refine⟨v,h2,fun hc=>?_⟩;obtain⟨ob,h3,h4⟩:=h1 hc;simp only[iv,h3];exact⟨h4,trivial⟩
 | kJ x args=>exact absurd rfl (hv x args)
 | next x=>simp[tk,aQ]at h
 | _ =>
  simp only[tk]at h;split at h
  ·rename_i ob v hp;exact⟨v,h.2,fun hc=>by simp only[iv,hp];exact⟨h.1 hc,trivial⟩⟩
  ·exact h.elim
theorem wM{fr fr':List V}{x:O}(h:∀ s∈x.slot,fr.getD s .u=fr'.getD s .u):ev fr x=ev fr' x:=by
 cases x with
 | t n=>exact h n (by simp[O.slot])
 | c v=>rfl
theorem L5{P:Program}{p:Pi}{K:St→Prop}{fr fr':List V}{J:ae}(h:∀ x∈p.i.os,ev fr x=ev fr' x)(hs:iv P p K ⟨fr,J⟩):
  iv P p (fun st'=>∃ r,st'.fr=dh fr' p.d r∧K ⟨dh fr p.d r,st'.J⟩) ⟨fr',J⟩:=by
 obtain⟨d,g,i⟩:=p
 by_cases Ev:∃ f args,i=.call f args
 ·obtain⟨f,args,rfl⟩:=Ev;have e:args.map (ev fr)=args.map (ev fr'):=cN fun x hx=>h x hx;simp only[iv]at hs ⊢;rw[← e];exact hs.mono fun r J' hk=>⟨r,rfl,hk⟩
 by_cases yi:∃ x args,i=.kJ x args
 ·obtain⟨x,args,rfl⟩:=yi;have e:args.map (ev fr)=args.map (ev fr'):=cN fun y hy=>h y (by simp[I.os,hy]);have e2:=h x (by simp[I.os]);simp only[iv]at hs ⊢;rw[← e,← e2];split at hs
  ·exact⟨hs.1,hs.2.mono fun r J' hk=>⟨r,rfl,hk⟩⟩
  ·exact hs.elim
 by_cases A2:∃ x,i=.next x
 ·obtain⟨x,rfl⟩:=A2;have e2:=h x (by simp[I.os]);simp only[iv]at hs ⊢;rw[← e2];split at hs
  ·exact⟨fun he=>⟨_,rfl,hs.1 he⟩,fun q hq=>⟨_,rfl,hs.2 q hq⟩⟩
  ·exact hs.elim
 ·have e1:=vh (J:=J) h;have e2:=C7 (J:=J) h
  have key:∀ (fr0:List V) (K0:St→Prop),iv P ⟨d,g,i⟩ K0 ⟨fr0,J⟩=match aQ fr0 J i with
    | some (ob,v)=>ob∧K0 ⟨dh fr0 d v,J⟩
    | none=>match bO fr0 J i with
     | some (ob,v,J')=>ob∧K0 ⟨dh fr0 d v,J'⟩
     | none=>False:=by
   intro fr0 K0;cases i<;>first | rfl | (exfalso;exact Ev ⟨_,_,rfl⟩) | (exfalso;exact yi ⟨_,_,rfl⟩) | (exfalso;exact A2 ⟨_,rfl⟩)
  simp only at e1 e2;rw[key]at hs ⊢;rw[← e1,← e2];split at hs
  ·exact⟨hs.1,_,rfl,hs.2⟩
  ·split at hs
   ·exact⟨hs.1,_,rfl,hs.2⟩
   ·exact hs.elim
theorem Ds{P:Program}{p:Pi}{K:St→Prop}{fr fr':List V}{J:ae}(h:∀ s∈p.i.lN,chainB fr s.2=some true→fr.getD s.1 .u=fr'.getD s.1 .u)(hs:iv P p K ⟨fr,J⟩):
  iv P p (fun st'=>∃ r,st'.fr=dh fr' p.d r∧K ⟨dh fr p.d r,st'.J⟩) ⟨fr',J⟩:=by
 by_cases hp:∃ c a b,p.i=.pick (.t c) a b
 ·obtain⟨c,x,y,hi⟩:=hp;obtain⟨d,g,i⟩:=p;simp only at hi;subst hi;have hc:fr.getD c .u=fr'.getD c .u:=h (c,[]) (by simp[I.lN]) (by simp[chainB]);have hx:fr.getD c .u=.b true→ev fr x=ev fr' x:=fun hb=>wM fun s hs'=>h (s,[(c,true)]) (by simp[I.lN,hs']) (by simp only[chainB,hb];rfl);have hy:fr.getD c .u=.b false→ev fr y=ev fr' y:=fun hb=>wM fun s hs'=>h (s,[(c,false)]) (by simp[I.lN,hs']) (by simp only[chainB,hb];rfl);simp only[iv,aQ,ev]at hs ⊢;rw[← hc];split at hs
  ·rename_i ob v hq;split at hq
   ·rename_i b hb;simp only[aa,an]at hq;obtain⟨rfl,rfl⟩:=hq;refine⟨trivial,_,rfl,?_⟩
    have e:(match ev fr x,ev fr y with
      | .b p,.b q=>V.b (bif b then p else q)
      | p,q=>bif b then p else q)=(match ev fr' x,ev fr' y with
      | .b p,.b q=>V.b (bif b then p else q)
      | p,q=>bif b then p else q):=by
     have gen:∀ p q:V,(match p,q with
      | .b p,.b q=>V.b (bif b then p else q)
      | p,q=>bif b then p else q)=bif b then p else q:=by
      intro p q;cases b<;>cases p<;>cases q<;>rfl
     rw[gen,gen];cases b
     ·simp only[Hi];exact hy hb
     ·simp only[cond_true];exact hx hb
    exact Eq.mp (congrArg (fun v=>K ⟨dh fr d v,J⟩) e) hs.2
   ·simp at hq
  ·rename_i hq;split at hq
   ·simp at hq
   ·simp only[bO]at hs
 ·refine L5 (fun x hx=>wM fun s hs'=>h (s,[]) ?_ (by simp[chainB])) hs
  have:p.i.lN=(p.i.os.flatMap O.slot).map (·,[]):=by
   unfold I.lN;split
   ·rename_i c a b hi;exact absurd ⟨c,a,b,hi⟩ hp
   ·rfl
  rw[this];exact bI.2 ⟨s,iu.2 ⟨x,hx,hs'⟩,rfl⟩
def Af(w:World)(J:ae)(μ:Mem)(fr:List V)(inf:Nat→Option (List (Nat×Bool)))(a:Act):Prop :=
 a.defers=[]∧a.tmps.size=fr.length∧∀ t x,fr[t]?=some x→∀ ch,inf t=some ch →
  (chainB fr ch=some true→VR w J μ x (a.tmps.getD t undef))∧(chainB fr ch=some false→a.tmps.getD t undef=undef)
def Sg(inf:Nat→Option (List (Nat×Bool)))(fr:List V):List V:=fr.mapIdx fun t x=>match inf t with
 | some ch=>if chainB fr ch=some true then x else .u
 | none=>.u
theorem Af.mask{w:World}{J:ae}{μ:Mem}{fr:List V}{inf:Nat→Option (List (Nat×Bool))}{a:Act}(h:Af w J μ fr inf a):FR w J μ (Sg inf fr) a:=by
 refine⟨h.1,by simp[Sg,h.2.1],fun t x hx=>?_⟩;simp only[Sg,List.getElem?_mapIdx,aj]at hx;obtain⟨y,hy,rfl⟩:=hx;split
 ·rename_i ch vw;split
  ·rename_i hc;exact(h.2.2 t y hy ch vw).1 hc
  ·exact .u _
 ·exact .u _
theorem Tk{inf:Nat→Option (List (Nat×Bool))}{fr:List V}{t:Nat}{ch:List (Nat×Bool)}(hi:inf t=some ch)(hc:chainB fr ch=some true):(Sg inf fr).getD t .u=fr.getD t .u:=by
 simp only[Sg,ar,List.getElem?_mapIdx,hi,hc,aO];cases fr[t]?<;>rfl
structure Fh (inf:Nat→Option (List (Nat×Bool))) (p:Pi):Prop where
 lN:∀ s∈p.i.lN,∃ ch,inf s.1=some ch∧ch.isPrefixOf (p.g++s.2)=true
 guard:∀ ch t b,p.g=ch++[(t,b)]→inf t=some ch
 fresh:∀ d,p.d=some d→(∀ q∈p.g,q.1≠d)∧∀ t ch,inf t=some ch→∀ q∈ch,q.1≠d
def pC(inf:Nat→Option (List (Nat×Bool)))(p:Pi):Nat→Option (List (Nat×Bool)):=fun t=>if p.d=some t then some p.g else inf t
theorem Jz{a:Act}{d:Option Nat}{v:Value}{t:Nat}(h:d≠some t):(a.put d v).tmps.getD t undef=a.tmps.getD t undef:=by
 cases d with
 | none=>rfl
 | some n =>
  have hn:n≠t:=fun e=>h (by simp[e]);simp only[Act.put,bl,cd hn]
theorem DH{a:Act}{v:Value}{t:Nat}(h:t<a.tmps.size):(a.put (some t) v).tmps.getD t undef=v:=by
 simp[Act.put,h]
theorem jd{fr:List V}{d:Option Nat}{r:V}{t:Nat}(h:d≠some t):(dh fr d r)[t]?=fr[t]?:=by
 cases d with
 | none=>rfl
 | some n =>
  have hn:n≠t:=fun e=>h (by simp[e]);simp only[dh,aK hn]
theorem mr{fr:List V}{d:Option Nat}{r:V}:(dh fr d r).length=fr.length:=by cases d<;>simp[dh]
theorem DG{a:Act}{d:Option Nat}{v:Value}:(a.put d v).tmps.size=a.tmps.size∧(a.put d v).defers=a.defers:=by
 cases d<;>simp[Act.put]
theorem Af.pD{w w':World}{J J':ae}{μ μ':Mem}{fr:List V}{inf:Nat→Option (List (Nat×Bool))}{a:Act}{p:Pi}{r:V}{v:Value}(h:Af w J μ fr inf a)(gU:Fh inf p)(hk:lJ w J μ w' J' μ')
  (h1:∀ t,p.d=some t→t<fr.length→chainB fr p.g=some true→VR w' J' μ' r v) (h2:chainB fr p.g=some false→v=undef):Af w' J' μ' (dh fr p.d r) (pC inf p) (a.put p.d v):=by
 refine⟨by rw[DG.2];exact h.1,by rw[DG.1,mr];exact h.2.1,fun t x hx ch vw=>?_⟩
 by_cases hd:p.d=some t
 ·have hf:=gU.fresh t hd;simp only[pC,hd,aO,aa]at vw;subst vw
  have hlen:t<fr.length:=by
   have:=(ab.1 hx).1;rwa [mr]at this
  rw[hd]at hx;simp only[dh,ao hlen,aa]at hx;subst hx;have e:chainB (dh fr p.d r) p.g=chainB fr p.g:=qn fun q hq e=>hf.1 q hq (by rw[hd]at e;exact(ga e).symm);rw[e,hd,DH (by rw[h.2.1];exact hlen)];exact⟨h1 t hd hlen,h2⟩
 ·simp only[pC,hd,aJ]at vw;rw[jd hd]at hx;have e:chainB (dh fr p.d r) ch=chainB fr ch:=qn fun q hq e=>(gU.fresh q.1 e).2 t ch vw q hq rfl;rw[e,Jz hd];have:=h.2.2 t x hx ch vw;exact⟨fun hc=>hk _ _ (this.1 hc),this.2⟩
def GI(P:Program)(p:Pi)(K:St→Prop)(fr:List V)(J:ae):Prop :=
 ∃ c,chainB fr p.g=some c∧((c=true∧∃ K':St→Prop,iv P p K' ⟨fr,J⟩∧∀ st',K' st'→K st')∨(c=false∧∃ r,K ⟨dh fr p.d r,J⟩))
theorem YH{P:Program}{p:Pi}{K:St→Prop}{fr:List V}{J:ae}(h:gI P p K ⟨fr,J⟩):GI P p K fr J:=by
 unfold gI at h;split at h
 ·rename_i hg;exact⟨true,by rw[hg];rfl,.inl ⟨rfl,K,h,fun _ h=>h⟩⟩
 ·split at h
  ·rename_i c hc
   by_cases Ev:∃ f args,p.i=.call f args
   ·obtain⟨f,args,hi⟩:=Ev;obtain⟨d,g,i⟩:=p;simp only at hi;subst hi;cases c with
    | true=>exact⟨true,hc,.inl ⟨rfl,K,h.1 rfl,fun _ h=>h⟩⟩
    | false=>exact⟨false,hc,.inr ⟨rfl,h.2 rfl⟩⟩
   by_cases yi:∃ x args,p.i=.kJ x args
   ·obtain⟨x,args,hi⟩:=yi;obtain⟨d,g,i⟩:=p;simp only at hi;subst hi;cases c with
    | true=>exact⟨true,hc,.inl ⟨rfl,K,h.1 rfl,fun _ h=>h⟩⟩
    | false=>exact⟨false,hc,.inr ⟨rfl,h.2 rfl⟩⟩
   obtain⟨r,h1,h2⟩:=yl h (fun f args e=>Ev ⟨f,args,e⟩) fun x args e=>yi ⟨x,args,e⟩;cases c with
   | true=>exact⟨true,hc,.inl ⟨rfl,_,h2 rfl,fun st' e=>e▸h1⟩⟩
   | false=>exact⟨false,hc,.inr ⟨rfl,r,h1⟩⟩
  ·exact h.elim
theorem Td{P:Program}{ops:Array Oper}{o:Oper}{p:Pi}(hc:U6 P ops o=some p){inf:Nat→Option (List (Nat×Bool))}{B:Nat}{w0 w:World}{fr:List V}{J:ae}{μ:Mem}{a:Act}{K:St→Prop}
  (hS:fF P B w0 w J μ) (hF:Af w J μ fr inf a) (gU:Fh inf p) (hK:GI P p K fr J) {R:Act→World→Prop} {Q:Exit→Act→World→Prop}
  (hR:∀ r J' μ' a' w',K ⟨dh fr p.d r,J'⟩→fF P B w0 w' J' μ'→Af w' J' μ' (dh fr p.d r) (pC inf p) a'→lJ w J μ w' J' μ'→R a' w') :
  if Region.wanted o (yielded ops a.tmps)then o.wp P a w R Q∨(o.asks P a w∧LetsOut Q)else R (a.put o.dst undef) w:=by
 unfold U6 at hc;split at hc<;>simp only[aa,reduceCtorEq]at hc;rename_i g hg;obtain⟨i,T8⟩:∃ i,i=(compile P o).getD .stop:=⟨_,rfl⟩;rw[← T8]at hc;subst hc
 have doit:∀ K':St→Prop,chainB fr g=some true→iv P ⟨o.dst,g,i⟩ K' ⟨fr,J⟩→(∀ st',K' st'→K st')→o.wp P a w R Q:=by
  intro K' vw hs ND
  have hi:compile P o=some i:=by
   cases LC:compile P o with
   | none=>rw[LC]at T8;simp only[we]at T8;subst T8;simp[iv,aQ,bO]at hs
   | some j=>rw[LC]at T8;simp only[fB]at T8;rw[T8]
  have h1:=Ds (fr':=Sg inf fr) (fun s hs' hse=>by
   obtain⟨ch,h2,h3⟩:=gU.lN s hs';exact(Tk h2 (Ad (by rw[nH,vw,hse];rfl) h3)).symm) hs
  refine Oper.wp_mono ?_ (Dr (p:=⟨o.dst,g,i⟩) hi rfl h1 hS hF.mask);rintro a' w' ⟨st',μ',⟨r,h2,h3⟩,h4,h5,h6,⟨v,rfl⟩,_⟩;have hlen:(Sg inf fr).length=fr.length:=by simp[Sg]
  refine hR r st'.J μ' _ w' (ND _ h3) h4 (hF.pD gU h6 (fun t ht hl _=>?_) fun h=>by simp only at h;rw[vw]at h;simp at h) h6;simp only at ht h2;have h7:=h5.2.2 t r (by rw[h2,ht];simp only[dh];rw[ao (by rw[hlen];exact hl)])
  rwa [ht,DH (by rw[hF.2.1];exact hl)]at h7
 have guard:∀ c,chainB fr g=some c→Region.wanted o (yielded ops a.tmps)=c:=by
  intro c yh;cases O8:o.guard with
  | none =>
   rw[O8]at hg;simp only[tH,aa]at hg;subst hg;simp only[chainB,aa]at yh;subst yh;simp[Region.wanted,O8]
  | some jb =>
   obtain⟨j,b⟩:=jb;rw[O8]at hg;simp only[tH]at hg;split at hg<;>(try simp only[reduceCtorEq]at hg);rename_i oj hoj;split at hg<;>simp only[aa,reduceCtorEq]at hg;rename_i t ch ht vw;subst hg;have T6:=gU.guard ch t b rfl;rw[nH]at yh;split at yh<;>simp only[aa,reduceCtorEq]at yh;rename_i x y hx hy;simp only[chainB]at hy;split at hy<;>simp only[aa,reduceCtorEq]at hy;rename_i z hz;simp only[dQ]at hy
   have hl:t<fr.length:=by
    rcases fp t fr.length with h | h
    ·exact h
    ·rw[ar,bn h]at hz;simp at hz
   have eH:fr[t]?=some (.b z):=by
    rw[ar,al hl]at hz;rw[al hl];simpa using hz
   have hv:=hF.2.2 t _ eH ch T6;have NB:t<a.tmps.size:=by rw[hF.2.1];exact hl
   have XK:yielded ops a.tmps j=match a.tmps.getD t undef with | .bool q=>some q | _=>none:=by
    unfold yielded;simp only[hoj,gv,ht];rw[bc NB];have:a.tmps.getD t undef=a.tmps[t]:=by simp[NB]
    rw[this];cases a.tmps[t]<;>rfl
   subst yh hy;cases x
   ·rw[hv.2 hx]at XK;simp only[undef]at XK;simp[Region.wanted,O8,XK]
   ·rw[(hv.1 hx).mE]at XK;simp[Region.wanted,O8,XK]
 obtain⟨c,yh,rT⟩:=hK;rcases rT with⟨rfl,K',h1,h2⟩ | ⟨rfl,r,h1⟩
 ·rw[aI (guard true yh)];exact .inl (doit K' yh h1 h2)
 ·have hw:=guard false yh;rw[hw];simp only[aA,aJ];exact hR r J μ _ w h1 hS (hF.pD (p:=⟨o.dst,g,i⟩) gU (lJ.refl _ _ _) (fun t _ _ h=>by simp only at h;rw[yh]at h;simp at h) fun _=>rfl) (lJ.refl _ _ _)
theorem Y5{P:Program}{ops:Array Oper}{o:Oper}{p:Pi}(hc:U6 P ops o=some p){inf:Nat→Option (List (Nat×Bool))}{B:Nat}{w0 w:World}{fr:List V}{J:ae}{μ:Mem}{a:Act}{K:St→Prop}
  (hS:fF P B w0 w J μ) (hF:Af w J μ fr inf a) (gU:Fh inf p) (hK:gI P p K ⟨fr,J⟩) {R:Act→World→Prop} {Q:Exit→Act→World→Prop}
  (hR:∀ r J' μ' a' w',K ⟨dh fr p.d r,J'⟩→fF P B w0 w' J' μ'→Af w' J' μ' (dh fr p.d r) (pC inf p) a'→lJ w J μ w' J' μ'→R a' w') :
  if Region.wanted o (yielded ops a.tmps)then o.wp P a w R Q∨(o.asks P a w∧LetsOut Q)else R (a.put o.dst undef) w :=
 Td hc hS hF gU (YH hK) hR
def ET(gs:List Nat)(fr:List V):List V:=gs.foldl (fun fr s=>fr.set s .u) fr
def je(P:Program)(gs:List Nat):List Pi→(St→Prop)→St→Prop
 | [],K,st=>K ⟨ET gs st.fr,st.J⟩
 | p::ps,K,st=>gI P p (je P gs ps K) st
def oa(D:List (Nat×List (Nat×Bool)))(t:Nat):List (Nat×Bool):=(D.lookup t).getD []
def Vd(D:List (Nat×List (Nat×Bool)))(p:Pi):List (Nat×List (Nat×Bool)):=match p.d with
 | some d=>(d,p.g)::D
 | none=>D
def Mz(D:List (Nat×List (Nat×Bool)))(p:Pi):Bool :=
 p.i.lN.all (fun s=>(oa D s.1).isPrefixOf (p.g++s.2)) &&
 (match p.g.getLast? with
  | none=>true
  | some q=>oa D q.1==p.g.dropLast) &&
 (match p.d with
  | none=>true
  | some d=>p.g.all (fun q=>q.1 != d)&&D.all fun e=>e.2.all fun q=>q.1 != d)
def CY:List (Nat×List (Nat×Bool))→List Pi→List Nat→Bool
 | D,[],gs=>D.all fun e=>e.2.isEmpty||gs.contains e.1
 | D,p::ps,gs=>Mz D p&&CY (Vd D p) ps gs
def s7(D:List (Nat×List (Nat×Bool)))(t:Nat):Option (List (Nat×Bool)):=some (oa D t)
theorem ux{D:List (Nat×List (Nat×Bool))}{t:Nat}:oa D t=[]∨(t,oa D t)∈D:=by
 induction D with
 | nil=>exact .inl rfl
 | cons e D ih =>
  obtain⟨s,ch⟩:=e;simp only[oa,O0]
  by_cases h:t=s
  ·subst h;right;simp
  ·have:(t==s)=false:=by simpa using h
   rw[this];simp only[oa]at ih;rcases ih with h | h
   ·exact .inl h
   ·exact .inr (de _ h)
theorem DX{D:List (Nat×List (Nat×Bool))}{p:Pi}(h:Mz D p=true):Fh (s7 D) p:=by
 simp only[Mz,aG,bU]at h;obtain⟨⟨h1,h2⟩,h3⟩:=h;refine⟨fun s hs=>⟨_,rfl,h1 s hs⟩,fun ch t b hg=>?_,fun d hd=>?_⟩
 ·rw[hg]at h2;simp only[lg,jD,sg,List.dropLast_concat,bR]at h2;simp[s7,h2]
 ·rw[hd]at h3;simp only[aG,bU,mQ,eX]at h3;refine⟨fun q hq=>h3.1 q hq,fun t ch ht q hq=>?_⟩;simp only[s7,aa]at ht;subst ht;rcases ux (D:=D) (t:=t)with h | h
  ·rw[h]at hq;simp at hq
  ·exact h3.2 _ h q hq
theorem An{D:List (Nat×List (Nat×Bool))}{p:Pi}:pC (s7 D) p=s7 (Vd D p):=by
 funext t;simp only[pC,s7,Vd];cases hd:p.d with
 | none=>simp
 | some d =>
  by_cases h:d=t
  ·subst h;simp[oa]
  ·have h2:(t==d)=false:=by simpa using fun e=>h e.symm
   simp[h,oa,O0,h2]
theorem Ot:∀ (gs:List Nat) (fr:List V) (t:Nat),(ET gs fr)[t]?=if t∈gs then(fr[t]?).map (fun _=>V.u)else fr[t]?
 | [],fr,t=>by simp[ET]
 | s::gs,fr,t=>by
  have ih:=Ot gs (fr.set s .u) t;simp only[ET,cV]at ih ⊢;rw[ih]
  by_cases hs:s=t
  ·subst hs;simp only[bA,K7,aO];rw[ZD];split<;>cases fr[s]?<;>rfl
  ·rw[aK hs];have:(t∈s::gs)↔t∈gs:=by simp[SJ hs]
   simp only[this]
theorem Af.ends{w:World}{J:ae}{μ:Mem}{fr:List V}{D:List (Nat×List (Nat×Bool))}{gs:List Nat}{a:Act}(h:Af w J μ fr (s7 D) a)(hD:CY D [] gs=true):FR w J μ (ET gs fr) a:=by
 refine⟨h.1,?_,fun t x hx=>?_⟩
 ·rw[h.2.1]
  have:∀ (gs:List Nat) (fr:List V),(ET gs fr).length=fr.length:=by
   intro gs
   induction gs with
   | nil=>intro fr;rfl
   | cons s gs ih=>intro fr;simp only[ET,cV]at ih ⊢;rw[ih];simp
  rw[this]
 ·rw[Ot]at hx;split at hx
  ·rw[aj]at hx;obtain⟨_,_,rfl⟩:=hx;exact .u _
  ·rename_i Cz;refine(h.2.2 t x hx _ rfl).1 ?_
   have:oa D t=[]:=by
    rcases ux (D:=D) (t:=t)with h | h
    ·exact h
    ·simp only[CY,bU]at hD;have:=hD _ h;simp only[c8,List.isEmpty_iff,List.contains_eq_mem,aU]at this;rcases this with h2 | h2
     ·exact h2
     ·exact absurd h2 Cz
   rw[this];simp[chainB]
def jM(P:Program)(n B:Nat)(w0 w:World)(J:ae)(μ:Mem)(K:Exit→St→Prop)(e:Exit)(a':Act)(w':World):Prop :=
 ∃ st' μ',K e st'∧fF P B w0 w' st'.J μ'∧FR w' st'.J μ' st'.fr a'∧eJ n w J μ w' st'.J μ'
theorem xt{P:Program}{ops:Array Oper}{n B:Nat}{gs:List Nat}{w0 ws:World}{σs:ae}{μs:Mem}{K:St→Prop}{Q:Exit→Act→World→Prop}
  (hQ:∀ st w μ a,K st→fF P B w0 w st.J μ→FR w st.J μ st.fr a→eJ n ws σs μs w st.J μ→Q .normal a w) :
  ∀ (l:List Oper) (k:Nat) (ps:List Pi) (D:List (Nat×List (Nat×Bool))) (fr:List V) (J:ae) (w:World) (μ:Mem) (a:Act),(∀ j,l[j]?=ops[k+j]?)→oS P ops l=some ps→CY D ps gs=true→je P gs ps K ⟨fr,J⟩ →
   fF P B w0 w J μ→Af w J μ fr (s7 D) a→eJ n ws σs μs w J μ →
   wpOps P ops Q ((List.range l.length).map (k+·)) a w
 | [],k,ps,D,fr,J,w,μ,a,_,hc,hD,hr,hS,hF,hk=>by
  simp only[oS,aa]at hc;subst hc;exact hQ _ w μ a hr hS (hF.ends hD) hk
 | o::l,k,ps,D,fr,J,w,μ,a,hl,hc,hD,hr,hS,hF,hk=>by
  simp only[oS]at hc;split at hc<;>simp only[aa,reduceCtorEq]at hc;rename_i p qs hp XZ;subst hc;simp only[CY,aG]at hD;have ho:ops[k]?=some o:=by have:=hl 0;simpa using this.symm
  have e1:(List.range (o::l).length).map (k+·)=k::(List.range l.length).map (k+1+·):=by
   rw[ag,zg,az,ic];simp only[dm];congr 1;apply cN;intro x _;simp only[Function.comp];omega
  rw[e1];simp only[wpOps,ho];refine Y5 hp hS hF (DX hD.1) hr ?_;intro r J' μ' a' w' h1 h2 h3 h4;rw[An]at h3;exact xt hQ l (k+1) qs _ _ _ w' μ' a' (fun j=>by have:=hl (j+1);rw[bF]at this;rw[this];congr 1;omega) XZ hD.2 h1 h2 h3 (hk.trans h4.Li)
theorem FR.toI{w:World}{J:ae}{μ:Mem}{fr:List V}{a:Act}(h:FR w J μ fr a):Af w J μ fr (s7 []) a :=
 ⟨h.1,h.2.1,fun t x hx ch vw=>by
  simp only[s7,oa,List.lookup_nil,we,aa]at vw;subst vw;exact⟨fun _=>h.2.2 t x hx,fun h=>by simp[chainB]at h⟩⟩
def tb(bs:List Nat)(i j:Nat):Bool:=(bs.getD i 0).testBit j
def dS(pis:List Pi)(i:Nat):Pi:=pis.getD i ⟨none,[],.alloc 0 []⟩
def AB(bs ls:List Nat)(i:Nat):Nat:=(ls.filter (tb bs i)).length
def lz(pis:List Pi)(bs:List Nat)(m:Nat)(ls:List Nat)(k:Nat):List Nat:=(List.range m).filter fun i=>(dS pis i).i.cD&&AB bs ls i==k
def OC(pis:List Pi)(bs:List Nat)(m:Nat)(ls:List Nat)(k L:Nat):List Nat :=
 (List.range m).filter fun i=>(dS pis i).i.cD&&((dS pis i).i.reads&&(decide (AB bs ls i≤k)&&!tb bs L i))
def zk(pis:List Pi)(bs:List Nat)(m:Nat)(ls:List Nat):Nat→List Nat→List (List Pi×Pi×List Pi)
 | _,[]=>[]
 | k,L::r=>((lz pis bs m ls k).map (dS pis),dS pis L,(OC pis bs m ls k L).map (dS pis))::zk pis bs m ls (k+1) r
def yL(p:Pi)(st:St):Prop :=
 match chainB st.fr p.g with
 | some c=>match p.d with
  | some d=>c=true→∃ ob,aQ st.fr st.J p.i=some (ob,st.fr.getD d .u)∧ob
  | none=>c=true→∃ ob r,aQ st.fr st.J p.i=some (ob,r)∧ob
 | none=>False
def pv(P:Program):List (List Pi×Pi×List Pi)→List Pi→(St→Prop)→St→Prop
 | [],last,K,st=>je P [] last K st
 | (CX,L,chk)::ds,last,K,st=>je P [] CX (fun st1=>gI P L (fun st2=>(∀ p∈chk,yL p st2)∧pv P ds last K st2) st1) st
def looks(p:Pi):List Nat:=p.i.lN.map (·.1)++p.g.map (·.1)
def Fact(p:Pi)(fr:List V)(J:ae):Prop :=
 ∃ c,chainB fr p.g=some c∧∃ r,dh fr p.d r=fr∧(c=true→∃ ob,aQ fr J p.i=some (ob,r)∧ob)
theorem Mb{fr:List V}{t:Nat}{r:V}:fr.set t r=fr↔(t<fr.length→fr[t]?=some r):=by
 constructor
 ·intro h hl;rw[← h,ao hl]
 ·intro h;refine gN fun i=>?_
  by_cases hi:t=i
  ·subst hi;rw[ZD];rcases fp t fr.length with hl | hl
   ·rw[h hl];rfl
   ·rw[bn hl];rfl
  ·rw[aK hi]
theorem nT{fr:List V}{d:Option Nat}{r:V}:dh fr d r=fr↔∀ t,d=some t→t<fr.length→fr[t]?=some r:=by
 cases d with
 | none=>simp[dh]
 | some t=>simp only[dh,Mb,aa];exact⟨fun h s hs=>hs▸h,fun h=>h t rfl⟩
theorem Mw{i:I}{x:O}(hx:x∈i.os){t:Nat}(ht:t∈x.slot):t∈i.lN.map (·.1):=by
 unfold I.lN;split
 ·rename_i c a b;simp only[I.os,bA,eA,sf]at hx;rcases hx with rfl | rfl | rfl
  ·simp only[O.slot,b6]at ht;simp[ht]
  ·simp[ht]
  ·simp[ht]
 ·simp only[ic,bI,iu,Function.comp];exact⟨t,⟨x,hx,ht⟩,rfl⟩
theorem kr{fr fr':List V}:∀ {ch:List (Nat×Bool)},(∀ q∈ch,fr'[q.1]?=fr[q.1]?)→chainB fr' ch=chainB fr ch
 | [],_=>rfl
 | (t,b)::ch,h=>by
  have h0:fr'[t]?=fr[t]?:=h (t,b) (by simp);have ih:=kr (fr:=fr) (fr':=fr') (ch:=ch) fun q hq=>h q (by simp[hq]);simp only[chainB,ih,ar,h0]
theorem vi{fr fr':List V}{J:ae}{p:Pi}(h:∀ t∈p.i.lN.map (·.1),fr'[t]?=fr[t]?):aQ fr' J p.i=aQ fr J p.i :=
 vh fun x hx=>wM fun s hs=>by rw[ar,ar,h s (Mw hx hs)]
theorem Fact.agree{p:Pi}{fr fr':List V}{J:ae}(h:Fact p fr J)(hl:∀ t∈looks p,fr'[t]?=fr[t]?)(hd:∀ t,p.d=some t→fr'[t]?=fr[t]?)(hlen:fr'.length=fr.length):Fact p fr' J:=by
 obtain⟨c,h1,r,h2,h3⟩:=h;refine⟨c,by rw[kr fun q hq=>hl q.1 (by simp only[looks,bP,bI];exact .inr ⟨q,hq,rfl⟩)];exact h1,r,?_,fun hc=>?_⟩
 ·rw[nT]at h2 ⊢;intro t ht dp;rw[hd t ht];exact h2 t ht (hlen▸dp)
 ·rw[vi fun t ht=>hl t (by simp only[looks,bP];exact .inl ht)];exact h3 hc
theorem Fact.still{p:Pi}{fr:List V}{J J':ae}(h:Fact p fr J)(hr:p.i.reads=false):Fact p fr J':=by
 obtain⟨c,h1,r,h2,h3⟩:=h;exact⟨c,h1,r,h2,fun hc=>by rw[← DL (J:=J) hr];exact h3 hc⟩
theorem yL.fact{p:Pi}{st:St}(h:yL p st):Fact p st.fr st.J:=by
 unfold yL at h;split at h
 ·rename_i c hc;split at h
  ·rename_i d hd;refine⟨c,hc,_,?_,h⟩;rw[nT];intro t ht hl;rw[hd]at ht;simp only[aa]at ht;subst ht;rw[ar,al hl];rfl
  ·rename_i hd
   by_cases LB:c=true
   ·obtain⟨ob,r,h1,h2⟩:=h LB;exact⟨c,hc,r,by rw[hd];rfl,fun _=>⟨ob,h1,h2⟩⟩
   ·exact⟨c,hc,.u,by rw[hd];rfl,fun h=>absurd h LB⟩
 ·exact h.elim
theorem KE{P:Program}{p:Pi}{K:St→Prop}{fr:List V}{J:ae}(h:gI P p K ⟨fr,J⟩)(hs:p.i.cD=true):
  ∃ c r,chainB fr p.g=some c∧K ⟨dh fr p.d r,J⟩∧(c=true→∃ ob,aQ fr J p.i=some (ob,r)∧ob):=by
 have key:∀ K0,iv P p K0 ⟨fr,J⟩→∃ r,K0 ⟨dh fr p.d r,J⟩∧∃ ob,aQ fr J p.i=some (ob,r)∧ob:=by
  intro K0 h0;obtain⟨d,g,i⟩:=p;cases i<;>first | (simp[I.cD]at hs;done) | skip
  all_goals
   simp only[iv]at h0;split at h0
   ·rename_i ob v hv;exact⟨v,h0.2,ob,hv,h0.1⟩
   ·rw[sB (by simpa using hs)]at h0;exact h0.elim
 unfold gI at h;split at h
 ·rename_i hg;obtain⟨r,h1,h2⟩:=key _ h;exact⟨true,r,by rw[hg];rfl,h1,fun _=>h2⟩
 ·split at h
  ·rename_i c hc;obtain⟨r,h1,h2⟩:=yl h (fun f args e=>by rw[e]at hs;simp[I.cD]at hs) fun x args e=>by rw[e]at hs;simp[I.cD]at hs
   by_cases LB:c=true
   ·obtain⟨r',h3,h4⟩:=key _ (h2 LB);simp only[St.mk.injEq,fA]at h3;subst LB;refine⟨true,r',hc,?_,fun _=>h4⟩;rw[h3];exact h1
   ·exact⟨c,r,hc,h1,fun h=>absurd h LB⟩
  ·exact h.elim
theorem ue{P:Program}{pis:List Pi}{K:St→Prop}{J:ae}:∀ (l:List Nat) (fr:List V),je P [] (l.map (dS pis)) K ⟨fr,J⟩→(∀ i∈l,(dS pis i).i.cD=true) →
  l.Pairwise (fun i j=>∀ t,(dS pis j).d=some t→t ∉ looks (dS pis i)∧(dS pis i).d≠some t)→(∀ i∈l,∀ t,(dS pis i).d=some t→t ∉ looks (dS pis i)) →
  ∃ fr',K ⟨fr',J⟩∧(∀ i∈l,Fact (dS pis i) fr' J)∧(∀ t,(∀ i∈l,(dS pis i).d≠some t)→fr'[t]?=fr[t]?)∧fr'.length=fr.length
 | [],fr,h,_,_,_=>⟨fr,h,by simp,fun _ _=>rfl,rfl⟩
 | i::l,fr,h,hs,hp,tc=>by
  simp only[az,je]at h;obtain⟨c,r,h1,h2,h3⟩:=KE h (hs i (by simp));rw[so]at hp;obtain⟨fr',h4,h5,h6,h7⟩:=ue l _ h2 (fun j hj=>hs j (by simp[hj])) hp.2 fun j hj=>tc j (by simp[hj])
  have NC:∀ t∈looks (dS pis i),fr'[t]?=fr[t]?:=fun t ht=>by
   rw[h6 t fun j hj e=>(hp.1 j hj t e).1 ht];exact jd fun e=>tc i (by simp) t e ht
  refine⟨fr',h4,fun j hj=>?_,fun t ht=>?_,by rw[h7,mr]⟩
  ·rcases bA.1 hj with rfl | hj
   ·refine⟨c,by rw[kr fun q hq=>NC q.1 (by simp only[looks,bP,bI];exact .inr ⟨q,hq,rfl⟩)];exact h1,r,?_,fun hc=>?_⟩
    ·rw[nT];intro t ht dp;rw[h6 t fun k hk e=>(hp.1 k hk t e).2 ht,ht];have:t<fr.length:=by rw[h7,mr]at dp;exact dp
     simp only[dh,ao this]
    ·rw[vi fun t ht=>NC t (by simp only[looks,bP];exact .inl ht)];exact h3 hc
   ·exact h5 j hj
  ·rw[h6 t fun j hj=>ht j (by simp[hj])];exact jd (ht i (by simp))
structure wR (ops:Array Oper) (pis:List Pi) (bs:List Nat) (m:Nat) (ls fl:List Nat):Prop where
 mn:m≤pis.length
 back:∀ i o,ops[i]?=some o→∀ e∈o.after,Region.binds .any e=true→e.on<i
 Pf:∀ (i j:Nat),i<pis.length→j<pis.length→tb bs i j=true→j<i∧∃ o,ops[i]?=some o∧∃ e∈o.after,Region.binds .any e=true∧(e.on=j∨tb bs e.on j=true)
 tail:∀ (i j:Nat),m≤i→i<pis.length→j<i→tb bs i j=true
 dst:∀ (i j:Nat) (t:Nat),i<m→j<m→(dS pis i).d=some t→(dS pis j).d=some t→i=j
 D7:∀ (i:Nat),i<m→(dS pis i).i.cD=false→i∈ls∨i∈fl
 O1:∀ L∈ls,L<m∧(dS pis L).i.cD=false
 PY:∀ (j k L L':Nat),j<k→ls[j]?=some L'→ls[k]?=some L→tb bs L L'=true
 CX:∀ (i k L:Nat),i<m→(dS pis i).i.cD=true→ls[k]?=some L→(tb bs i L=true↔k<AB bs ls i)
 slot:∀ (i:Nat) (s:Nat×List (Nat×Bool)) (j:Nat),i<m→s∈(dS pis i).i.lN→j<m→(dS pis j).d=some s.1→tb bs i j=true∧(dS pis j).g.isPrefixOf ((dS pis i).g++s.2)=true
 chain:∀ (i:Nat) (q:Nat×Bool),i<m→q∈(dS pis i).g→∃ j,j<m∧(dS pis j).d=some q.1∧tb bs i j=true
 last:∀ (i:Nat) (ch:List (Nat×Bool)) (t:Nat) (b:Bool) (j:Nat),i<m→(dS pis i).g=ch++[(t,b)]→j<m→(dS pis j).d=some t→(dS pis j).g=ch
 mono:∀ (i j t:Nat),i<m→(dS pis i).i.cD=true→j<m→(dS pis j).i.cD=true→(dS pis j).d=some t→t∈looks (dS pis i)→AB bs ls j≤AB bs ls i
theorem l6{P:Program}{ops:Array Oper}:∀ {l:List Oper} {ps:List Pi},oS P ops l=some ps→ps.length=l.length∧∀ (i:Nat) (o:Oper),l[i]?=some o→∃ p,ps[i]?=some p∧U6 P ops o=some p
 | [],ps,h=>by simp only[oS,aa]at h;subst h;simp
 | o::l,ps,h=>by
  simp only[oS]at h;split at h<;>simp only[aa,reduceCtorEq]at h;rename_i p qs hp XZ;subst h;obtain⟨h1,h2⟩:=l6 XZ;refine⟨by simp[h1],fun i o' ho=>?_⟩;cases i with
  | zero=>simp only[aq,aa]at ho;subst ho;exact⟨p,rfl,hp⟩
  | succ i=>exact h2 i o' (by simpa using ho)
abbrev iT(listed:Array Bool)(i:Nat):Prop:=listed.getD i false=true
theorem ei{listed:Array Bool}{i j:Nat}(hi:i<listed.size):iT (listed.setIfInBounds i true) j↔j=i∨iT listed j:=by
 simp only[iT,bl]
 by_cases h:i=j
 ·subst h;simp[hi]
 ·rw[cd h];simp[SJ h]
theorem pP{ops:Array Oper}{listed:Array Bool}{i:Nat}(hn:listed.size=ops.size)(h:i∈Region.ready .any ops listed):
  i<ops.size∧¬ iT listed i∧∃ o,ops[i]?=some o∧∀ e∈o.after,Region.binds .any e=true→iT listed e.on:=by
 obtain⟨h1,o,h2,h3⟩:=mem_ready.1 h;have hi:i<ops.size:=(aX.1 h2).1;refine⟨hi,?_,o,h2,h3⟩;simp only[iT,bl]at h1 ⊢;rw[bc (by rw[hn];exact hi)]at h1 ⊢;simp at h1 ⊢;exact h1
section
variable {P:Program} {ops:Array Oper} {pis:List Pi} {bs:List Nat} {m:Nat} {ls fl:List Nat}
theorem wR.ready(hX:wR ops pis bs m ls fl)(hn:pis.length=ops.size){listed:Array Bool}(fE:listed.size=ops.size)
  (hc:∀ i j,i<pis.length→j<pis.length→iT listed i→tb bs i j=true→iT listed j) {i:Nat} (h:i∈Region.ready .any ops listed) {j:Nat} (hj:j<pis.length) (ht:tb bs i j=true):iT listed j:=by
 obtain⟨h1,h2,o,h3,h4⟩:=pP fE h;obtain⟨h5,o',h6,e,h7,h8,h9⟩:=hX.Pf i j (by omega) hj ht;rw[h3]at h6;simp only[aa]at h6;subst h6;have C0:=h4 e h7 h8;rcases h9 with rfl | h9
 ·exact C0
 ·have:=hX.back i o h3 e h7 h8;exact hc e.on j (by omega) hj C0 h9
theorem wR.first(hX:wR ops pis bs m ls fl){listed:Array Bool}(fE:listed.size=ops.size)(h:Region.ready .any ops listed=[]):∀ i,i<ops.size→iT listed i:=by
 intro i
 induction i using Nat.strongRecOn with
 | ind i ih =>
  intro hi;refine a8 fun hn=>?_
  have:i∈Region.ready .any ops listed:=by
   rw[mem_ready];refine⟨?_,ops[i],by simp[hi],fun e he hb=>?_⟩
   ·simp only[iT,bl]at hn ⊢;rw[bc (by rw[fE];exact hi)]at hn ⊢;simp at hn ⊢;exact hn
   ·have hl:=hX.back i ops[i] (by simp[hi]) e he hb;exact ih e.on hl (by omega)
  rw[h]at this;simp at this
theorem AI{listed:Array Bool}(fE:listed.size=ops.size)(h:∀ i,i<ops.size→iT listed i):Region.ready .any ops listed=[]:=by
 refine bQ.2 fun i hi=>?_;obtain⟨h1,h2,_⟩:=pP fE hi;exact h2 (h i h1)
theorem xb(hX:wR ops pis bs m ls fl)(hp:oS P ops ops.toList=some pis){n B:Nat}{gs:List Nat}{w0 ws:World}{σs:ae}{μs:Mem}{K:St→Prop}{Q:Exit→Act→World→Prop}
  (hQ:∀ st w μ a,K st→fF P B w0 w st.J μ→FR w st.J μ st.fr a→eJ n ws σs μs w st.J μ→Q .normal a w) :
  ∀ (fuel q:Nat) (listed:Array Bool) (D:List (Nat×List (Nat×Bool))) (fr:List V) (J:ae) (w:World) (μ:Mem) (a:Act),m≤q→q≤pis.length→listed.size=ops.size→(∀ i,i<pis.length→(iT listed i↔i<q))→pis.length - q≤fuel →
   CY D (pis.drop q) gs=true→je P gs (pis.drop q) K ⟨fr,J⟩→fF P B w0 w J μ→Af w J μ fr (s7 D) a→eJ n ws σs μs w J μ→wpAny P .any ops Q fuel listed a w:=by
 have hn:pis.length=ops.size:=by rw[(l6 hp).1,a6]
 intro fuel
 induction fuel with
 | zero =>
  intro q listed D fr J w μ a hmq hq fE hl hf hD hr hS hF hk;have hq':q=pis.length:=by omega
  subst hq';rw[wm]at hD hr;refine wpAny_done (AI fE fun i hi=>(hl i (by omega)).2 (by omega)) ?_ 0;exact hQ _ w μ a hr hS (hF.ends hD) hk
 | succ fuel ih =>
  intro q listed D fr J w μ a hmq hq fE hl hf hD hr hS hF hk
  by_cases hq':q=pis.length
  ·subst hq';rw[wm]at hD hr;refine wpAny_done (AI fE fun i hi=>(hl i (by omega)).2 (by omega)) ?_ _;exact hQ _ w μ a hr hS (hF.ends hD) hk
  ·have A0:q<pis.length:=by omega
   refine⟨fun h=>?_,fun i hi=>?_⟩
   ·have:=hX.first fE h q (by omega);rw[hl q A0]at this;omega
   ·obtain⟨h1,h2,o,h3,h4⟩:=pP fE hi
    have hiq:i=q:=by
     have h5:¬ i<q:=fun h=>h2 ((hl i (by omega)).2 h);refine a8 fun ig=>?_
     have h6:=hX.ready hn fE (fun i' j hi' hj hli ht=>by
      rw[hl i' hi']at hli;have:=(hX.Pf i' j hi' hj ht).1;exact(hl j hj).2 (by omega)) hi A0 (hX.tail i q (by omega) (by omega) (by omega))
     rw[hl q A0]at h6;omega
    subst hiq;obtain⟨p,h5,h6⟩:=(l6 hp).2 i o (by simpa using h3)
    have Yp:pis.drop i=p::pis.drop (i+1):=by
     rw[dU A0];congr 1;rw[al A0]at h5;simpa using h5
    rw[Yp]at hD hr;simp only[CY,aG]at hD;simp only[wpOp,h3];refine Y5 h6 hS hF (DX hD.1) hr ?_;intro r J' μ' a' w' k1 k2 k3 k4;rw[An]at k3;exact ih (i+1) _ _ _ J' w' μ' a' (by omega) (by omega) (by simpa using fE) (fun j hj=>by rw[ei (by omega),hl j hj];omega) (by omega) hD.2 k1 k2 k3 (hk.trans k4.Li)
end
def lS(pis:List Pi)(m:Nat)(listed:Array Bool)(t:Nat):Option (List (Nat×Bool)) :=
 match (List.range m).find? (fun i=>(dS pis i).d==some t)with
 | none=>some []
 | some i=>if listed.getD i false then some (dS pis i).g else none
section
variable {P:Program} {ops:Array Oper} {pis:List Pi} {bs:List Nat} {m:Nat} {ls fl:List Nat}
theorem wR.wu(hX:wR ops pis bs m ls fl){listed:Array Bool}{i t:Nat}(hi:i<m)(hd:(dS pis i).d=some t):lS pis m listed t=if listed.getD i false then some (dS pis i).g else none:=by
 unfold lS;split
 ·rename_i h;rw[List.find?_eq_none]at h;exact absurd (h i (cA.2 hi)) (by simp[hd])
 ·rename_i j h;have h1:=zw h;have h2:=cA.1 (tP h);simp only[bR]at h1;rw[hX.dst j i t h2 hi h1 hd]
theorem Aj{listed:Array Bool}{t:Nat}(h:∀ i,i<m→(dS pis i).d≠some t):lS pis m listed t=some []:=by
 unfold lS;split
 ·rfl
 ·rename_i j hj;have h1:=zw hj;have h2:=cA.1 (tP hj);simp only[bR]at h1;exact absurd h1 (h j h2)
theorem jU{listed:Array Bool}{t:Nat}{ch:List (Nat×Bool)}(h:lS pis m listed t=some ch):
  (ch=[]∧∀ i,i<m→(dS pis i).d≠some t)∨∃ i,i<m∧(dS pis i).d=some t∧iT listed i∧ch=(dS pis i).g:=by
 unfold lS at h;split at h
 ·rename_i hf;rw[List.find?_eq_none]at hf;simp only[aa]at h;exact .inl ⟨h.symm,fun i hi hd=>hf i (cA.2 hi) (by simp[hd])⟩
 ·rename_i j hj;have h1:=zw hj;have h2:=cA.1 (tP hj);simp only[bR]at h1;split at h<;>simp only[aa,reduceCtorEq]at h;rename_i hl;exact .inr ⟨j,h2,h1,hl,h.symm⟩
theorem wR.nZ(hX:wR ops pis bs m ls fl){i j t:Nat}(hi:i<m)(hj:j<m)(hd:(dS pis j).d=some t)(ht:t∈looks (dS pis i)):tb bs i j=true:=by
 simp only[looks,bP,bI]at ht;rcases ht with⟨s,hs,rfl⟩ | ⟨q,hq,rfl⟩
 ·exact(hX.slot i s j hi hs hj hd).1
 ·obtain⟨j',h1,h2,h3⟩:=hX.chain i q hi hq;rw[hX.dst j j' _ hj h1 hd h2];exact h3
theorem wR.lt(hX:wR ops pis bs m ls fl){i j:Nat}(hi:i<m)(hj:j<m)(h:tb bs i j=true):j<i :=
 (hX.Pf i j (cM hi hX.mn) (cM hj hX.mn) h).1
theorem wR.Xz(hX:wR ops pis bs m ls fl){listed:Array Bool}(hc:∀ i j,i<pis.length→j<pis.length→iT listed i→tb bs i j=true→iT listed j){i:Nat}(hi:i<m)(Kp:¬ iT listed i)
  (iZ:∀ j,j<pis.length→tb bs i j=true→iT listed j):Fh (lS pis m listed) (dS pis i):=by
 have hm:=hX.mn;refine⟨fun s hs=>?_,fun ch t b hg=>?_,fun d hd=>⟨fun q hq e=>?_,fun t ch ht q hq e=>?_⟩⟩
 ·by_cases hw:∃ j,j<m∧(dS pis j).d=some s.1
  ·obtain⟨j,hj,hd⟩:=hw;have:=hX.slot i s j hi hs hj hd;have hl:=iZ j (by omega) this.1;refine⟨(dS pis j).g,?_,this.2⟩;rw[hX.wu hj hd,hl];rfl
  ·exact⟨[],Aj fun j hj hd=>hw ⟨j,hj,hd⟩,by simp⟩
 ·obtain⟨j,hj,hd,ht⟩:=hX.chain i (t,b) hi (by rw[hg];simp);rw[hX.wu hj hd,iZ j (by omega) ht,hX.last i ch t b j hi hg hj hd];rfl
 ·obtain⟨j,hj,hd',ht⟩:=hX.chain i q hi hq;rw[e]at hd';have:=hX.dst i j d hi hj hd hd';subst this;have:=hX.lt hi hi ht;omega
 ·rcases jU ht with⟨rfl,_⟩ | ⟨j,hj,NK,hlj,rfl⟩
  ·simp at hq
  ·obtain⟨j2,Vu,Zo,Sl⟩:=hX.chain j q hj hq;have NB:=hc j j2 (by omega) (by omega) hlj Sl;rw[e]at Zo;have:=hX.dst i j2 d hi Vu hd Zo;subst this;exact Kp NB
theorem wR.pC(hX:wR ops pis bs m ls fl){listed:Array Bool}{i:Nat}(hi:i<m)(NG:i<listed.size):pC (lS pis m listed) (dS pis i)=lS pis m (listed.setIfInBounds i true):=by
 funext t;simp only[Pm.pC]
 by_cases hd:(dS pis i).d=some t
 ·have:(listed.setIfInBounds i true).getD i false=true:=(ei NG).2 (.inl rfl);rw[aI hd,hX.wu hi hd,this];rfl
 ·rw[aw hd];unfold lS;split
  ·rfl
  ·rename_i j hj;have h1:=zw hj;simp only[bR]at h1;have ig:j≠i:=fun e=>hd (e▸h1)
   have:(listed.setIfInBounds i true).getD j false=listed.getD j false:=by
    have h2:=ei (listed:=listed) (j:=j) NG;simp only[ig,nL,iT]at h2;cases h3:listed.getD j false<;>simp_all
   rw[this]
def rI(P:Program)(pis:List Pi)(bs:List Nat)(m:Nat)(ls:List Nat)(Kt:St→Prop)(k:Nat)(fr:List V)(J:ae):Prop :=
 match ls[k]? with
 | some L=>gI P (dS pis L) (fun st2=>(∀ p∈(OC pis bs m ls k L).map (dS pis),yL p st2)∧pv P (zk pis bs m ls (k+1) (ls.drop (k+1))) ((lz pis bs m ls ls.length).map (dS pis)) Kt st2) ⟨fr,J⟩
 | none=>Kt ⟨fr,J⟩
theorem dj{k i:Nat}:i∈lz pis bs m ls k↔i<m∧(dS pis i).i.cD=true∧AB bs ls i=k:=by
 simp[lz]
theorem wR.Sd(hX:wR ops pis bs m ls fl){Kt:St→Prop}{k:Nat}(hk:k≤ls.length){fr:List V}{J:ae}
  (h:pv P (zk pis bs m ls k (ls.drop k)) ((lz pis bs m ls ls.length).map (dS pis)) Kt ⟨fr,J⟩) :
  ∃ fr',rI P pis bs m ls Kt k fr' J∧(∀ i∈lz pis bs m ls k,Fact (dS pis i) fr' J)∧(∀ t,(∀ i∈lz pis bs m ls k,(dS pis i).d≠some t)→fr'[t]?=fr[t]?)∧fr'.length=fr.length:=by
 have Im:(lz pis bs m ls k).Pairwise (fun i j=>∀ t,(dS pis j).d=some t→t ∉ looks (dS pis i)∧(dS pis i).d≠some t):=by
  refine Y0 ?_ (List.Pairwise.filter _ ac4);intro i j hi hj dp t hd
  replace hi:=(dj (k:=k)).1 hi
  replace hj:=(dj (k:=k)).1 hj
  refine⟨fun ht=>?_,fun hd'=>?_⟩
  ·have:=hX.lt hi.1 hj.1 (hX.nZ hi.1 hj.1 hd ht);omega
  ·have:=hX.dst i j t hi.1 hj.1 hd' hd;omega
 have tc:∀ i∈lz pis bs m ls k,∀ t,(dS pis i).d=some t→t ∉ looks (dS pis i):=fun i hi t hd ht=>by
  rw[dj]at hi;have:=hX.lt hi.1 hi.1 (hX.nZ hi.1 hi.1 hd ht);omega
 have Kr:∀ i∈lz pis bs m ls k,(dS pis i).i.cD=true:=fun i hi=>(dj.1 hi).2.1
 by_cases tR:k<ls.length
 ·have e:ls.drop k=ls[k]::ls.drop (k+1):=dU tR;rw[e]at h;simp only[zk,pv]at h;obtain⟨fr',h1,h2,h3,h4⟩:=ue _ _ h Kr Im tc;refine⟨fr',?_,h2,h3,h4⟩;simp only[rI,al tR];exact h1
 ·have hk':k=ls.length:=by omega
  subst hk';rw[wm]at h;simp only[zk,pv]at h;obtain⟨fr',h1,h2,h3,h4⟩:=ue _ _ h Kr Im tc;refine⟨fr',?_,h2,h3,h4⟩;have e:ls[ls.length]?=none:=bn (au _);simp only[rI,e];exact h1
def Bn(n:Nat)(listed:Array Bool):Nat:=((List.range n).filter fun i=>!listed.getD i false).length
theorem Da{n m:Nat}{listed:Array Bool}(hm:m≤n)(h:∀ i,m≤i→i<n→¬ iT listed i):n - m≤Bn n listed:=by
 have e:List.range n=List.range m++(List.range (n - m)).map (m+·):=by rw[← List.range_add];congr 1;omega
 unfold Bn;rw[e,jZ,ak]
 have:((List.range (n - m)).map (m+·)).filter (fun i=>!listed.getD i false)=(List.range (n - m)).map (m+·):=by
  rw[List.filter_eq_self];intro i hi;simp only[bI,cA]at hi;obtain⟨j,hj,rfl⟩:=hi;have:=h (m+j) (by omega) (by omega);simpa[iT]using this
 rw[this];simp
theorem Hr{n:Nat}{listed:Array Bool}{i:Nat}(hi:i<n)(h:¬ iT listed i):0<Bn n listed:=by
 unfold Bn;rw[List.length_pos_iff_exists_mem];exact⟨i,by simp only[cU,cA];exact⟨hi,by simpa[iT]using h⟩⟩
theorem Hq{n:Nat}{listed:Array Bool}{i:Nat}(hi:i<n)(NG:i<listed.size)(h:¬ iT listed i):Bn n (listed.setIfInBounds i true)+1≤Bn n listed:=by
 induction n with
 | zero=>omega
 | succ n ih =>
  have ex:∀ l:Array Bool,Bn (n+1) l=Bn n l+if l.getD n false then 0 else 1:=by
   intro l;unfold Bn;rw[RY,jZ,ak];congr 1;rw[eU];cases hl:l.getD n false<;>rfl
  rw[ex,ex]
  by_cases hn:i=n
  ·subst hn;have h1:(listed.setIfInBounds i true).getD i false=true:=(ei NG).2 (.inl rfl);have h2:listed.getD i false=false:=by simpa[iT]using h
   rw[h1,h2]
   have:Bn i (listed.setIfInBounds i true)=Bn i listed:=by
    unfold Bn;congr 1;refine List.filter_congr fun j hj=>?_;rw[cA]at hj;have h2:=ei (listed:=listed) (j:=j) NG;have ig:j≠i:=by omega
    simp only[ig,nL,iT]at h2;cases h3:listed.getD j false<;>simp_all
   simp[this]
  ·have h1:=ih (by omega);have h2:=ei (listed:=listed) (j:=n) NG;have ig:n≠i:=fun e=>hn e.symm;simp only[ig,nL,iT]at h2;have:(listed.setIfInBounds i true).getD n false=listed.getD n false:=by cases h3:listed.getD n false<;>simp_all
   rw[this];omega
def D0(pis:List Pi)(m:Nat):List (Nat×List (Nat×Bool)):=(List.range m).filterMap fun i=>(dS pis i).d.map fun d=>(d,(dS pis i).g)
theorem D9{t:Nat}{x:List (Nat×Bool)}:∀ {D:List (Nat×List (Nat×Bool))},(∀ v,(t,v)∈D→v=x)→(∃ v,(t,v)∈D)→oa D t=x
 | [],_,h=>by obtain⟨v,hv⟩:=h;simp at hv
 | (s,v)::D,h,he=>by
  simp only[oa,O0]
  by_cases hts:t=s
  ·subst hts;simp[h v (by simp)]
  ·have h2:(t==s)=false:=by simpa using hts
   rw[h2];refine D9 (D:=D) (fun v hv=>h v (by simp[hv])) ?_;obtain⟨v',hv'⟩:=he;rcases bA.1 hv' with e | hv'
   ·simp only[an]at e;exact absurd e.1 hts
   ·exact⟨v',hv'⟩
theorem wR.all(hX:wR ops pis bs m ls fl){listed:Array Bool}(h:∀ i,i<m→iT listed i):lS pis m listed=s7 (D0 pis m):=by
 funext t
 have tf:∀ v,(t,v)∈D0 pis m↔∃ i,i<m∧(dS pis i).d=some t∧v=(dS pis i).g:=by
  intro v;simp only[D0,Hj,cA,aj,an];constructor
  ·rintro⟨i,hi,d,hd,rfl,rfl⟩;exact⟨i,hi,hd,rfl⟩
  ·rintro⟨i,hi,hd,rfl⟩;exact⟨i,hi,t,hd,rfl,rfl⟩
 by_cases hw:∃ i,i<m∧(dS pis i).d=some t
 ·obtain⟨i,hi,hd⟩:=hw;rw[hX.wu hi hd,h i hi];simp only[aO,s7,aa];refine(D9 (fun v hv=>?_) ⟨_,(tf _).2 ⟨i,hi,hd,rfl⟩⟩).symm;obtain⟨j,hj,NK,rfl⟩:=(tf v).1 hv;rw[hX.dst i j t hi hj hd NK]
 ·rw[Aj fun i hi hd=>hw ⟨i,hi,hd⟩];simp only[s7,aa];rcases ux (D:=D0 pis m) (t:=t)with h1 | h1
  ·exact h1.symm
  ·obtain⟨i,hi,hd,_⟩:=(tf _).1 h1;exact absurd ⟨i,hi,hd⟩ hw
end
theorem ID{P:Program}{p:Pi}{fr:List V}{J:ae}(h:Fact p fr J):GI P p (fun st'=>st'=⟨fr,J⟩) fr J:=by
 obtain⟨c,h1,r,h2,h3⟩:=h;cases c with
 | false=>exact⟨false,h1,.inr ⟨rfl,r,by rw[h2]⟩⟩
 | true =>
  obtain⟨ob,h4,h5⟩:=h3 rfl;refine⟨true,h1,.inl ⟨rfl,fun st'=>st'=⟨fr,J⟩,?_,fun _ h=>h⟩⟩;obtain⟨d,g,i⟩:=p;have hs:=sT h4;cases i<;>first | (simp[I.cD]at hs;done) | skip
  all_goals
   simp only[iv];simp only at h4 h2;rw[h4];exact⟨h5,by rw[h2]⟩
section
variable {P:Program} {ops:Array Oper} {pis:List Pi} {bs:List Nat} {m:Nat} {ls fl:List Nat}
theorem sS(hX:wR ops pis bs m ls fl)(hp:oS P ops ops.toList=some pis){n B:Nat}{gs:List Nat}{w0 ws:World}{σs:ae}{μs:Mem}{K:St→Prop}{Q:Exit→Act→World→Prop}
  (hQ:∀ st w μ a,K st→fF P B w0 w st.J μ→FR w st.J μ st.fr a→eJ n ws σs μs w st.J μ→Q .normal a w) (ht:CY (D0 pis m) (pis.drop m) gs=true) :
  ∀ (fuel k:Nat) (listed:Array Bool) (fr:List V) (J:ae) (w:World) (μ:Mem) (a:Act),listed.size=ops.size→(∀ f∈fl,iT listed f) →
   (∀ i j,i<pis.length→j<pis.length→iT listed i→tb bs i j=true→iT listed j)→(∀ i,m≤i→i<pis.length→¬ iT listed i)→k≤ls.length →
   (∀ j L,ls[j]?=some L→(iT listed L↔j<k))→(∀ i,i<m→(dS pis i).i.cD=true→AB bs ls i≤k→¬ iT listed i→Fact (dS pis i) fr J) →
   rI P pis bs m ls (je P gs (pis.drop m) K) k fr J→Bn pis.length listed≤fuel →
   fF P B w0 w J μ→Af w J μ fr (lS pis m listed) a→eJ n ws σs μs w J μ→wpAny P .any ops Q fuel listed a w:=by
 have hn:pis.length=ops.size:=by rw[(l6 hp).1,a6]
 have hm:=hX.mn;intro fuel
 induction fuel with
 | zero =>
  intro k listed fr J w μ a fE qN hc wH hk nM A4 yb hu hS hF Cy;have Nv:∀ i,i<pis.length→iT listed i:=fun i hi=>a8 fun h=>by have:=Hr hi h;omega
  have iZ:∀ i,i<m→iT listed i:=fun i hi=>Nv i (by omega)
  have tR:k=ls.length:=by
   refine a8 fun ig=>?_;have dp:k<ls.length:=by omega
   have:=(nM k ls[k] (al dp)).1 (iZ _ (hX.O1 _ (cF dp)).1);omega
  subst tR;have e:ls[ls.length]?=none:=bn (au _);simp only[rI,e]at yb;rw[hX.all iZ]at hF
  exact xb hX hp hQ 0 m listed _ fr J w μ a (au _) hm fE (fun i hi=>⟨fun h=>a8 fun h2=>wH i (by omega) hi h,fun h=>iZ i h⟩) (by
   have:=Da hm wH;omega) ht yb hS hF Cy
 | succ fuel ih =>
  intro k listed fr J w μ a fE qN hc wH hk nM A4 yb hu hS hF Cy
  by_cases iZ:∀ i,i<m→iT listed i
  ·have tR:k=ls.length:=by
    refine a8 fun ig=>?_;have dp:k<ls.length:=by omega
    have:=(nM k ls[k] (al dp)).1 (iZ _ (hX.O1 _ (cF dp)).1);omega
   subst tR;have e:ls[ls.length]?=none:=bn (au _);simp only[rI,e]at yb;rw[hX.all iZ]at hF
   exact xb hX hp hQ _ m listed _ fr J w μ a (au _) hm fE (fun i hi=>⟨fun h=>a8 fun h2=>wH i (by omega) hi h,fun h=>iZ i h⟩) (by
    have:=Da hm wH;omega) ht yb hS hF Cy
  ·refine⟨fun h=>absurd (fun i hi=>hX.first fE h i (by omega)) iZ,fun i hi=>?_⟩;obtain⟨hio,Kp,o,ho,_⟩:=pP fE hi;have ye:i<pis.length:=by omega
   have A7:∀ j,j<pis.length→tb bs i j=true→iT listed j:=fun j hj ht=>hX.ready hn fE hc hi hj ht
   have zV:i<m:=by
    refine a8 fun h=>iZ fun j hj=>?_;exact A7 j (by omega) (hX.tail i j (by omega) ye (by omega))
   obtain⟨p,hpi,LC⟩:=(l6 hp).2 i o (by simpa using ho);have mV:dS pis i=p:=by simp[dS,ar,hpi]
   have gU:Fh (lS pis m listed) p:=mV▸hX.Xz hc zV Kp A7
   have hclos':∀ x j,x<pis.length→j<pis.length→iT (listed.setIfInBounds i true) x→tb bs x j=true→iT (listed.setIfInBounds i true) j:=by
    intro x j hx hj hl ht;rw[ei (by omega)]at hl ⊢;rcases hl with rfl | hl
    ·exact .inr (A7 j hj ht)
    ·exact .inr (hc x j hx hj hl ht)
   have htl':∀ x,m≤x→x<pis.length→¬ iT (listed.setIfInBounds i true) x:=by
    intro x hx hxn hl;rw[ei (by omega)]at hl;rcases hl with rfl | hl
    ·omega
    ·exact wH x hx hxn hl
   have hu':Bn pis.length (listed.setIfInBounds i true)≤fuel:=by
    have:=Hq ye (by omega:i<listed.size) Kp;omega
   have TU:∀ x,x<m→(dS pis x).i.cD=true→(∀ j,j<pis.length→tb bs x j=true→iT listed j)→AB bs ls x≤k:=by
    intro x hx hs hal';refine a8 fun dp=>?_;have h1:AB bs ls x≤ls.length:=fa _ _;have h2:k<ls.length:=by omega
    have h3:=(hX.CX x k ls[k] hx hs (al h2)).2 (by omega);have h4:=hal' ls[k] (by have:=(hX.O1 _ (cF h2)).1;omega) h3;have:=(nM k ls[k] (al h2)).1 h4;omega
   simp only[wpOp,ho]
   by_cases hs:p.i.cD=true
   ·
    have qM:(dS pis i).i.cD=true:=by rw[mV];exact hs
    have hf:=A4 i zV qM (TU i zV qM A7) Kp;rw[mV]at hf;refine Td LC hS hF gU (ID hf) ?_;intro r J' μ' a' w' k1 k2 k3 k4;simp only[St.mk.injEq]at k1;obtain⟨k1,rfl⟩:=k1;rw[k1]at k3;have e:pC (lS pis m listed) p=lS pis m (listed.setIfInBounds i true):=by rw[← mV];exact hX.pC zV (by omega)
    rw[e]at k3;refine ih k _ fr J' w' μ' a' (by simpa using fE) (fun f hf=>(ei (by omega)).2 (.inr (qN f hf))) hclos' htl' hk (fun j L hL=>?_) (fun x hx tQ TP qd=>A4 x hx tQ TP fun h=>qd ((ei (by omega)).2 (.inr h))) yb hu' k2 k3 (Cy.trans k4.Li);rw[ei (by omega),nM j L hL]
    have:L≠i:=fun e=>by
     have:=(hX.O1 L (aV hL)).2;rw[e,qM]at this;simp at this
    simp[this]
   ·
    have qM:(dS pis i).i.cD=false:=by rw[mV];simpa using hs
    obtain⟨j,hj⟩:=eZ.1 ((hX.D7 i zV qM).resolve_right fun h=>Kp (qN i h))
    have Iu:j=k:=by
     have h1:¬ j<k:=fun h=>Kp ((nM j i hj).2 h);refine a8 fun ig=>?_;have kH:=(ab.1 hj).1;have tR:k<ls.length:=by omega
     have h2:=hX.PY k j i ls[k] (by omega) (al tR) hj;have h3:=A7 ls[k] (by have:=(hX.O1 _ (cF tR)).1;omega) h2;have:=(nM k ls[k] (al tR)).1 h3;omega
    subst Iu;have kH:j<ls.length:=(ab.1 hj).1;simp only[rI,hj,mV]at yb;refine Y5 LC hS hF gU yb ?_;intro r J' μ' a' w' k1 k2 k3 k4;obtain⟨Uh,cQ⟩:=k1;obtain⟨fr',h1,h2,h3,h4⟩:=hX.Sd (k:=j+1) (by omega) cQ;have e:pC (lS pis m listed) p=lS pis m (listed.setIfInBounds i true):=by rw[← mV];exact hX.pC zV (by omega)
    rw[e]at k3
    have jg:∀ x∈lz pis bs m ls (j+1),¬ iT (listed.setIfInBounds i true) x:=by
     intro x hx hl;rw[dj]at hx;rw[ei (by omega)]at hl;rcases hl with rfl | hl
     ·rw[qM]at hx;simp at hx
     ·have:=TU x hx.1 hx.2.1 fun y hy ht=>hc x y (by omega) hy hl ht;omega
    have yk:∀ t y,y<m→(dS pis y).d=some t→iT (listed.setIfInBounds i true) y→fr'[t]?=(dh fr p.d r)[t]?:=by
     intro t y hy hd hl;refine h3 t fun x hx XL=>jg x hx ?_;rw[hX.dst x y t (dj.1 hx).1 hy XL hd];exact hl
    have hF':Af w' J' μ' fr' (lS pis m (listed.setIfInBounds i true)) a':=by
     refine⟨k3.1,by rw[h4];exact k3.2.1,fun t x hx ch vw=>?_⟩
     have Ln:fr'[t]?=(dh fr p.d r)[t]?:=by
      rcases jU vw with⟨_,qe⟩ | ⟨y,hy,hd,hl,_⟩
      ·exact h3 t fun x hx=>qe x (dj.1 hx).1
      ·exact yk t y hy hd hl
     have yh:chainB fr' ch=chainB (dh fr p.d r) ch:=by
      refine kr fun q hq=>?_;rcases jU vw with⟨rfl,_⟩ | ⟨y,hy,hd,hl,rfl⟩
      ·simp at hq
      ·obtain⟨z,hz,hzd,hzt⟩:=hX.chain y q hy hq;exact yk q.1 z hz hzd (hclos' y z (by omega) (by omega) hl hzt)
     rw[yh];rw[Ln]at hx;exact k3.2.2 t x hx ch vw
    refine ih (j+1) _ fr' J' w' μ' a' (by simpa using fE) (fun f hf=>(ei (by omega)).2 (.inr (qN f hf))) hclos' htl' (by omega) (fun y L hL=>?_) (fun x hx tQ TP qd=>?_) h1 hu' k2 hF' (Cy.trans k4.Li)
    ·rw[ei (by omega),nM y L hL];constructor
     ·rintro(rfl | h)
      ·refine a8 fun ig=>?_;have h5:=hX.PY j y L L (by omega) hj hL;have:=hX.lt zV zV h5;omega
      ·omega
     ·intro h;rcases fp y j with h5 | h5
      ·exact .inr h5
      ·have:y=j:=by omega
       subst this;rw[hL]at hj;simp only[aa]at hj;exact .inl hj
    ·by_cases Vm:AB bs ls x=j+1
     ·exact h2 x (dj.2 ⟨hx,tQ,Vm⟩)
     ·have hxj':AB bs ls x≤j:=by omega
      have Nh:¬ iT listed x:=fun h=>qd ((ei (by omega)).2 (.inr h));have TY:¬ tb bs i x=true:=fun h=>Nh (A7 x (by omega) h)
      have Eu:Fact (dS pis x) (dh fr p.d r) J':=by
       by_cases hr:(dS pis x).i.reads=true
       ·exact(Uh (dS pis x) (bI.2 ⟨x,by simp[OC,hx,tQ,hr,hxj',TY],rfl⟩)).fact
       ·have hr':(dS pis x).i.reads=false:=by simpa using hr
        refine Fact.still (Fact.agree (A4 x hx tQ hxj' Nh) (fun t ht=>?_) (fun t ht=>?_) mr) hr'
        ·refine jd fun hd=>?_;have h5:=hX.nZ hx zV (mV▸hd) ht;have:=(hX.CX x j i hx tQ hj).1 h5;omega
        ·refine jd fun hd=>?_;have:=hX.dst x i t hx zV ht (mV▸hd);subst this;rw[tQ]at qM;simp at qM
      refine Fact.agree Eu (fun t ht=>?_) (fun t ht=>?_) h4
      ·refine h3 t fun y hy QE=>?_;rw[dj]at hy;have:=hX.mono x y t hx tQ hy.1 hy.2.1 QE ht;omega
      ·refine h3 t fun y hy QE=>?_;rw[dj]at hy;have:=hX.dst x y t hx hy.1 ht QE;subst this;omega
end
def PN(ops:Array Oper)(pis:List Pi)(bs:List Nat)(m:Nat)(ls fl:List Nat):Bool :=
 decide (m≤pis.length) &&
 (((List.range ops.size).all fun i=>match ops[i]? with
  | some o=>o.after.toList.all fun e=>!Region.binds .any e||decide (e.on<i)
  | none=>true) &&
 (((List.range pis.length).all fun i=>(List.range pis.length).all fun j=>!tb bs i j||(decide (j<i)&&match ops[i]? with
  | some o=>o.after.toList.any fun e=>Region.binds .any e&&(e.on==j||tb bs e.on j)
  | none=>false)) &&
 (((List.range pis.length).all fun i=>decide (i<m)||(List.range i).all fun j=>tb bs i j) &&
 (((List.range m).all fun i=>(List.range i).all fun j=>match (dS pis i).d with
  | none=>true
  | some t=>(dS pis j).d != some t) &&
 (((List.range m).all fun i=>(dS pis i).i.cD||(ls.contains i||fl.contains i)) &&
 ((ls.all fun L=>decide (L<m)&&!(dS pis L).i.cD) &&
 (((List.range ls.length).all fun k=>(List.range k).all fun j=>tb bs (ls.getD k 0) (ls.getD j 0)) &&
 (((List.range m).all fun i=>!(dS pis i).i.cD||(List.range ls.length).all fun k=>tb bs i (ls.getD k 0)==decide (k<AB bs ls i)) &&
 (((List.range m).all fun i=>(dS pis i).i.lN.all fun s=>(List.range m).all fun j=>(dS pis j).d != some s.1||(tb bs i j&&(dS pis j).g.isPrefixOf ((dS pis i).g++s.2))) &&
 (((List.range m).all fun i=>(dS pis i).g.all fun q=>(List.range m).any fun j=>(dS pis j).d==some q.1&&tb bs i j) &&
 (((List.range m).all fun i=>match (dS pis i).g.getLast? with
  | none=>true
  | some q=>(List.range m).all fun j=>(dS pis j).d != some q.1||(dS pis j).g==(dS pis i).g.dropLast) &&
 ((List.range m).all fun i=>!(dS pis i).i.cD||(List.range m).all fun j=>!(dS pis j).i.cD||match (dS pis j).d with
  | none=>true
  | some t=>!(looks (dS pis i)).contains t||decide (AB bs ls j≤AB bs ls i)))))))))))))
section
variable {P:Program} {ops:Array Oper} {pis:List Pi} {bs:List Nat} {m:Nat} {ls fl:List Nat}
theorem CF{ls:List Nat}{k L:Nat}(h:ls[k]?=some L):ls.getD k 0=L:=by rw[ar,h];rfl
theorem Mx(h:PN ops pis bs m ls fl=true)(_hn:pis.length=ops.size):wR ops pis bs m ls fl:=by
 simp only[PN,aG,bU,cA,aU]at h;obtain⟨h1,h2,h3,h4,h5,h6,h7,h8,h9,C0,vZ,Pd,YC⟩:=h;constructor
 ·exact h1
 ·intro i o ho e he hb;have:=h2 i (aX.1 ho).1;rw[ho]at this;simp only[bU,c8,cS,aU]at this;rcases this e (Array.mem_toList_iff.2 he)with h | h
  ·rw[hb]at h;simp at h
  ·exact h
 ·intro i j hi hj ht;have:=h3 i hi j hj;rw[ht]at this;simp only[eB,im,aG,aU]at this;refine⟨this.1,?_⟩;have h:=this.2;split at h
  ·rename_i o ho;simp only[List.any_eq_true,aG,c8,bR]at h;obtain⟨e,he,hb,hor⟩:=h;exact⟨o,ho,e,Array.mem_toList_iff.1 he,hb,hor⟩
  ·simp at h
 ·intro i j Ya hi hj;have:=h4 i hi;simp only[c8,aU,bU,cA]at this;rcases this with h | h
  ·omega
  ·exact h j hj
 ·intro i j t hi hj Pb NK
  have key:∀ i j,i<m→j<i→(dS pis i).d=some t→(dS pis j).d=some t→False:=by
   intro i j hi hj Pb NK;have:=h5 i hi j hj;rw[Pb]at this;simp only[mQ,eX]at this;exact this NK
  rcases Nat.lt_trichotomy i j with h | h | h
  ·exact(key j i hj h NK Pb).elim
  ·exact h
  ·exact(key i j hi h Pb NK).elim
 ·intro i hi hs;have:=h6 i hi;rw[hs]at this;simpa using this
 ·intro L hL;have:=h7 L hL;simpa using this
 ·intro j k L L' Iu hL' hL;have:=h8 k (ab.1 hL).1 j Iu
  rwa [CF hL,CF hL']at this
 ·intro i k L hi hs hL;have:=h9 i hi;rw[hs]at this;simp only[eB,im,bU,cA,bR]at this;have:=this k (ab.1 hL).1;rw[CF hL]at this;rw[this];simp
 ·intro i s j hi hs hj hd;have:=C0 i hi s hs j hj;simp only[c8,mQ,eX,aG]at this;rcases this with h | h
  ·exact absurd hd h
  ·exact h
 ·intro i q hi hq;have:=vZ i hi q hq;simp only[List.any_eq_true,cA,aG,bR]at this;obtain⟨j,hj,h⟩:=this;exact⟨j,hj,h⟩
 ·intro i ch t b j hi hg hj hd;have:=Pd i hi;rw[hg]at this;simp only[lg,jD,sg,List.dropLast_concat,bU,cA,c8,mQ,eX,bR]at this;rcases this j hj with h | h
  ·exact absurd hd h
  ·exact h
 ·intro i j t hi hs hj Vp hd ht;have:=YC i hi;rw[hs]at this;simp only[eB,im,bU,cA]at this;have:=this j hj;rw[Vp,hd]at this;simp only[eB,im,c8,cS,aU]at this;rcases this with h | h
  ·simp at h;exact absurd ht h
  ·exact h
def mX(bs:List Nat):Nat→Nat
 | 0=>0
 | i+1=>if bs.getD i 0==2^i - 1 then mX bs i else i+1
theorem sP{n B:Nat}{gs:List Nat}{K:St→Prop}{Q:Exit→Act→World→Prop}(hp:oS P ops ops.toList=some pis)(gU:PN ops pis bs m ls []=true)
  (ht:CY (D0 pis m) (pis.drop m) gs=true) {fr:List V} {J:ae} {w0 w:World} {μ:Mem} {a:Act}
  (h:pv P (zk pis bs m ls 0 ls) ((lz pis bs m ls ls.length).map (dS pis)) (je P gs (pis.drop m) K) ⟨fr,J⟩)
  (hS:fF P B w0 w J μ) (hF:FR w J μ fr a)
  (hQ:∀ st' w' μ' a',K st'→fF P B w0 w' st'.J μ'→FR w' st'.J μ' st'.fr a'→eJ n w J μ w' st'.J μ'→Q .normal a' w'):wpAny P .any ops Q ops.size (Array.replicate ops.size false) a { w with drawn:=w.drawn+1 }:=by
 have hn:pis.length=ops.size:=by rw[(l6 hp).1,a6]
 have hX:=Mx gU hn;obtain⟨hS',Ls⟩:=hS.grown (w':={ w with drawn:=w.drawn+1 }) ⟨rfl,rfl,rfl,au _,fun _ _ _=>rfl⟩;have hF':=hF.eO Ls.eO;obtain⟨fr',h1,h2,h3,h4⟩:=hX.Sd (k:=0) (eY _) (by simpa using h)
 have Is:∀ i,¬ iT (Array.replicate ops.size false) i:=by
  intro i;simp only[iT,bl,u0];split<;>simp
 refine sS (n:=n) hX hp (fun st' w' μ' a' k1 k2 k3 k4=>hQ st' w' μ' a' k1 k2 k3 (eJ.trans Ls.eO.Li k4)) ht ops.size 0 _ fr' J _ μ a (by simp) (by simp) (fun i j _ _ hl=>absurd hl (Is i)) (fun i _ _=>Is i) (eY _)
  (fun j L hL=>⟨fun hl=>absurd hl (Is L),fun h=>by omega⟩) (fun i hi hs TU _=>h2 i (dj.2 ⟨hi,hs,by omega⟩)) h1 (by rw[hn];unfold Bn;exact br (fa _ _) (by simp)) hS' ?_ (eJ.refl _ _ _ _)
 refine⟨hF'.1,by rw[h4];exact hF'.2.1,fun t x hx ch vw=>?_⟩;rcases jU vw with⟨rfl,qe⟩ | ⟨y,hy,hd,hl,_⟩
 ·rw[h3 t fun i hi=>qe i (dj.1 hi).1]at hx;exact⟨fun _=>hF'.2.2 t x hx,fun h=>by simp[chainB]at h⟩
 ·exact absurd hl (Is y)
theorem DD{id n B:Nat}{gs:List Nat}{K:St→Prop}{Q:Exit→Act→World→Prop}(hm:P.follows .mixedOrders=true)(hp:oS P ops ops.toList=some pis)(gU:PN ops pis bs m ls []=true)
  (ht:CY (D0 pis m) (pis.drop m) gs=true) {fr:List V} {J:ae} {w0 w:World} {μ:Mem} {a:Act}
  (h:pv P (zk pis bs m ls 0 ls) ((lz pis bs m ls ls.length).map (dS pis)) (je P gs (pis.drop m) K) ⟨fr,J⟩)
  (hS:fF P B w0 w J μ) (hF:FR w J μ fr a)
  (hQ:∀ st' w' μ' a',K st'→fF P B w0 w' st'.J μ'→FR w' st'.J μ' st'.fr a'→eJ n w J μ w' st'.J μ'→Q .normal a' w'):(Code.region id ops true).wp P Q a w :=
 wp_region_any hm (sP hp gU ht h hS hF hQ)
end
end Go.Pm

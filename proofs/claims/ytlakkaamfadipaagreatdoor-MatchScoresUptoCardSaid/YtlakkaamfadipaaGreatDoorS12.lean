/- A part of a proof; the claim's last text says of what. -/
import Derived.Orders
import Derived.Test.YtlakkaamfadipaaGreatDoorS11
set_option linter.all false

namespace Go.Pm
open Go Go.RowKit
structure Pi where
 d:Option Nat
 g:List (Nat×Bool)
 i:I
def zm(d x:Nat):Pi:=⟨some d,[],.aS (.t x)⟩
def zl(d x:Nat):Pi:=⟨some d,[],.load none (.t x)⟩
def zL(d k x:Nat):Pi:=⟨some d,[],.load (some k) (.t x)⟩
def zf(d o x:Nat):Pi:=⟨some d,[],.eR o (.t x)⟩
def z(d:Nat)(i:I):Pi:=⟨some d,[],i⟩
def zs(i:I):Pi:=⟨none,[],i⟩
def uh(ops:Array Oper):Nat→Option (Nat×Bool)→Option (List (Nat×Bool))
 | _,none=>some []
 | 0,some _=>none
 | f+1,some (j,b)=>match ops[j]? with
  | some o=>match o.dst,uh ops f o.guard with
   | some t,some ch=>some (ch++[(t,b)])
   | _,_=>none
  | none=>none
def VI(P:Program)(ops:Array Oper)(o:Oper):Option Pi :=
 match uh ops 8 o.guard with
 | some g=>some ⟨o.dst,g,(compile P o).getD .stop⟩
 | none=>none
def pk(P:Program)(ops:Array Oper):List Oper→Option (List Pi)
 | []=>some []
 | o::os=>match VI P ops o,pk P ops os with
  | some p,some ps=>some (p::ps)
  | _,_=>none
def di(fr:List V):Option Nat→V→List V
 | none,_=>fr
 | some n,v=>fr.set n v
def ES(P:Program)(f:Nat):Bool:=match P.funcs[f]? with
 | some fn=>fn.body.isSome&&fn.name != "runtime.NumGoroutine"
 | none=>false
def iu(P:Program)(p:Pi)(K:St→Prop)(st:St):Prop :=
 match p.i with
 | .call f args=>PC P f (args.map (ev st.fr)) st.J (fun r J'=>K ⟨di st.fr p.d r,J'⟩)
 | .kK x args=>match ev st.fr x with
  | .fn f caps=>ES P f=true∧PC P f (args.map (ev st.fr)++caps) st.J (fun r J'=>K ⟨di st.fr p.d r,J'⟩)
  | _=>False
 | .next x=>match yJ st.J (ev st.fr x)with
  | some (j,m,E,n,ps)=>(ps=[]→K ⟨di st.fr p.d (.fi [.b false]),st.J⟩)∧∀ q∈ps,K ⟨di st.fr p.d (.fi [.b true,.u,.u]),st.J.set j (.iter false m E n (ps.filter fun i=>i != q) (some q))⟩
  | none=>False
 | i=>match aM st.fr st.J i with
  | some (ob,v)=>ob∧K ⟨di st.fr p.d v,st.J⟩
  | none=>match bO st.fr st.J i with
   | some (ob,v,J')=>ob∧K ⟨di st.fr p.d v,J'⟩
   | none=>False
theorem FR.put{w:World}{J:ae}{μ:Mem}{fr:List V}{a:Act}(h:FR w J μ fr a)(d:Option Nat){x:V}{v:Value}(hx:VR w J μ x v):FR w J μ (di fr d x) (a.put d v):=by
 cases d with
 | none=>exact h
 | some n =>
  obtain⟨h1,h2,h3⟩:=h;refine⟨h1,by simp[Act.put,di,h2],fun i y hy=>?_⟩;simp only[di]at hy;simp only[Act.put]
  by_cases hi:n=i
  ·subst hi
   by_cases hl:n<fr.length
   ·rw[ar hl]at hy;simp only[aa]at hy;subst hy;have:n<a.tmps.size:=by omega
    simpa[this]using hx
   ·rw[bl (by simp;omega)]at hy;simp at hy
  ·rw[aJ hi]at hy;have:=h3 i y hy;simp only[bh,cn hi]at this ⊢;exact this
theorem HY{P:Program}{o:Oper}{a:Act}{w:World}{f:Nat}{args:Array Operand}{ts:Array TypeId}{fn:Func}(ho:o.op=.call { callee:=.value (.func f),args,argTypes:=ts })(hf:P.funcs[f]?=some fn)(hb:fn.body.isSome=true)(hn:fn.name ≠ "runtime.NumGoroutine") :
  (execOp a.eval o).run P w=.ok (.enter f (args.map a.eval)) w:=by
 have h1:(fn.name == "runtime.NumGoroutine")=false:=by simpa using hn
 have h2:fn.body.isNone=false:=by cases hq:fn.body<;>simp_all
 simp only[execOp,ho,resolve,Act.eval,Deferred.ofValue,invoke,callFunc,Sem.run_bind,Sem.run_pure,Result.andThen_ok,run_program,hf,h1,h2,aF,aK,Ic,Ie]
theorem F1{P:Program}{o:Oper}{a:Act}{w:World}{t f:Nat}{args:Array Operand}{ts:Array TypeId}{vs:Array Value}(ho:o.op=.call { callee:=.value (.tmp t),args,argTypes:=ts })(hv:a.tmps.getD t undef=.func (.func f) #[] vs)(hf:ES P f=true):
  (execOp a.eval o).run P w=.ok (.enter f (args.map a.eval++vs)) w:=by
 unfold ES at hf;split at hf
 ·rename_i fn yZ;simp only[aO,lg,gm]at hf;have h1:(fn.name == "runtime.NumGoroutine")=false:=by simpa using hf.2
  have h2:fn.body.isNone=false:=by cases hq:fn.body<;>simp_all
  have he:a.eval (.tmp t)=.func (.func f) #[] vs:=hv;simp only[execOp,ho,resolve,he,Deferred.ofValue,invoke,callFunc,Sem.run_bind,Sem.run_pure,Result.andThen_ok,run_program,yZ,h1,h2,aF,aK,Ic]
 ·simp at hf
theorem Hb{J:ae}{x:V}{j m E n:Nat}{ps:List Nat}(h:yJ J x=some (j,m,E,n,ps)):x=.it j∧∃ c K es,J[j]?=some (.iter false m E n ps c)∧J[m]?=some (.map K E es)∧es.length=n:=by
 unfold yJ at h;split at h
 ·rename_i j';split at h
  ·rename_i m' E' n' ps' c hj;split at h
   ·rename_i K E2 es hb;split at h
    ·rename_i hc;obtain⟨rfl,rfl⟩:=hc;simp only[aa,ao]at h;obtain⟨rfl,rfl,rfl,rfl,rfl⟩:=h;exact⟨rfl,c,K,es,hj,hb,rfl⟩
    ·simp at h
   ·simp at h
  ·simp at h
 ·simp at h
theorem Ha{P:Program}{o:Oper}{K:St→Prop}{st:St}{d:Option Nat}{B:Nat}{w0 w:World}{μ:Mem}{a:Act}{x0:Operand}{x:O}(dG:o.op=.next x0 false)(hx:cO x0=some x)(hd:o.dst=d){j m E n:Nat}{ps:List Nat}(hn:yJ st.J (ev st.fr x)=some (j,m,E,n,ps))
  (h:(ps=[]→K ⟨di st.fr d (.fi [.b false]),st.J⟩)∧∀ q∈ps,K ⟨di st.fr d (.fi [.b true,.u,.u]),st.J.set j (.iter false m E n (ps.filter fun i=>i != q) (some q))⟩)
  (hS:fx P B w0 w st.J μ) (hF:FR w st.J μ st.fr a) {Q:Exit→Act→World→Prop} :
  o.wp P a w (fun a' w'=>∃ st' μ',K st'∧fx P B w0 w' st'.J μ'∧FR w' st'.J μ' st'.fr a'∧lJ w st.J μ w' st'.J μ'∧(∃ v,a'=a.put o.dst v)∧∃ r,st'.fr=di st.fr d r) Q:=by
 obtain⟨h0,h3⟩:=h;obtain⟨hev,c,K0,es,hj,hb,hlen⟩:=Hb hn;have h1:=cP hF hx;rw[hev]at h1;obtain⟨r,bm,since,seen,q1,q2,q3,q4,q5,K3,E3,es3,ents,clock,q6,q7,q8,q9⟩:=hS.obj _ _ hj;rw[hb]at q6;simp only[aa,Ob.map.injEq]at q6;obtain⟨rfl,rfl,rfl⟩:=q6;obtain⟨q10,q11,q12⟩:=(q9 rfl).2 hlen;subst q10;obtain⟨r',ents',clock',hm',_,hh,hR⟩:=hS.obj _ _ hb;rw[q4]at hm';simp only[Value.map.injEq,aa]at hm';subst hm';rw[q7]at hh;simp only[aa,Obj.map.injEq]at hh;obtain⟨rfl,rfl⟩:=hh;have NX:a.eval x0=.pointer (some ⟨r,0,none⟩):=h1.Hm.1.trans q1
 have cT:=run_next_at (P:=P) w o.type r bm clock clock seen ents clock q3 q7 (fun y hy=>by
  obtain⟨i,hi⟩:=eT.1 hy;exact hR.2.2.1 i y (by simpa using hi)) (aq _)
 have kI:j<st.J.length:=(ab.1 hj).1;have rI:r<w.heap.size:=(aX.1 q3).1;have hmj:m≠j:=by rintro rfl;rw[hj]at hb;simp at hb
 have hbr:bm≠r:=by
  rintro rfl;rw[q3]at q7;simp at q7
 unfold Oper.wp;rcases cT with⟨hz,cT⟩ | ⟨e,he,w1,Mf,cT⟩
 ·have lq:ps=[]:=by
   cases ps with
   | nil=>rfl
   | cons p ps =>
    exfalso;have hp:=q5 p (by simp);have YM:p<ents.size:=by rw[hR.1,hlen];exact hp
    have:=(q11 p ents[p] (bc YM)).2 (by simp)
    have tT:ents[p]∈leftOf ents seen:=by
     simp only[leftOf,Array.mem_filter];exact⟨Array.getElem_mem YM,by rw[this];rfl⟩
    have gv:leftOf ents seen=#[]:=pw hz;rw[gv]at tT;simp at tT
  have s6:(execOp a.eval o).run P w=.ok (.value (.tuple #[.bool false])) w:=by simp[execOp,dG,NX,cT]
  rw[s6];simp only[Oper.upon];refine⟨_,μ,h0 lq,hS,?_,lJ.refl _ _ _,⟨_,rfl⟩,_,rfl⟩;rw[hd]
  exact hF.put d (.fi _ _ rfl fun i y hy=>by
   cases i with
   | zero=>simp only[aw,aa]at hy;subst hy;exact .b _
   | succ i=>simp at hy)
 ·have hem:e∈ents∧seen.contains e.born=false:=by
   have:e∈leftOf ents seen:=by simpa using he
   simp only[leftOf,Array.mem_filter]at this;exact⟨this.1,by simpa using this.2⟩
  obtain⟨q,YI,hqe⟩:=Array.mem_iff_getElem.1 hem.1;have hq?:ents[q]?=some e:=by rw[bc YI,hqe]
  have abC:q∈ps:=(q11 q e hq?).1 hem.2;have s6:(execOp a.eval o).run P w=.ok (.value (.tuple #[.bool true,e.key,e.val])) (ChangeMaps.setBlock w1 r (.mapIter (some bm) clock (seen.push e.born) clock)):=by simp[execOp,dG,NX,cT]
  rw[s6];simp only[Oper.upon];have Yw:w1.heap=w.heap:=by rcases Mf with rfl | rfl<;>rfl
  have nW:=hS.update (w':=ChangeMaps.setBlock w1 r (.mapIter (some bm) clock (seen.push e.born) clock)) (J':=st.J.set j (.iter false m E n (ps.filter fun i=>i != q) (some q))) (μ':=μ) j (some r)
   (by
    rcases Mf with rfl | rfl
    ·exact⟨rfl,rfl,rfl,by simp[ChangeMaps.setBlock],fun i _ hi=>by simp only[ChangeMaps.setBlock];rw[cn (fun e=>hi (by rw[e]))]⟩
    ·exact⟨rfl,rfl,rfl,by simp[ChangeMaps.setBlock],fun i _ hi=>by simp only[ChangeMaps.setBlock];rw[cn (fun e=>hi (by rw[e]))];rfl⟩)
   (fun b jr=>⟨_,hj,by simp,by simp only[aa]at jr;subst jr;simp[q1,ic]⟩)
   (by simp) (fun i hi=>aJ (fun e=>hi e.symm)) (fun _ _=>rfl)
   (fun b jr=>.inl ⟨_,hj,by simp,jr⟩)
   (fun b off v2 o2 h4 _ h5 h6 _=>by
    simp only[q1,ic,aa]at h5;subst h5;simp[World.cell?,q3]at h6)
   (fun T2 cs2 h4=>by rw[hj]at h4;simp at h4)
   (fun K2 E2 es2 h4=>by rw[hj]at h4;simp at h4)
   (fun E2 sz2 by2 g2 sh2 xs2 _ h4=>by simp[kI]at h4)
   (fun yY o2 h4=>by
    simp only[ar kI,aa]at h4;subst h4;refine⟨r,bm,clock,seen.push e.born,q1,q2,by simp[ChangeMaps.setBlock,Yw,rI],q4,fun p hp=>q5 p (cW.1 hp).1,_,E,_,ents,clock,(aJ (fun e=>hmj e.symm)).trans hb,?_,aq _,fun _=>⟨by omega,fun _=>⟨rfl,fun i e2 hi=>?_,fun c hc=>?_⟩⟩⟩
    ·simp only[ChangeMaps.setBlock,Yw];rw[cn (fun e=>hbr e.symm)];exact q7
    ·have:=q11 i e2 hi;rw[contains_push,ll,this];simp only[cW,lg,gm,cI];constructor
     ·rintro⟨h5,h6⟩;refine⟨h5,fun hiq=>h6 ?_⟩;subst hiq;rw[hq?]at hi;simp only[aa]at hi;rw[hi]
     ·rintro⟨h5,h6⟩;refine⟨h5,fun hbn=>h6 (hR.2.2.2 i q e2 e hi hq? ?_)⟩
      first | exact hbn | exact hbn.symm
    ·simp only[aa]at hc;subst hc;exact⟨e,hq?,by simp⟩)
   (fun st2 m2 E2 n2 ps2 c2 h4=>by
    rw[hj]at h4;simp only[aa,Ob.iter.injEq]at h4;obtain⟨rfl,rfl,rfl,rfl,rfl,rfl⟩:=h4;exact⟨⟨_,_,ar kI⟩,rfl⟩)
  refine⟨_,μ,h3 q abC,nW.1,?_,nW.2.eH,⟨_,rfl⟩,_,rfl⟩;rw[hd]
  exact(hF.eH nW.2.eH).put d (.fi _ _ rfl fun i y hy=>by
   match i with
   | 0=>simp only[aw,aa]at hy;subst hy;exact .b _
   | 1=>simp only[bI,aw,aa]at hy;subst hy;exact .u _
   | 2=>simp only[bI,aw,aa]at hy;subst hy;exact .u _
   | i+3=>simp at hy)
theorem Ea{P:Program}{o:Oper}{p:Pi}{K:St→Prop}{st:St}{B:Nat}{w0 w:World}{μ:Mem}{a:Act}(hc:compile P o=some p.i)(hd:o.dst=p.d)(h:iu P p K st)(hS:fx P B w0 w st.J μ)(hF:FR w st.J μ st.fr a){Q:Exit→Act→World→Prop}:
  o.wp P a w (fun a' w'=>∃ st' μ',K st'∧fx P B w0 w' st'.J μ'∧FR w' st'.J μ' st'.fr a'∧lJ w st.J μ w' st'.J μ'∧(∃ v,a'=a.put o.dst v)∧∃ r,st'.fr=di st.fr p.d r) Q:=by
 unfold iu at h;split at h
 ·
  rename_i f args hi;rw[hi]at hc;cases dG:o.op with
  | call c =>
   simp only[compile,dG]at hc;obtain⟨callee,args0,argTypes⟩:=c;unfold jg at hc;dsimp only at hc;split at hc
   ·split at hc<;>simp at hc
   ·split at hc<;>simp at hc
   ·split at hc<;>simp at hc
   ·split at hc<;>(try simp at hc;done);split at hc<;>(try simp at hc;done);split at hc<;>(try simp at hc;done);split at hc
    ·split at hc<;>simp at hc
    ·split at hc<;>(try simp at hc;done)
   ·(repeat' split at hc)<;>(simp at hc;done)
   ·(repeat' split at hc)<;>(simp at hc;done)
   ·rename_i f' e1;split at hc<;>(try simp only[reduceCtorEq]at hc);rename_i fn yZ;split at hc
    rotate_left
    ·(repeat' split at hc)<;>(simp at hc;done)
    rename_i fC;simp only[aj,I.call.injEq]at hc;obtain⟨ys,xF,rfl,rfl⟩:=hc;have cT:=HY (P:=P) (a:=a) (w:=w) dG yZ fC.1 fC.2;unfold Oper.wp;rw[cT];simp only[Oper.upon];obtain⟨h1,h2⟩:=zM hF _ _ xF;refine(h B w0 w μ (args0.map a.eval) hS ⟨by simp[h1],fun i y hy=>?_⟩).mono ?_
    ·have:=h2 i y hy;simpa[an]using this
    ·rintro e w' ⟨r,v,J',μ',rfl,hK,hS',hv,hk⟩;refine⟨_,μ',hK,hS',?_,hk,⟨_,rfl⟩,_,rfl⟩;rw[hd];exact(hF.eH hk).put p.d hv
   ·simp at hc
   ·simp at hc
  | buildSlice T len parts =>
   exfalso;simp only[compile,dG]at hc
   (repeat' split at hc)<;>(try (simp only[reduceCtorEq]at hc;done))
   simp only[aj]at hc;obtain⟨xs,_,hx⟩:=hc;split at hx<;>simp at hx
  | _ =>
   exfalso;simp only[compile,dG]at hc
   (repeat' split at hc)<;>first | (simp at hc;done) | (simp_all;done)
 ·
  rename_i x args hi;split at h
  rotate_left
  ·exact h.elim
  rename_i f caps hx;obtain⟨gW,h⟩:=h;rw[hi]at hc;cases dG:o.op with
  | call c =>
   simp only[compile,dG]at hc;obtain⟨callee,args0,argTypes⟩:=c;unfold jg at hc;dsimp only at hc;split at hc
   ·split at hc<;>simp at hc
   ·split at hc<;>simp at hc
   ·split at hc<;>simp at hc
   ·split at hc<;>(try simp at hc;done);split at hc<;>(try simp at hc;done);split at hc<;>(try simp at hc;done);split at hc
    ·split at hc<;>simp at hc
    ·split at hc<;>(try simp at hc;done)
   ·(repeat' split at hc)<;>(simp at hc;done)
   ·(repeat' split at hc)<;>(simp at hc;done)
   ·(repeat' split at hc)<;>(simp at hc;done)
   ·rename_i t;simp only[aj,I.kK.injEq]at hc;obtain⟨ys,xF,rfl,rfl⟩:=hc;have hv:=hF.at t;simp only[ev]at hx;rw[hx]at hv;generalize hg:a.tmps.getD t undef=u at hv;cases hv with
    | fn _ _ vs hl Af =>
     have cT:=F1 (P:=P) (a:=a) (w:=w) dG hg gW;unfold Oper.wp;rw[cT];simp only[Oper.upon];obtain⟨h1,h2⟩:=zM hF _ _ xF;refine(h B w0 w μ (args0.map a.eval++vs) hS ⟨by simp[h1,hl],fun i y hy=>?_⟩).mono ?_
     ·rcases fb i (ys.map (ev st.fr)).length with dc | Lo
      ·rw[ah dc]at hy;have h3:=h2 i y hy;have hia:i<args0.size:=by simpa[h1]using dc
       simpa[bh,fQ,hia,an]using h3
      ·rw[aA Lo]at hy;have h3:=Af _ y hy;have hia:args0.size≤i:=by simpa[h1]using Lo
       simpa[bh,Array.getElem?_append_right,hia,h1]using h3
     ·rintro e w' ⟨r,v,J',μ',rfl,hK,hS',hv,hk⟩;refine⟨_,μ',hK,hS',?_,hk,⟨_,rfl⟩,_,rfl⟩;rw[hd];exact(hF.eH hk).put p.d hv
   ·simp at hc
  | buildSlice T len parts =>
   exfalso;simp only[compile,dG]at hc
   (repeat' split at hc)<;>(try (simp only[reduceCtorEq]at hc;done))
   simp only[aj]at hc;obtain⟨xs,_,hx⟩:=hc;split at hx<;>simp at hx
  | _ =>
   exfalso;simp only[compile,dG]at hc
   (repeat' split at hc)<;>first | (simp at hc;done) | (simp_all;done)
 ·
  rename_i x hi;split at h
  rotate_left
  ·exact h.elim
  rename_i j m E n ps hn;rw[hi]at hc;cases dG:o.op with
  | next x0 q =>
   cases q with
   | true=>simp[compile,dG]at hc
   | false =>
    simp only[compile,dG,aj,I.next.injEq]at hc;obtain⟨x',hx,rfl⟩:=hc;exact Ha dG hx hd hn h hS hF
  | call c =>
   exfalso;simp only[compile,dG]at hc;unfold jg at hc
   (repeat' split at hc)<;>(simp at hc;done)
  | buildSlice T len parts =>
   exfalso;simp only[compile,dG]at hc
   (repeat' split at hc)<;>(try (simp only[reduceCtorEq]at hc;done))
   simp only[aj]at hc;obtain⟨xs,_,hx⟩:=hc;split at hx<;>simp at hx
  | _ =>
   exfalso;simp only[compile,dG]at hc
   (repeat' split at hc)<;>first | (simp at hc;done) | (simp_all;done)
 ·rename_i i gv YO YN;split at h
  ·rename_i ob v hp;obtain⟨cY,hK⟩:=h;obtain⟨u,w',hr,hg,hv⟩:=EF hc hF hS hp cY;obtain⟨hS',Mh⟩:=hS.grown hg;unfold Oper.wp;rw[hr];simp only[Oper.upon];exact⟨_,μ,hK,hS',by rw[hd];exact(hF.eH Mh.eH).put p.d hv,Mh.eH,⟨_,rfl⟩,_,rfl⟩
  ·split at h
   ·rename_i ob v J' hx;obtain⟨cY,hK⟩:=h;obtain⟨u,w',μ',hr,hS',hv,Mh⟩:=DO hc hF hS hx cY;unfold Oper.wp;rcases hr with hr | ⟨hr,rfl⟩
    ·rw[hr];simp only[Oper.upon];exact⟨_,μ',hK,hS',by rw[hd];exact(hF.eH Mh.eH).put p.d hv,Mh.eH,⟨_,rfl⟩,_,rfl⟩
    ·rw[hr];simp only[Oper.upon];exact⟨_,μ',hK,hS',by rw[hd];exact(hF.eH Mh.eH).put p.d (.u _),Mh.eH,⟨_,rfl⟩,_,rfl⟩
   ·exact h.elim
def I.os:I→List O
 | .aS x=>[x]
 | .pick c a b=>[c,a,b]
 | .box _ x=>[x]
 | .alloc _ _=>[]
 | .build _ parts=>parts.map (·.2.2)
 | .bC _ _ xs=>xs
 | .H0 _ _ _ _ xs=>xs
 | .load _ a=>[a]
 | .store _ _ a x=>[a,x]
 | .dn x=>[x]
 | .bin _ x y=>[x,y]
 | .beq _ _ x y=>[x,y]
 | .Tm _ x y=>[x,y]
 | .un _ x=>[x]
 | .Jz _ x=>[x]
 | .JG x=>[x]
 | .slice _ x lo hi=>x::(lo.toList++hi.toList)
 | .fJ x lo hi=>x::(lo.toList++hi.toList)
 | .eR _ x=>[x]
 | .idx _ x i=>[x,i]
 | .fS x i=>[x,i]
 | .Gd _ _ x i=>[x,i]
 | .Wb _ x=>[x]
 | .ext _ x=>[x]
 | .len _ x=>[x]
 | .max2 x y=>[x,y]
 | .min2 x y=>[x,y]
 | .app _ _ _ x y=>[x,y]
 | .apps _ x y=>[x,y]
 | .mk _ _ _ _ l c=>[l,c]
 | .lD _ _=>[]
 | .look _ _ _ m k=>[m,k]
 | .uW _ _ m k x=>[m,k,x]
 | .yL x=>[x]
 | .call _ args=>args
 | .kK x args=>x::args
 | .PQ _ xs=>xs
 | .FU _ _ x=>[x]
 | .He _ m k=>[m,k]
 | .tH _ _ m k=>[m,k]
 | .tG _ m s x=>[m,s,x]
 | .range x=>[x]
 | .next x=>[x]
 | .LL x=>[x]
 | .JS _ x=>[x]
 | .JR _ x i=>[x,i]
 | .clip _ x h m=>[x,h,m]
 | .Bd x y=>[x,y]
 | .SM _ _ l c=>[l,c]
 | .stop=>[]
def O.slot:O→List Nat
 | .t n=>[n]
 | .c _=>[]
def I.lS:I→List (Nat×List (Nat×Bool))
 | .pick (.t c) a b=>(c,[])::(a.slot.map (·,[(c,true)])++b.slot.map (·,[(c,false)]))
 | i=>(i.os.flatMap O.slot).map (·,[])
def I.cF:I→Bool
 | .box _ _ | .alloc _ _ | .store _ _ _ _ | .app _ _ _ _ _ | .apps _ _ _ | .mk _ _ _ _ _ _ | .SM _ _ _ _ | .H0 _ _ _ _ _ | .lD _ _ | .uW _ _ _ _ _ | .FU _ _ _ | .He _ _ _ | .tH _ _ _ _ | .tG _ _ _ _ | .range _ | .next _ | .call _ _ | .kK _ _ | .stop=>false
 | _=>true
def I.reads:I→Bool
 | .build _ _ | .bC _ _ _ | .load _ _ | .dn _ | .JG _ | .slice _ _ _ _ | .eR _ _ | .idx _ _ _ | .len _ _ | .yL _ | .look _ _ _ _ _ | .LL _=>true
 | _=>false
section
variable {fr fr':List V} {J:ae}
theorem vZ{i:I}(h:∀ x∈i.os,ev fr x=ev fr' x):aM fr J i=aM fr' J i:=by
 cases i with
 | build zs parts =>
  have h1:∀ p∈parts,ev fr p.2.2=ev fr' p.2.2:=fun p hp=>h _ (bH.2 ⟨p,hp,rfl⟩)
  have e1:(parts.map fun(off,sz,x)=>(off,sz,ed (ev fr x)))=parts.map fun(off,sz,x)=>(off,sz,ed (ev fr' x)) :=
   cS fun p hp=>by
    have h2:=h1 p hp;obtain⟨a,b,c⟩:=p;simp only at h2 ⊢;rw[h2]
  have e2:(∀ p∈parts,eZ J (ev fr p.2.2)=true)=(∀ p∈parts,eZ J (ev fr' p.2.2)=true) :=
   propext ⟨fun k p hp=>h1 p hp▸k p hp,fun k p hp=>(h1 p hp).symm▸k p hp⟩
  simp only[aM,e1,e2]
 | bC sz szs xs =>
  have h1:∀ p∈xs,ev fr p=ev fr' p:=fun p hp=>h _ hp
  have e1:(xs.map fun x=>cx szs (ed (ev fr x)))=xs.map fun x=>cx szs (ed (ev fr' x)) :=
   cS fun p hp=>by rw[h1 p hp]
  have e2:(∀ p∈xs,eZ J (ev fr p)=true)=(∀ p∈xs,eZ J (ev fr' p)=true) :=
   propext ⟨fun k p hp=>h1 p hp▸k p hp,fun k p hp=>(h1 p hp).symm▸k p hp⟩
  simp only[aM,e1,e2]
 | slice sz x lo hi =>
  have hx:=h x (by simp[I.os]);have hl:∀ y,lo=some y→ev fr y=ev fr' y:=fun y hy=>h y (by simp[I.os,hy]);have hh:∀ y,hi=some y→ev fr y=ev fr' y:=fun y hy=>h y (by simp[I.os,hy]);cases lo<;>cases hi<;>simp_all [aM]
 | fJ x lo hi =>
  have hx:=h x (by simp[I.os]);have hl:∀ y,lo=some y→ev fr y=ev fr' y:=fun y hy=>h y (by simp[I.os,hy]);have hh:∀ y,hi=some y→ev fr y=ev fr' y:=fun y hy=>h y (by simp[I.os,hy]);cases lo<;>cases hi<;>simp_all [aM]
 | len str x =>
  have hx:=h x (by simp[I.os]);cases str<;>simp only[aM,hx]
 | _=>simp_all [aM,I.os]
theorem DP{i:I}(h:∀ x∈i.os,ev fr x=ev fr' x):bO fr J i=bO fr' J i:=by
 cases i<;>simp_all [bO,I.os]
theorem EE{J':ae}{i:I}(h:i.reads=false):aM fr J i=aM fr J' i:=by
 cases i<;>simp_all [aM,I.reads]
theorem tB{i:I}{r:Prop×V}(h:aM fr J i=some r):i.cF=true:=by
 cases i<;>simp_all [aM,I.cF]
theorem s8{i:I}(h:i.cF=true):bO fr J i=none:=by
 cases i<;>simp_all [bO,I.cF]
end
def chainB(fr:List V):List (Nat×Bool)→Option Bool
 | []=>some true
 | (t,b)::r=>match fr.getD t .u with
  | .b x=>match chainB fr r with
   | some y=>some ((x==b)&&y)
   | none=>none
  | _=>none
theorem wN{fr:List V}:∀ {ch:List (Nat×Bool)},chainB fr ch=some true↔∀ p∈ch,fr.getD p.1 .u=.b p.2
 | []=>by simp[chainB]
 | (t,b)::r=>by
  have ih:=wN (fr:=fr) (ch:=r);simp only[chainB,bJ,forall_eq_or_imp];rw[← ih];split
  ·rename_i x hx;split
   ·rename_i y hy;rw[hx,hy];cases x<;>cases b<;>cases y<;>simp
   ·rename_i hy;simp[hy]
  ·rename_i hx;simp only[reduceCtorEq,Px,not_and];intro h;exact absurd h (hx b)
theorem AT{fr:List V}{a b:List (Nat×Bool)}(h:chainB fr b=some true)(hp:a.isPrefixOf b=true):chainB fr a=some true:=by
 rw[wN]at *;exact fun p hp'=>h p ((List.isPrefixOf_iff_prefix.1 hp).subset hp')
theorem nR{fr:List V}:∀ {a b:List (Nat×Bool)},chainB fr (a++b)=match chainB fr a,chainB fr b with
  | some x,some y=>some (x&&y)
  | _,_=>none
 | [],b=>by simp only[bk,chainB];cases chainB fr b<;>simp
 | (t,w)::r,b=>by
  simp only[bn,chainB,nR (a:=r) (b:=b)];cases fr.getD t .u<;>simp;cases chainB fr r<;>cases chainB fr b<;>simp[Bool.and_assoc]
theorem OE{fr:List V}{n m:Nat}{x y:V}(h:n≠m):(fr.set n x).getD m y=fr.getD m y:=by
 simp[an,aJ h]
theorem qH{fr:List V}{d:Option Nat}{r:V}:∀ {ch:List (Nat×Bool)},(∀ p∈ch,d≠some p.1)→chainB (di fr d r) ch=chainB fr ch
 | [],_=>by simp[chainB]
 | (t,b)::ch,h=>by
  have ih:=qH (fr:=fr) (d:=d) (r:=r) (ch:=ch) fun p hp=>h p (by simp[hp]);have h0:=h (t,b) (by simp);simp only[chainB,ih];cases d with
  | none=>rfl
  | some n =>
   have:n≠t:=fun e=>h0 (by simp[e]);simp only[di,OE this]
def tU(P:Program)(p:Pi)(c:Bool)(K:St→Prop)(st:St):Prop :=
 match p.i with
 | .call f args=>(c=true→PC P f (args.map (ev st.fr)) st.J (fun r' J'=>K ⟨di st.fr p.d r',J'⟩))∧(c=false→∃ r,K ⟨di st.fr p.d r,st.J⟩)
 | .kK x args=>(c=true→match ev st.fr x with
  | .fn f caps=>ES P f=true∧PC P f (args.map (ev st.fr)++caps) st.J (fun r' J'=>K ⟨di st.fr p.d r',J'⟩)
  | _=>False)∧(c=false→∃ r,K ⟨di st.fr p.d r,st.J⟩)
 | .load k a=>match ev st.fr a with
  | .ptr _ _=>match aM st.fr st.J (.load k a)with
   | some (ob,v)=>(c=true→ob)∧K ⟨di st.fr p.d v,st.J⟩
   | none=>False
  | _=>∃ v,(c=true→∃ ob,aM st.fr st.J (.load k a)=some (ob,v)∧ob)∧K ⟨di st.fr p.d v,st.J⟩
 | i=>match aM st.fr st.J i with
  | some (ob,v)=>(c=true→ob)∧K ⟨di st.fr p.d v,st.J⟩
  | none=>False
def gI(P:Program)(p:Pi)(K:St→Prop)(st:St):Prop :=
 match p.g with
 | []=>iu P p K st
 | _::_=>match chainB st.fr p.g with
  | some c=>tU P p c K st
  | none=>False
theorem zh{P:Program}{p:Pi}{c:Bool}{K:St→Prop}{st:St}(h:tU P p c K st)(hn:∀ f args,p.i≠.call f args)(hv:∀ x args,p.i≠.kK x args):
  ∃ r,K ⟨di st.fr p.d r,st.J⟩∧(c=true→iu P p (fun st'=>st'=⟨di st.fr p.d r,st.J⟩) st):=by
 obtain⟨d,g,i⟩:=p;cases i with
 | call f args=>exact absurd rfl (hn f args)
 | load k a =>
  simp only[tU]at h;split at h
  ·split at h
   ·rename_i ob v hp;exact⟨v,h.2,fun hc=>by simp only[iu,hp];exact⟨h.1 hc,trivial⟩⟩
   ·exact h.elim
  ·obtain⟨v,h1,h2⟩:=h;refine⟨v,h2,fun hc=>?_⟩;obtain⟨ob,h3,h4⟩:=h1 hc;simp only[iu,h3];exact⟨h4,trivial⟩
 | kK x args=>exact absurd rfl (hv x args)
 | next x=>simp[tU,aM]at h
 | _ =>
  simp only[tU]at h;split at h
  ·rename_i ob v hp;exact⟨v,h.2,fun hc=>by simp only[iu,hp];exact⟨h.1 hc,trivial⟩⟩
  ·exact h.elim
theorem xJ{fr fr':List V}{x:O}(h:∀ s∈x.slot,fr.getD s .u=fr'.getD s .u):ev fr x=ev fr' x:=by
 cases x with
 | t n=>exact h n (by simp[O.slot])
 | c v=>rfl
theorem MQ{P:Program}{p:Pi}{K:St→Prop}{fr fr':List V}{J:ae}(h:∀ x∈p.i.os,ev fr x=ev fr' x)(hs:iu P p K ⟨fr,J⟩):
  iu P p (fun st'=>∃ r,st'.fr=di fr' p.d r∧K ⟨di fr p.d r,st'.J⟩) ⟨fr',J⟩:=by
 obtain⟨d,g,i⟩:=p
 by_cases Fw:∃ f args,i=.call f args
 ·obtain⟨f,args,rfl⟩:=Fw;have e:args.map (ev fr)=args.map (ev fr'):=cS fun x hx=>h x hx;simp only[iu]at hs ⊢;rw[← e];exact hs.mono fun r J' hk=>⟨r,rfl,hk⟩
 by_cases za:∃ x args,i=.kK x args
 ·obtain⟨x,args,rfl⟩:=za;have e:args.map (ev fr)=args.map (ev fr'):=cS fun y hy=>h y (by simp[I.os,hy]);have e2:=h x (by simp[I.os]);simp only[iu]at hs ⊢;rw[← e,← e2];split at hs
  ·exact⟨hs.1,hs.2.mono fun r J' hk=>⟨r,rfl,hk⟩⟩
  ·exact hs.elim
 by_cases BH:∃ x,i=.next x
 ·obtain⟨x,rfl⟩:=BH;have e2:=h x (by simp[I.os]);simp only[iu]at hs ⊢;rw[← e2];split at hs
  ·exact⟨fun he=>⟨_,rfl,hs.1 he⟩,fun q hq=>⟨_,rfl,hs.2 q hq⟩⟩
  ·exact hs.elim
 ·have e1:=vZ (J:=J) h;have e2:=DP (J:=J) h
  have key:∀ (fr0:List V) (K0:St→Prop),iu P ⟨d,g,i⟩ K0 ⟨fr0,J⟩=match aM fr0 J i with
    | some (ob,v)=>ob∧K0 ⟨di fr0 d v,J⟩
    | none=>match bO fr0 J i with
     | some (ob,v,J')=>ob∧K0 ⟨di fr0 d v,J'⟩
     | none=>False:=by
   intro fr0 K0;cases i<;>first | rfl | (exfalso;exact Fw ⟨_,_,rfl⟩) | (exfalso;exact za ⟨_,_,rfl⟩) | (exfalso;exact BH ⟨_,rfl⟩)
  simp only at e1 e2;rw[key]at hs ⊢;rw[← e1,← e2];split at hs
  ·exact⟨hs.1,_,rfl,hs.2⟩
  ·split at hs
   ·exact⟨hs.1,_,rfl,hs.2⟩
   ·exact hs.elim
theorem Eb{P:Program}{p:Pi}{K:St→Prop}{fr fr':List V}{J:ae}(h:∀ s∈p.i.lS,chainB fr s.2=some true→fr.getD s.1 .u=fr'.getD s.1 .u)(hs:iu P p K ⟨fr,J⟩):
  iu P p (fun st'=>∃ r,st'.fr=di fr' p.d r∧K ⟨di fr p.d r,st'.J⟩) ⟨fr',J⟩:=by
 by_cases hp:∃ c a b,p.i=.pick (.t c) a b
 ·obtain⟨c,x,y,hi⟩:=hp;obtain⟨d,g,i⟩:=p;simp only at hi;subst hi;have hc:fr.getD c .u=fr'.getD c .u:=h (c,[]) (by simp[I.lS]) (by simp[chainB]);have hx:fr.getD c .u=.b true→ev fr x=ev fr' x:=fun hb=>xJ fun s hs'=>h (s,[(c,true)]) (by simp[I.lS,hs']) (by simp only[chainB,hb];rfl);have hy:fr.getD c .u=.b false→ev fr y=ev fr' y:=fun hb=>xJ fun s hs'=>h (s,[(c,false)]) (by simp[I.lS,hs']) (by simp only[chainB,hb];rfl);simp only[iu,aM,ev]at hs ⊢;rw[← hc];split at hs
  ·rename_i ob v hq;split at hq
   ·rename_i b hb;simp only[aa,ao]at hq;obtain⟨rfl,rfl⟩:=hq;refine⟨trivial,_,rfl,?_⟩
    have e:(match ev fr x,ev fr y with
      | .b p,.b q=>V.b (bif b then p else q)
      | p,q=>bif b then p else q)=(match ev fr' x,ev fr' y with
      | .b p,.b q=>V.b (bif b then p else q)
      | p,q=>bif b then p else q):=by
     have gen:∀ p q:V,(match p,q with
      | .b p,.b q=>V.b (bif b then p else q)
      | p,q=>bif b then p else q)=bif b then p else q:=by
      intro p q;cases b<;>cases p<;>cases q<;>rfl
     rw[gen,gen];cases b
     ·simp only[H8];exact hy hb
     ·simp only[cond_true];exact hx hb
    exact Eq.mp (congrArg (fun v=>K ⟨di fr d v,J⟩) e) hs.2
   ·simp at hq
  ·rename_i hq;split at hq
   ·simp at hq
   ·simp only[bO]at hs
 ·refine MQ (fun x hx=>xJ fun s hs'=>h (s,[]) ?_ (by simp[chainB])) hs
  have:p.i.lS=(p.i.os.flatMap O.slot).map (·,[]):=by
   unfold I.lS;split
   ·rename_i c a b hi;exact absurd ⟨c,a,b,hi⟩ hp
   ·rfl
  rw[this];exact bH.2 ⟨s,ir.2 ⟨x,hx,hs'⟩,rfl⟩
def AW(w:World)(J:ae)(μ:Mem)(fr:List V)(inf:Nat→Option (List (Nat×Bool)))(a:Act):Prop :=
 a.defers=[]∧a.tmps.size=fr.length∧∀ t x,fr[t]?=some x→∀ ch,inf t=some ch →
  (chainB fr ch=some true→VR w J μ x (a.tmps.getD t undef))∧(chainB fr ch=some false→a.tmps.getD t undef=undef)
def SN(inf:Nat→Option (List (Nat×Bool)))(fr:List V):List V:=fr.mapIdx fun t x=>match inf t with
 | some ch=>if chainB fr ch=some true then x else .u
 | none=>.u
theorem AW.mask{w:World}{J:ae}{μ:Mem}{fr:List V}{inf:Nat→Option (List (Nat×Bool))}{a:Act}(h:AW w J μ fr inf a):FR w J μ (SN inf fr) a:=by
 refine⟨h.1,by simp[SN,h.2.1],fun t x hx=>?_⟩;simp only[SN,List.getElem?_mapIdx,aj]at hx;obtain⟨y,hy,rfl⟩:=hx;split
 ·rename_i ch wz;split
  ·rename_i hc;exact(h.2.2 t y hy ch wz).1 hc
  ·exact .u _
 ·exact .u _
theorem T5{inf:Nat→Option (List (Nat×Bool))}{fr:List V}{t:Nat}{ch:List (Nat×Bool)}(hi:inf t=some ch)(hc:chainB fr ch=some true):(SN inf fr).getD t .u=fr.getD t .u:=by
 simp only[SN,an,List.getElem?_mapIdx,hi,hc,aL];cases fr[t]?<;>rfl
structure Gh (inf:Nat→Option (List (Nat×Bool))) (p:Pi):Prop where
 lS:∀ s∈p.i.lS,∃ ch,inf s.1=some ch∧ch.isPrefixOf (p.g++s.2)=true
 guard:∀ ch t b,p.g=ch++[(t,b)]→inf t=some ch
 fresh:∀ d,p.d=some d→(∀ q∈p.g,q.1≠d)∧∀ t ch,inf t=some ch→∀ q∈ch,q.1≠d
def pS(inf:Nat→Option (List (Nat×Bool)))(p:Pi):Nat→Option (List (Nat×Bool)):=fun t=>if p.d=some t then some p.g else inf t
theorem Kr{a:Act}{d:Option Nat}{v:Value}{t:Nat}(h:d≠some t):(a.put d v).tmps.getD t undef=a.tmps.getD t undef:=by
 cases d with
 | none=>rfl
 | some n =>
  have hn:n≠t:=fun e=>h (by simp[e]);simp only[Act.put,bh,cn hn]
theorem Ez{a:Act}{v:Value}{t:Nat}(h:t<a.tmps.size):(a.put (some t) v).tmps.getD t undef=v:=by
 simp[Act.put,h]
theorem iV{fr:List V}{d:Option Nat}{r:V}{t:Nat}(h:d≠some t):(di fr d r)[t]?=fr[t]?:=by
 cases d with
 | none=>rfl
 | some n =>
  have hn:n≠t:=fun e=>h (by simp[e]);simp only[di,aJ hn]
theorem mr{fr:List V}{d:Option Nat}{r:V}:(di fr d r).length=fr.length:=by cases d<;>simp[di]
theorem Ey{a:Act}{d:Option Nat}{v:Value}:(a.put d v).tmps.size=a.tmps.size∧(a.put d v).defers=a.defers:=by
 cases d<;>simp[Act.put]
theorem AW.pT{w w':World}{J J':ae}{μ μ':Mem}{fr:List V}{inf:Nat→Option (List (Nat×Bool))}{a:Act}{p:Pi}{r:V}{v:Value}(h:AW w J μ fr inf a)(gW:Gh inf p)(hk:lJ w J μ w' J' μ')
  (h1:∀ t,p.d=some t→t<fr.length→chainB fr p.g=some true→VR w' J' μ' r v) (h2:chainB fr p.g=some false→v=undef):AW w' J' μ' (di fr p.d r) (pS inf p) (a.put p.d v):=by
 refine⟨by rw[Ey.2];exact h.1,by rw[Ey.1,mr];exact h.2.1,fun t x hx ch wz=>?_⟩
 by_cases hd:p.d=some t
 ·have hf:=gW.fresh t hd;simp only[pS,hd,aL,aa]at wz;subst wz
  have hlen:t<fr.length:=by
   have:=(ab.1 hx).1;rwa [mr]at this
  rw[hd]at hx;simp only[di,ar hlen,aa]at hx;subst hx;have e:chainB (di fr p.d r) p.g=chainB fr p.g:=qH fun q hq e=>hf.1 q hq (by rw[hd]at e;exact(fX e).symm);rw[e,hd,Ez (by rw[h.2.1];exact hlen)];exact⟨h1 t hd hlen,h2⟩
 ·simp only[pS,hd,aK]at wz;rw[iV hd]at hx;have e:chainB (di fr p.d r) ch=chainB fr ch:=qH fun q hq e=>(gW.fresh q.1 e).2 t ch wz q hq rfl;rw[e,Kr hd];have:=h.2.2 t x hx ch wz;exact⟨fun hc=>hk _ _ (this.1 hc),this.2⟩
def GI(P:Program)(p:Pi)(K:St→Prop)(fr:List V)(J:ae):Prop :=
 ∃ c,chainB fr p.g=some c∧((c=true∧∃ K':St→Prop,iu P p K' ⟨fr,J⟩∧∀ st',K' st'→K st')∨(c=false∧∃ r,K ⟨di fr p.d r,J⟩))
theorem Zs{P:Program}{p:Pi}{K:St→Prop}{fr:List V}{J:ae}(h:gI P p K ⟨fr,J⟩):GI P p K fr J:=by
 unfold gI at h;split at h
 ·rename_i hg;exact⟨true,by rw[hg];rfl,.inl ⟨rfl,K,h,fun _ h=>h⟩⟩
 ·split at h
  ·rename_i c hc
   by_cases Fw:∃ f args,p.i=.call f args
   ·obtain⟨f,args,hi⟩:=Fw;obtain⟨d,g,i⟩:=p;simp only at hi;subst hi;cases c with
    | true=>exact⟨true,hc,.inl ⟨rfl,K,h.1 rfl,fun _ h=>h⟩⟩
    | false=>exact⟨false,hc,.inr ⟨rfl,h.2 rfl⟩⟩
   by_cases za:∃ x args,p.i=.kK x args
   ·obtain⟨x,args,hi⟩:=za;obtain⟨d,g,i⟩:=p;simp only at hi;subst hi;cases c with
    | true=>exact⟨true,hc,.inl ⟨rfl,K,h.1 rfl,fun _ h=>h⟩⟩
    | false=>exact⟨false,hc,.inr ⟨rfl,h.2 rfl⟩⟩
   obtain⟨r,h1,h2⟩:=zh h (fun f args e=>Fw ⟨f,args,e⟩) fun x args e=>za ⟨x,args,e⟩;cases c with
   | true=>exact⟨true,hc,.inl ⟨rfl,_,h2 rfl,fun st' e=>e▸h1⟩⟩
   | false=>exact⟨false,hc,.inr ⟨rfl,r,h1⟩⟩
  ·exact h.elim
theorem TV{P:Program}{ops:Array Oper}{o:Oper}{p:Pi}(hc:VI P ops o=some p){inf:Nat→Option (List (Nat×Bool))}{B:Nat}{w0 w:World}{fr:List V}{J:ae}{μ:Mem}{a:Act}{K:St→Prop}
  (hS:fx P B w0 w J μ) (hF:AW w J μ fr inf a) (gW:Gh inf p) (hK:GI P p K fr J) {R:Act→World→Prop} {Q:Exit→Act→World→Prop}
  (hR:∀ r J' μ' a' w',K ⟨di fr p.d r,J'⟩→fx P B w0 w' J' μ'→AW w' J' μ' (di fr p.d r) (pS inf p) a'→lJ w J μ w' J' μ'→R a' w') :
  if Region.wanted o (yielded ops a.tmps)then o.wp P a w R Q∨(o.asks P a w∧LetsOut Q)else R (a.put o.dst undef) w:=by
 unfold VI at hc;split at hc<;>simp only[aa,reduceCtorEq]at hc;rename_i g hg;obtain⟨i,UO⟩:∃ i,i=(compile P o).getD .stop:=⟨_,rfl⟩;rw[← UO]at hc;subst hc
 have doit:∀ K':St→Prop,chainB fr g=some true→iu P ⟨o.dst,g,i⟩ K' ⟨fr,J⟩→(∀ st',K' st'→K st')→o.wp P a w R Q:=by
  intro K' wz hs Oi
  have hi:compile P o=some i:=by
   cases Mn:compile P o with
   | none=>rw[Mn]at UO;simp only[xm]at UO;subst UO;simp[iu,aM,bO]at hs
   | some j=>rw[Mn]at UO;simp only[ft]at UO;rw[UO]
  have h1:=Eb (fr':=SN inf fr) (fun s hs' hse=>by
   obtain⟨ch,h2,h3⟩:=gW.lS s hs';exact(T5 h2 (AT (by rw[nR,wz,hse];rfl) h3)).symm) hs
  refine Oper.wp_mono ?_ (Ea (p:=⟨o.dst,g,i⟩) hi rfl h1 hS hF.mask);rintro a' w' ⟨st',μ',⟨r,h2,h3⟩,h4,h5,h6,⟨v,rfl⟩,_⟩;have hlen:(SN inf fr).length=fr.length:=by simp[SN]
  refine hR r st'.J μ' _ w' (Oi _ h3) h4 (hF.pT gW h6 (fun t ht hl _=>?_) fun h=>by simp only at h;rw[wz]at h;simp at h) h6;simp only at ht h2;have h7:=h5.2.2 t r (by rw[h2,ht];simp only[di];rw[ar (by rw[hlen];exact hl)])
  rwa [ht,Ez (by rw[hF.2.1];exact hl)]at h7
 have guard:∀ c,chainB fr g=some c→Region.wanted o (yielded ops a.tmps)=c:=by
  intro c y9;cases PK:o.guard with
  | none =>
   rw[PK]at hg;simp only[uh,aa]at hg;subst hg;simp only[chainB,aa]at y9;subst y9;simp[Region.wanted,PK]
  | some jb =>
   obtain⟨j,b⟩:=jb;rw[PK]at hg;simp only[uh]at hg;split at hg<;>(try simp only[reduceCtorEq]at hg);rename_i oj hoj;split at hg<;>simp only[aa,reduceCtorEq]at hg;rename_i t ch ht wz;subst hg;have UM:=gW.guard ch t b rfl;rw[nR]at y9;split at y9<;>simp only[aa,reduceCtorEq]at y9;rename_i x y hx hy;simp only[chainB]at hy;split at hy<;>simp only[aa,reduceCtorEq]at hy;rename_i z hz;simp only[fH]at hy
   have hl:t<fr.length:=by
    rcases fb t fr.length with h | h
    ·exact h
    ·rw[an,bl h]at hz;simp at hz
   have eA:fr[t]?=some (.b z):=by
    rw[an,ak hl]at hz;rw[ak hl];simpa using hz
   have hv:=hF.2.2 t _ eA ch UM;have Og:t<a.tmps.size:=by rw[hF.2.1];exact hl
   have Yt:yielded ops a.tmps j=match a.tmps.getD t undef with | .bool q=>some q | _=>none:=by
    unfold yielded;simp only[hoj,gp,ht];rw[bc Og];have:a.tmps.getD t undef=a.tmps[t]:=by simp[Og]
    rw[this];cases a.tmps[t]<;>rfl
   subst y9 hy;cases x
   ·rw[hv.2 hx]at Yt;simp only[undef]at Yt;simp[Region.wanted,PK,Yt]
   ·rw[(hv.1 hx).mE]at Yt;simp[Region.wanted,PK,Yt]
 obtain⟨c,y9,rH⟩:=hK;rcases rH with⟨rfl,K',h1,h2⟩ | ⟨rfl,r,h1⟩
 ·rw[bf (guard true y9)];exact .inl (doit K' y9 h1 h2)
 ·have hw:=guard false y9;rw[hw];simp only[aF,aK];exact hR r J μ _ w h1 hS (hF.pT (p:=⟨o.dst,g,i⟩) gW (lJ.refl _ _ _) (fun t _ _ h=>by simp only at h;rw[y9]at h;simp at h) fun _=>rfl) (lJ.refl _ _ _)
theorem ZP{P:Program}{ops:Array Oper}{o:Oper}{p:Pi}(hc:VI P ops o=some p){inf:Nat→Option (List (Nat×Bool))}{B:Nat}{w0 w:World}{fr:List V}{J:ae}{μ:Mem}{a:Act}{K:St→Prop}
  (hS:fx P B w0 w J μ) (hF:AW w J μ fr inf a) (gW:Gh inf p) (hK:gI P p K ⟨fr,J⟩) {R:Act→World→Prop} {Q:Exit→Act→World→Prop}
  (hR:∀ r J' μ' a' w',K ⟨di fr p.d r,J'⟩→fx P B w0 w' J' μ'→AW w' J' μ' (di fr p.d r) (pS inf p) a'→lJ w J μ w' J' μ'→R a' w') :
  if Region.wanted o (yielded ops a.tmps)then o.wp P a w R Q∨(o.asks P a w∧LetsOut Q)else R (a.put o.dst undef) w :=
 TV hc hS hF gW (Zs hK) hR
def FU(gs:List Nat)(fr:List V):List V:=gs.foldl (fun fr s=>fr.set s .u) fr
def iW(P:Program)(gs:List Nat):List Pi→(St→Prop)→St→Prop
 | [],K,st=>K ⟨FU gs st.fr,st.J⟩
 | p::ps,K,st=>gI P p (iW P gs ps K) st
def oy(D:List (Nat×List (Nat×Bool)))(t:Nat):List (Nat×Bool):=(D.lookup t).getD []
def VP(D:List (Nat×List (Nat×Bool)))(p:Pi):List (Nat×List (Nat×Bool)):=match p.d with
 | some d=>(d,p.g)::D
 | none=>D
def Nj(D:List (Nat×List (Nat×Bool)))(p:Pi):Bool :=
 p.i.lS.all (fun s=>(oy D s.1).isPrefixOf (p.g++s.2)) &&
 (match p.g.getLast? with
  | none=>true
  | some q=>oy D q.1==p.g.dropLast) &&
 (match p.d with
  | none=>true
  | some d=>p.g.all (fun q=>q.1 != d)&&D.all fun e=>e.2.all fun q=>q.1 != d)
def DI:List (Nat×List (Nat×Bool))→List Pi→List Nat→Bool
 | D,[],gs=>D.all fun e=>e.2.isEmpty||gs.contains e.1
 | D,p::ps,gs=>Nj D p&&DI (VP D p) ps gs
def tN(D:List (Nat×List (Nat×Bool)))(t:Nat):Option (List (Nat×Bool)):=some (oy D t)
theorem uX{D:List (Nat×List (Nat×Bool))}{t:Nat}:oy D t=[]∨(t,oy D t)∈D:=by
 induction D with
 | nil=>exact .inl rfl
 | cons e D ih =>
  obtain⟨s,ch⟩:=e;simp only[oy,PA]
  by_cases h:t=s
  ·subst h;right;simp
  ·have:(t==s)=false:=by simpa using h
   rw[this];simp only[oy]at ih;rcases ih with h | h
   ·exact .inl h
   ·exact .inr (dh _ h)
theorem ER{D:List (Nat×List (Nat×Bool))}{p:Pi}(h:Nj D p=true):Gh (tN D) p:=by
 simp only[Nj,aO,cK]at h;obtain⟨⟨h1,h2⟩,h3⟩:=h;refine⟨fun s hs=>⟨_,rfl,h1 s hs⟩,fun ch t b hg=>?_,fun d hd=>?_⟩
 ·rw[hg]at h2;simp only[pO,mV,DC,List.dropLast_concat,bT]at h2;simp[tN,h2]
 ·rw[hd]at h3;simp only[aO,cK,lg,gm]at h3;refine⟨fun q hq=>h3.1 q hq,fun t ch ht q hq=>?_⟩;simp only[tN,aa]at ht;subst ht;rcases uX (D:=D) (t:=t)with h | h
  ·rw[h]at hq;simp at hq
  ·exact h3.2 _ h q hq
theorem A3{D:List (Nat×List (Nat×Bool))}{p:Pi}:pS (tN D) p=tN (VP D p):=by
 funext t;simp only[pS,tN,VP];cases hd:p.d with
 | none=>simp
 | some d =>
  by_cases h:d=t
  ·subst h;simp[oy]
  ·have h2:(t==d)=false:=by simpa using fun e=>h e.symm
   simp[h,oy,PA,h2]
theorem O3:∀ (gs:List Nat) (fr:List V) (t:Nat),(FU gs fr)[t]?=if t∈gs then(fr[t]?).map (fun _=>V.u)else fr[t]?
 | [],fr,t=>by simp[FU]
 | s::gs,fr,t=>by
  have ih:=O3 gs (fr.set s .u) t;simp only[FU,c8]at ih ⊢;rw[ih]
  by_cases hs:s=t
  ·subst hs;simp only[bJ,Tp,aL];rw[aas];split<;>cases fr[s]?<;>rfl
  ·rw[aJ hs];have:(t∈s::gs)↔t∈gs:=by simp[Tq hs]
   simp only[this]
theorem AW.ends{w:World}{J:ae}{μ:Mem}{fr:List V}{D:List (Nat×List (Nat×Bool))}{gs:List Nat}{a:Act}(h:AW w J μ fr (tN D) a)(hD:DI D [] gs=true):FR w J μ (FU gs fr) a:=by
 refine⟨h.1,?_,fun t x hx=>?_⟩
 ·rw[h.2.1]
  have:∀ (gs:List Nat) (fr:List V),(FU gs fr).length=fr.length:=by
   intro gs
   induction gs with
   | nil=>intro fr;rfl
   | cons s gs ih=>intro fr;simp only[FU,c8]at ih ⊢;rw[ih];simp
  rw[this]
 ·rw[O3]at hx;split at hx
  ·rw[aj]at hx;obtain⟨_,_,rfl⟩:=hx;exact .u _
  ·rename_i Dh;refine(h.2.2 t x hx _ rfl).1 ?_
   have:oy D t=[]:=by
    rcases uX (D:=D) (t:=t)with h | h
    ·exact h
    ·simp only[DI,cK]at hD;have:=hD _ h;simp only[da,List.isEmpty_iff,List.contains_eq_mem,aY]at this;rcases this with h2 | h2
     ·exact h2
     ·exact absurd h2 Dh
   rw[this];simp[chainB]
def jJ(P:Program)(n B:Nat)(w0 w:World)(J:ae)(μ:Mem)(K:Exit→St→Prop)(e:Exit)(a':Act)(w':World):Prop :=
 ∃ st' μ',K e st'∧fx P B w0 w' st'.J μ'∧FR w' st'.J μ' st'.fr a'∧eD n w J μ w' st'.J μ'
theorem yk{P:Program}{ops:Array Oper}{n B:Nat}{gs:List Nat}{w0 ws:World}{σs:ae}{μs:Mem}{K:St→Prop}{Q:Exit→Act→World→Prop}
  (hQ:∀ st w μ a,K st→fx P B w0 w st.J μ→FR w st.J μ st.fr a→eD n ws σs μs w st.J μ→Q .normal a w) :
  ∀ (l:List Oper) (k:Nat) (ps:List Pi) (D:List (Nat×List (Nat×Bool))) (fr:List V) (J:ae) (w:World) (μ:Mem) (a:Act),(∀ j,l[j]?=ops[k+j]?)→pk P ops l=some ps→DI D ps gs=true→iW P gs ps K ⟨fr,J⟩ →
   fx P B w0 w J μ→AW w J μ fr (tN D) a→eD n ws σs μs w J μ →
   wpOps P ops Q ((List.range l.length).map (k+·)) a w
 | [],k,ps,D,fr,J,w,μ,a,_,hc,hD,hr,hS,hF,hk=>by
  simp only[pk,aa]at hc;subst hc;exact hQ _ w μ a hr hS (hF.ends hD) hk
 | o::l,k,ps,D,fr,J,w,μ,a,hl,hc,hD,hr,hS,hF,hk=>by
  simp only[pk]at hc;split at hc<;>simp only[aa,reduceCtorEq]at hc;rename_i p qs hp YI;subst hc;simp only[DI,aO]at hD;have ho:ops[k]?=some o:=by have:=hl 0;simpa using this.symm
  have e1:(List.range (o::l).length).map (k+·)=k::(List.range l.length).map (k+1+·):=by
   rw[ai,z8,ay,ig];simp only[dK];congr 1;apply cS;intro x _;simp only[Function.comp];omega
  rw[e1];simp only[wpOps,ho];refine ZP hp hS hF (ER hD.1) hr ?_;intro r J' μ' a' w' h1 h2 h3 h4;rw[A3]at h3;exact yk hQ l (k+1) qs _ _ _ w' μ' a' (fun j=>by have:=hl (j+1);rw[bI]at this;rw[this];congr 1;omega) YI hD.2 h1 h2 h3 (hk.trans h4.Ma)
theorem FR.toI{w:World}{J:ae}{μ:Mem}{fr:List V}{a:Act}(h:FR w J μ fr a):AW w J μ fr (tN []) a :=
 ⟨h.1,h.2.1,fun t x hx ch wz=>by
  simp only[tN,oy,List.lookup_nil,xm,aa]at wz;subst wz;exact⟨fun _=>h.2.2 t x hx,fun h=>by simp[chainB]at h⟩⟩
def tb(bs:List Nat)(i j:Nat):Bool:=(bs.getD i 0).testBit j
def dQ(pis:List Pi)(i:Nat):Pi:=pis.getD i ⟨none,[],.alloc 0 []⟩
def Bg(bs ls:List Nat)(i:Nat):Nat:=(ls.filter (tb bs i)).length
def ly(pis:List Pi)(bs:List Nat)(m:Nat)(ls:List Nat)(k:Nat):List Nat:=(List.range m).filter fun i=>(dQ pis i).i.cF&&Bg bs ls i==k
def Pc(pis:List Pi)(bs:List Nat)(m:Nat)(ls:List Nat)(k L:Nat):List Nat :=
 (List.range m).filter fun i=>(dQ pis i).i.cF&&((dQ pis i).i.reads&&(decide (Bg bs ls i≤k)&&!tb bs L i))
def Ad(pis:List Pi)(bs:List Nat)(m:Nat)(ls:List Nat):Nat→List Nat→List (List Pi×Pi×List Pi)
 | _,[]=>[]
 | k,L::r=>((ly pis bs m ls k).map (dQ pis),dQ pis L,(Pc pis bs m ls k L).map (dQ pis))::Ad pis bs m ls (k+1) r
def zK(p:Pi)(st:St):Prop :=
 match chainB st.fr p.g with
 | some c=>match p.d with
  | some d=>c=true→∃ ob,aM st.fr st.J p.i=some (ob,st.fr.getD d .u)∧ob
  | none=>c=true→∃ ob r,aM st.fr st.J p.i=some (ob,r)∧ob
 | none=>False
def pH(P:Program):List (List Pi×Pi×List Pi)→List Pi→(St→Prop)→St→Prop
 | [],last,K,st=>iW P [] last K st
 | (DH,L,chk)::ds,last,K,st=>iW P [] DH (fun st1=>gI P L (fun st2=>(∀ p∈chk,zK p st2)∧pH P ds last K st2) st1) st
def looks(p:Pi):List Nat:=p.i.lS.map (·.1)++p.g.map (·.1)
def Fact(p:Pi)(fr:List V)(J:ae):Prop :=
 ∃ c,chainB fr p.g=some c∧∃ r,di fr p.d r=fr∧(c=true→∃ ob,aM fr J p.i=some (ob,r)∧ob)
theorem MU{fr:List V}{t:Nat}{r:V}:fr.set t r=fr↔(t<fr.length→fr[t]?=some r):=by
 constructor
 ·intro h hl;rw[← h,ar hl]
 ·intro h;refine gK fun i=>?_
  by_cases hi:t=i
  ·subst hi;rw[aas];rcases fb t fr.length with hl | hl
   ·rw[h hl];rfl
   ·rw[bl hl];rfl
  ·rw[aJ hi]
theorem oe{fr:List V}{d:Option Nat}{r:V}:di fr d r=fr↔∀ t,d=some t→t<fr.length→fr[t]?=some r:=by
 cases d with
 | none=>simp[di]
 | some t=>simp only[di,MU,aa];exact⟨fun h s hs=>hs▸h,fun h=>h t rfl⟩
theorem Nh{i:I}{x:O}(hx:x∈i.os){t:Nat}(ht:t∈x.slot):t∈i.lS.map (·.1):=by
 unfold I.lS;split
 ·rename_i c a b;simp only[I.os,bJ,eL,DB]at hx;rcases hx with rfl | rfl | rfl
  ·simp only[O.slot,bU]at ht;simp[ht]
  ·simp[ht]
  ·simp[ht]
 ·simp only[ig,bH,ir,Function.comp];exact⟨t,⟨x,hx,ht⟩,rfl⟩
theorem ku{fr fr':List V}:∀ {ch:List (Nat×Bool)},(∀ q∈ch,fr'[q.1]?=fr[q.1]?)→chainB fr' ch=chainB fr ch
 | [],_=>rfl
 | (t,b)::ch,h=>by
  have h0:fr'[t]?=fr[t]?:=h (t,b) (by simp);have ih:=ku (fr:=fr) (fr':=fr') (ch:=ch) fun q hq=>h q (by simp[hq]);simp only[chainB,ih,an,h0]
theorem v7{fr fr':List V}{J:ae}{p:Pi}(h:∀ t∈p.i.lS.map (·.1),fr'[t]?=fr[t]?):aM fr' J p.i=aM fr J p.i :=
 vZ fun x hx=>xJ fun s hs=>by rw[an,an,h s (Nh hx hs)]
theorem Fact.agree{p:Pi}{fr fr':List V}{J:ae}(h:Fact p fr J)(hl:∀ t∈looks p,fr'[t]?=fr[t]?)(hd:∀ t,p.d=some t→fr'[t]?=fr[t]?)(hlen:fr'.length=fr.length):Fact p fr' J:=by
 obtain⟨c,h1,r,h2,h3⟩:=h;refine⟨c,by rw[ku fun q hq=>hl q.1 (by simp only[looks,bL,bH];exact .inr ⟨q,hq,rfl⟩)];exact h1,r,?_,fun hc=>?_⟩
 ·rw[oe]at h2 ⊢;intro t ht dc;rw[hd t ht];exact h2 t ht (hlen▸dc)
 ·rw[v7 fun t ht=>hl t (by simp only[looks,bL];exact .inl ht)];exact h3 hc
theorem Fact.still{p:Pi}{fr:List V}{J J':ae}(h:Fact p fr J)(hr:p.i.reads=false):Fact p fr J':=by
 obtain⟨c,h1,r,h2,h3⟩:=h;exact⟨c,h1,r,h2,fun hc=>by rw[← EE (J:=J) hr];exact h3 hc⟩
theorem zK.fact{p:Pi}{st:St}(h:zK p st):Fact p st.fr st.J:=by
 unfold zK at h;split at h
 ·rename_i c hc;split at h
  ·rename_i d hd;refine⟨c,hc,_,?_,h⟩;rw[oe];intro t ht hl;rw[hd]at ht;simp only[aa]at ht;subst ht;rw[an,ak hl];rfl
  ·rename_i hd
   by_cases Mm:c=true
   ·obtain⟨ob,r,h1,h2⟩:=h Mm;exact⟨c,hc,r,by rw[hd];rfl,fun _=>⟨ob,h1,h2⟩⟩
   ·exact⟨c,hc,.u,by rw[hd];rfl,fun h=>absurd h Mm⟩
 ·exact h.elim
theorem LB{P:Program}{p:Pi}{K:St→Prop}{fr:List V}{J:ae}(h:gI P p K ⟨fr,J⟩)(hs:p.i.cF=true):
  ∃ c r,chainB fr p.g=some c∧K ⟨di fr p.d r,J⟩∧(c=true→∃ ob,aM fr J p.i=some (ob,r)∧ob):=by
 have key:∀ K0,iu P p K0 ⟨fr,J⟩→∃ r,K0 ⟨di fr p.d r,J⟩∧∃ ob,aM fr J p.i=some (ob,r)∧ob:=by
  intro K0 h0;obtain⟨d,g,i⟩:=p;cases i<;>first | (simp[I.cF]at hs;done) | skip
  all_goals
   simp only[iu]at h0;split at h0
   ·rename_i ob v hv;exact⟨v,h0.2,ob,hv,h0.1⟩
   ·rw[s8 (by simpa using hs)]at h0;exact h0.elim
 unfold gI at h;split at h
 ·rename_i hg;obtain⟨r,h1,h2⟩:=key _ h;exact⟨true,r,by rw[hg];rfl,h1,fun _=>h2⟩
 ·split at h
  ·rename_i c hc;obtain⟨r,h1,h2⟩:=zh h (fun f args e=>by rw[e]at hs;simp[I.cF]at hs) fun x args e=>by rw[e]at hs;simp[I.cF]at hs
   by_cases Mm:c=true
   ·obtain⟨r',h3,h4⟩:=key _ (h2 Mm);simp only[St.mk.injEq,fq]at h3;subst Mm;refine⟨true,r',hc,?_,fun _=>h4⟩;rw[h3];exact h1
   ·exact⟨c,r,hc,h1,fun h=>absurd h Mm⟩
  ·exact h.elim
theorem uJ{P:Program}{pis:List Pi}{K:St→Prop}{J:ae}:∀ (l:List Nat) (fr:List V),iW P [] (l.map (dQ pis)) K ⟨fr,J⟩→(∀ i∈l,(dQ pis i).i.cF=true) →
  l.Pairwise (fun i j=>∀ t,(dQ pis j).d=some t→t ∉ looks (dQ pis i)∧(dQ pis i).d≠some t)→(∀ i∈l,∀ t,(dQ pis i).d=some t→t ∉ looks (dQ pis i)) →
  ∃ fr',K ⟨fr',J⟩∧(∀ i∈l,Fact (dQ pis i) fr' J)∧(∀ t,(∀ i∈l,(dQ pis i).d≠some t)→fr'[t]?=fr[t]?)∧fr'.length=fr.length
 | [],fr,h,_,_,_=>⟨fr,h,by simp,fun _ _=>rfl,rfl⟩
 | i::l,fr,h,hs,hp,tR=>by
  simp only[ay,iW]at h;obtain⟨c,r,h1,h2,h3⟩:=LB h (hs i (by simp));rw[sY]at hp;obtain⟨fr',h4,h5,h6,h7⟩:=uJ l _ h2 (fun j hj=>hs j (by simp[hj])) hp.2 fun j hj=>tR j (by simp[hj])
  have Oh:∀ t∈looks (dQ pis i),fr'[t]?=fr[t]?:=fun t ht=>by
   rw[h6 t fun j hj e=>(hp.1 j hj t e).1 ht];exact iV fun e=>tR i (by simp) t e ht
  refine⟨fr',h4,fun j hj=>?_,fun t ht=>?_,by rw[h7,mr]⟩
  ·rcases bJ.1 hj with rfl | hj
   ·refine⟨c,by rw[ku fun q hq=>Oh q.1 (by simp only[looks,bL,bH];exact .inr ⟨q,hq,rfl⟩)];exact h1,r,?_,fun hc=>?_⟩
    ·rw[oe];intro t ht dc;rw[h6 t fun k hk e=>(hp.1 k hk t e).2 ht,ht];have:t<fr.length:=by rw[h7,mr]at dc;exact dc
     simp only[di,ar this]
    ·rw[v7 fun t ht=>Oh t (by simp only[looks,bL];exact .inl ht)];exact h3 hc
   ·exact h5 j hj
  ·rw[h6 t fun j hj=>ht j (by simp[hj])];exact iV (ht i (by simp))
structure xO (ops:Array Oper) (pis:List Pi) (bs:List Nat) (m:Nat) (ls fl:List Nat):Prop where
 mn:m≤pis.length
 back:∀ i o,ops[i]?=some o→∀ e∈o.after,Region.binds .any e=true→e.on<i
 PQ:∀ (i j:Nat),i<pis.length→j<pis.length→tb bs i j=true→j<i∧∃ o,ops[i]?=some o∧∃ e∈o.after,Region.binds .any e=true∧(e.on=j∨tb bs e.on j=true)
 tail:∀ (i j:Nat),m≤i→i<pis.length→j<i→tb bs i j=true
 dst:∀ (i j:Nat) (t:Nat),i<m→j<m→(dQ pis i).d=some t→(dQ pis j).d=some t→i=j
 EZ:∀ (i:Nat),i<m→(dQ pis i).i.cF=false→i∈ls∨i∈fl
 PB:∀ L∈ls,L<m∧(dQ pis L).i.cF=false
 Qu:∀ (j k L L':Nat),j<k→ls[j]?=some L'→ls[k]?=some L→tb bs L L'=true
 DH:∀ (i k L:Nat),i<m→(dQ pis i).i.cF=true→ls[k]?=some L→(tb bs i L=true↔k<Bg bs ls i)
 slot:∀ (i:Nat) (s:Nat×List (Nat×Bool)) (j:Nat),i<m→s∈(dQ pis i).i.lS→j<m→(dQ pis j).d=some s.1→tb bs i j=true∧(dQ pis j).g.isPrefixOf ((dQ pis i).g++s.2)=true
 chain:∀ (i:Nat) (q:Nat×Bool),i<m→q∈(dQ pis i).g→∃ j,j<m∧(dQ pis j).d=some q.1∧tb bs i j=true
 last:∀ (i:Nat) (ch:List (Nat×Bool)) (t:Nat) (b:Bool) (j:Nat),i<m→(dQ pis i).g=ch++[(t,b)]→j<m→(dQ pis j).d=some t→(dQ pis j).g=ch
 mono:∀ (i j t:Nat),i<m→(dQ pis i).i.cF=true→j<m→(dQ pis j).i.cF=true→(dQ pis j).d=some t→t∈looks (dQ pis i)→Bg bs ls j≤Bg bs ls i
theorem l9{P:Program}{ops:Array Oper}:∀ {l:List Oper} {ps:List Pi},pk P ops l=some ps→ps.length=l.length∧∀ (i:Nat) (o:Oper),l[i]?=some o→∃ p,ps[i]?=some p∧VI P ops o=some p
 | [],ps,h=>by simp only[pk,aa]at h;subst h;simp
 | o::l,ps,h=>by
  simp only[pk]at h;split at h<;>simp only[aa,reduceCtorEq]at h;rename_i p qs hp YI;subst h;obtain⟨h1,h2⟩:=l9 YI;refine⟨by simp[h1],fun i o' ho=>?_⟩;cases i with
  | zero=>simp only[aw,aa]at ho;subst ho;exact⟨p,rfl,hp⟩
  | succ i=>exact h2 i o' (by simpa using ho)
abbrev iM(listed:Array Bool)(i:Nat):Prop:=listed.getD i false=true
theorem dY{listed:Array Bool}{i j:Nat}(hi:i<listed.size):iM (listed.setIfInBounds i true) j↔j=i∨iM listed j:=by
 simp only[iM,bh]
 by_cases h:i=j
 ·subst h;simp[hi]
 ·rw[cn h];simp[Tq h]
theorem qe{ops:Array Oper}{listed:Array Bool}{i:Nat}(hn:listed.size=ops.size)(h:i∈Region.ready .any ops listed):
  i<ops.size∧¬ iM listed i∧∃ o,ops[i]?=some o∧∀ e∈o.after,Region.binds .any e=true→iM listed e.on:=by
 obtain⟨h1,o,h2,h3⟩:=mem_ready.1 h;have hi:i<ops.size:=(aX.1 h2).1;refine⟨hi,?_,o,h2,h3⟩;simp only[iM,bh]at h1 ⊢;rw[bc (by rw[hn];exact hi)]at h1 ⊢;simp at h1 ⊢;exact h1
section
variable {P:Program} {ops:Array Oper} {pis:List Pi} {bs:List Nat} {m:Nat} {ls fl:List Nat}
theorem xO.ready(hX:xO ops pis bs m ls fl)(hn:pis.length=ops.size){listed:Array Bool}(fw:listed.size=ops.size)
  (hc:∀ i j,i<pis.length→j<pis.length→iM listed i→tb bs i j=true→iM listed j) {i:Nat} (h:i∈Region.ready .any ops listed) {j:Nat} (hj:j<pis.length) (ht:tb bs i j=true):iM listed j:=by
 obtain⟨h1,h2,o,h3,h4⟩:=qe fw h;obtain⟨h5,o',h6,e,h7,h8,h9⟩:=hX.PQ i j (by omega) hj ht;rw[h3]at h6;simp only[aa]at h6;subst h6;have Fy:=h4 e h7 h8;rcases h9 with rfl | h9
 ·exact Fy
 ·have:=hX.back i o h3 e h7 h8;exact hc e.on j (by omega) hj Fy h9
theorem xO.first(hX:xO ops pis bs m ls fl){listed:Array Bool}(fw:listed.size=ops.size)(h:Region.ready .any ops listed=[]):∀ i,i<ops.size→iM listed i:=by
 intro i
 induction i using Nat.strongRecOn with
 | ind i ih =>
  intro hi;refine bB fun hn=>?_
  have:i∈Region.ready .any ops listed:=by
   rw[mem_ready];refine⟨?_,ops[i],by simp[hi],fun e he hb=>?_⟩
   ·simp only[iM,bh]at hn ⊢;rw[bc (by rw[fw];exact hi)]at hn ⊢;simp at hn ⊢;exact hn
   ·have hl:=hX.back i ops[i] (by simp[hi]) e he hb;exact ih e.on hl (by omega)
  rw[h]at this;simp at this
theorem Bm{listed:Array Bool}(fw:listed.size=ops.size)(h:∀ i,i<ops.size→iM listed i):Region.ready .any ops listed=[]:=by
 refine bP.2 fun i hi=>?_;obtain⟨h1,h2,_⟩:=qe fw hi;exact h2 (h i h1)
theorem xY(hX:xO ops pis bs m ls fl)(hp:pk P ops ops.toList=some pis){n B:Nat}{gs:List Nat}{w0 ws:World}{σs:ae}{μs:Mem}{K:St→Prop}{Q:Exit→Act→World→Prop}
  (hQ:∀ st w μ a,K st→fx P B w0 w st.J μ→FR w st.J μ st.fr a→eD n ws σs μs w st.J μ→Q .normal a w) :
  ∀ (fuel q:Nat) (listed:Array Bool) (D:List (Nat×List (Nat×Bool))) (fr:List V) (J:ae) (w:World) (μ:Mem) (a:Act),m≤q→q≤pis.length→listed.size=ops.size→(∀ i,i<pis.length→(iM listed i↔i<q))→pis.length - q≤fuel →
   DI D (pis.drop q) gs=true→iW P gs (pis.drop q) K ⟨fr,J⟩→fx P B w0 w J μ→AW w J μ fr (tN D) a→eD n ws σs μs w J μ→wpAny P .any ops Q fuel listed a w:=by
 have hn:pis.length=ops.size:=by rw[(l9 hp).1,a6]
 intro fuel
 induction fuel with
 | zero =>
  intro q listed D fr J w μ a hmq hq fw hl hf hD hr hS hF hk;have hq':q=pis.length:=by omega
  subst hq';rw[lL]at hD hr;refine wpAny_done (Bm fw fun i hi=>(hl i (by omega)).2 (by omega)) ?_ 0;exact hQ _ w μ a hr hS (hF.ends hD) hk
 | succ fuel ih =>
  intro q listed D fr J w μ a hmq hq fw hl hf hD hr hS hF hk
  by_cases hq':q=pis.length
  ·subst hq';rw[lL]at hD hr;refine wpAny_done (Bm fw fun i hi=>(hl i (by omega)).2 (by omega)) ?_ _;exact hQ _ w μ a hr hS (hF.ends hD) hk
  ·have BE:q<pis.length:=by omega
   refine⟨fun h=>?_,fun i hi=>?_⟩
   ·have:=hX.first fw h q (by omega);rw[hl q BE]at this;omega
   ·obtain⟨h1,h2,o,h3,h4⟩:=qe fw hi
    have hiq:i=q:=by
     have h5:¬ i<q:=fun h=>h2 ((hl i (by omega)).2 h);refine bB fun gv=>?_
     have h6:=hX.ready hn fw (fun i' j hi' hj hli ht=>by
      rw[hl i' hi']at hli;have:=(hX.PQ i' j hi' hj ht).1;exact(hl j hj).2 (by omega)) hi BE (hX.tail i q (by omega) (by omega) (by omega))
     rw[hl q BE]at h6;omega
    subst hiq;obtain⟨p,h5,h6⟩:=(l9 hp).2 i o (by simpa using h3)
    have Y7:pis.drop i=p::pis.drop (i+1):=by
     rw[db BE];congr 1;rw[ak BE]at h5;simpa using h5
    rw[Y7]at hD hr;simp only[DI,aO]at hD;simp only[wpOp,h3];refine ZP h6 hS hF (ER hD.1) hr ?_;intro r J' μ' a' w' k1 k2 k3 k4;rw[A3]at k3;exact ih (i+1) _ _ _ J' w' μ' a' (by omega) (by omega) (by simpa using fw) (fun j hj=>by rw[dY (by omega),hl j hj];omega) (by omega) hD.2 k1 k2 k3 (hk.trans k4.Ma)
end
def lV(pis:List Pi)(m:Nat)(listed:Array Bool)(t:Nat):Option (List (Nat×Bool)) :=
 match (List.range m).find? (fun i=>(dQ pis i).d==some t)with
 | none=>some []
 | some i=>if listed.getD i false then some (dQ pis i).g else none
section
variable {P:Program} {ops:Array Oper} {pis:List Pi} {bs:List Nat} {m:Nat} {ls fl:List Nat}
theorem xO.xu(hX:xO ops pis bs m ls fl){listed:Array Bool}{i t:Nat}(hi:i<m)(hd:(dQ pis i).d=some t):lV pis m listed t=if listed.getD i false then some (dQ pis i).g else none:=by
 unfold lV;split
 ·rename_i h;rw[List.find?_eq_none]at h;exact absurd (h i (cC.2 hi)) (by simp[hd])
 ·rename_i j h;have h1:=Am h;have h2:=cC.1 (uw h);simp only[bT]at h1;rw[hX.dst j i t h2 hi h1 hd]
theorem A1{listed:Array Bool}{t:Nat}(h:∀ i,i<m→(dQ pis i).d≠some t):lV pis m listed t=some []:=by
 unfold lV;split
 ·rfl
 ·rename_i j hj;have h1:=Am hj;have h2:=cC.1 (uw hj);simp only[bT]at h1;exact absurd h1 (h j h2)
theorem jR{listed:Array Bool}{t:Nat}{ch:List (Nat×Bool)}(h:lV pis m listed t=some ch):
  (ch=[]∧∀ i,i<m→(dQ pis i).d≠some t)∨∃ i,i<m∧(dQ pis i).d=some t∧iM listed i∧ch=(dQ pis i).g:=by
 unfold lV at h;split at h
 ·rename_i hf;rw[List.find?_eq_none]at hf;simp only[aa]at h;exact .inl ⟨h.symm,fun i hi hd=>hf i (cC.2 hi) (by simp[hd])⟩
 ·rename_i j hj;have h1:=Am hj;have h2:=cC.1 (uw hj);simp only[bT]at h1;split at h<;>simp only[aa,reduceCtorEq]at h;rename_i hl;exact .inr ⟨j,h2,h1,hl,h.symm⟩
theorem xO.ox(hX:xO ops pis bs m ls fl){i j t:Nat}(hi:i<m)(hj:j<m)(hd:(dQ pis j).d=some t)(ht:t∈looks (dQ pis i)):tb bs i j=true:=by
 simp only[looks,bL,bH]at ht;rcases ht with⟨s,hs,rfl⟩ | ⟨q,hq,rfl⟩
 ·exact(hX.slot i s j hi hs hj hd).1
 ·obtain⟨j',h1,h2,h3⟩:=hX.chain i q hi hq;rw[hX.dst j j' _ hj h1 hd h2];exact h3
theorem xO.lt(hX:xO ops pis bs m ls fl){i j:Nat}(hi:i<m)(hj:j<m)(h:tb bs i j=true):j<i :=
 (hX.PQ i j (cQ hi hX.mn) (cQ hj hX.mn) h).1
theorem xO.Yg(hX:xO ops pis bs m ls fl){listed:Array Bool}(hc:∀ i j,i<pis.length→j<pis.length→iM listed i→tb bs i j=true→iM listed j){i:Nat}(hi:i<m)(Li:¬ iM listed i)
  (lF:∀ j,j<pis.length→tb bs i j=true→iM listed j):Gh (lV pis m listed) (dQ pis i):=by
 have hm:=hX.mn;refine⟨fun s hs=>?_,fun ch t b hg=>?_,fun d hd=>⟨fun q hq e=>?_,fun t ch ht q hq e=>?_⟩⟩
 ·by_cases hw:∃ j,j<m∧(dQ pis j).d=some s.1
  ·obtain⟨j,hj,hd⟩:=hw;have:=hX.slot i s j hi hs hj hd;have hl:=lF j (by omega) this.1;refine⟨(dQ pis j).g,?_,this.2⟩;rw[hX.xu hj hd,hl];rfl
  ·exact⟨[],A1 fun j hj hd=>hw ⟨j,hj,hd⟩,by simp⟩
 ·obtain⟨j,hj,hd,ht⟩:=hX.chain i (t,b) hi (by rw[hg];simp);rw[hX.xu hj hd,lF j (by omega) ht,hX.last i ch t b j hi hg hj hd];rfl
 ·obtain⟨j,hj,hd',ht⟩:=hX.chain i q hi hq;rw[e]at hd';have:=hX.dst i j d hi hj hd hd';subst this;have:=hX.lt hi hi ht;omega
 ·rcases jR ht with⟨rfl,_⟩ | ⟨j,hj,Oo,Ag,rfl⟩
  ·simp at hq
  ·obtain⟨j2,V4,V8,PF⟩:=hX.chain j q hj hq;have Og:=hc j j2 (by omega) (by omega) Ag PF;rw[e]at V8;have:=hX.dst i j2 d hi V4 hd V8;subst this;exact Li Og
theorem xO.pS(hX:xO ops pis bs m ls fl){listed:Array Bool}{i:Nat}(hi:i<m)(Oj:i<listed.size):pS (lV pis m listed) (dQ pis i)=lV pis m (listed.setIfInBounds i true):=by
 funext t;simp only[Pm.pS]
 by_cases hd:(dQ pis i).d=some t
 ·have:(listed.setIfInBounds i true).getD i false=true:=(dY Oj).2 (.inl rfl);rw[bf hd,hX.xu hi hd,this];rfl
 ·rw[aI hd];unfold lV;split
  ·rfl
  ·rename_i j hj;have h1:=Am hj;simp only[bT]at h1;have gv:j≠i:=fun e=>hd (e▸h1)
   have:(listed.setIfInBounds i true).getD j false=listed.getD j false:=by
    have h2:=dY (listed:=listed) (j:=j) Oj;simp only[gv,sV,iM]at h2;cases h3:listed.getD j false<;>simp_all
   rw[this]
def sk(P:Program)(pis:List Pi)(bs:List Nat)(m:Nat)(ls:List Nat)(Kt:St→Prop)(k:Nat)(fr:List V)(J:ae):Prop :=
 match ls[k]? with
 | some L=>gI P (dQ pis L) (fun st2=>(∀ p∈(Pc pis bs m ls k L).map (dQ pis),zK p st2)∧pH P (Ad pis bs m ls (k+1) (ls.drop (k+1))) ((ly pis bs m ls ls.length).map (dQ pis)) Kt st2) ⟨fr,J⟩
 | none=>Kt ⟨fr,J⟩
theorem dp{k i:Nat}:i∈ly pis bs m ls k↔i<m∧(dQ pis i).i.cF=true∧Bg bs ls i=k:=by
 simp[ly]
theorem xO.SJ(hX:xO ops pis bs m ls fl){Kt:St→Prop}{k:Nat}(hk:k≤ls.length){fr:List V}{J:ae}
  (h:pH P (Ad pis bs m ls k (ls.drop k)) ((ly pis bs m ls ls.length).map (dQ pis)) Kt ⟨fr,J⟩) :
  ∃ fr',sk P pis bs m ls Kt k fr' J∧(∀ i∈ly pis bs m ls k,Fact (dQ pis i) fr' J)∧(∀ t,(∀ i∈ly pis bs m ls k,(dQ pis i).d≠some t)→fr'[t]?=fr[t]?)∧fr'.length=fr.length:=by
 have Ji:(ly pis bs m ls k).Pairwise (fun i j=>∀ t,(dQ pis j).d=some t→t ∉ looks (dQ pis i)∧(dQ pis i).d≠some t):=by
  refine ZK ?_ (List.Pairwise.filter _ adY);intro i j hi hj dc t hd
  replace hi:=(dp (k:=k)).1 hi
  replace hj:=(dp (k:=k)).1 hj
  refine⟨fun ht=>?_,fun hd'=>?_⟩
  ·have:=hX.lt hi.1 hj.1 (hX.ox hi.1 hj.1 hd ht);omega
  ·have:=hX.dst i j t hi.1 hj.1 hd' hd;omega
 have tR:∀ i∈ly pis bs m ls k,∀ t,(dQ pis i).d=some t→t ∉ looks (dQ pis i):=fun i hi t hd ht=>by
  rw[dp]at hi;have:=hX.lt hi.1 hi.1 (hX.ox hi.1 hi.1 hd ht);omega
 have Lk:∀ i∈ly pis bs m ls k,(dQ pis i).i.cF=true:=fun i hi=>(dp.1 hi).2.1
 by_cases uy:k<ls.length
 ·have e:ls.drop k=ls[k]::ls.drop (k+1):=db uy;rw[e]at h;simp only[Ad,pH]at h;obtain⟨fr',h1,h2,h3,h4⟩:=uJ _ _ h Lk Ji tR;refine⟨fr',?_,h2,h3,h4⟩;simp only[sk,ak uy];exact h1
 ·have hk':k=ls.length:=by omega
  subst hk';rw[lL]at h;simp only[Ad,pH]at h;obtain⟨fr',h1,h2,h3,h4⟩:=uJ _ _ h Lk Ji tR;refine⟨fr',?_,h2,h3,h4⟩;have e:ls[ls.length]?=none:=bl (aq _);simp only[sk,e];exact h1
def B4(n:Nat)(listed:Array Bool):Nat:=((List.range n).filter fun i=>!listed.getD i false).length
theorem DT{n m:Nat}{listed:Array Bool}(hm:m≤n)(h:∀ i,m≤i→i<n→¬ iM listed i):n - m≤B4 n listed:=by
 have e:List.range n=List.range m++(List.range (n - m)).map (m+·):=by rw[← List.range_add];congr 1;omega
 unfold B4;rw[e,jW,al]
 have:((List.range (n - m)).map (m+·)).filter (fun i=>!listed.getD i false)=(List.range (n - m)).map (m+·):=by
  rw[List.filter_eq_self];intro i hi;simp only[bH,cC]at hi;obtain⟨j,hj,rfl⟩:=hi;have:=h (m+j) (by omega) (by omega);simpa[iM]using this
 rw[this];simp
theorem Ik{n:Nat}{listed:Array Bool}{i:Nat}(hi:i<n)(h:¬ iM listed i):0<B4 n listed:=by
 unfold B4;rw[List.length_pos_iff_exists_mem];exact⟨i,by simp only[cW,cC];exact⟨hi,by simpa[iM]using h⟩⟩
theorem Ij{n:Nat}{listed:Array Bool}{i:Nat}(hi:i<n)(Oj:i<listed.size)(h:¬ iM listed i):B4 n (listed.setIfInBounds i true)+1≤B4 n listed:=by
 induction n with
 | zero=>omega
 | succ n ih =>
  have ex:∀ l:Array Bool,B4 (n+1) l=B4 n l+if l.getD n false then 0 else 1:=by
   intro l;unfold B4;rw[Ai,jW,al];congr 1;rw[eM];cases hl:l.getD n false<;>rfl
  rw[ex,ex]
  by_cases hn:i=n
  ·subst hn;have h1:(listed.setIfInBounds i true).getD i false=true:=(dY Oj).2 (.inl rfl);have h2:listed.getD i false=false:=by simpa[iM]using h
   rw[h1,h2]
   have:B4 i (listed.setIfInBounds i true)=B4 i listed:=by
    unfold B4;congr 1;refine List.filter_congr fun j hj=>?_;rw[cC]at hj;have h2:=dY (listed:=listed) (j:=j) Oj;have gv:j≠i:=by omega
    simp only[gv,sV,iM]at h2;cases h3:listed.getD j false<;>simp_all
   simp[this]
  ·have h1:=ih (by omega);have h2:=dY (listed:=listed) (j:=n) Oj;have gv:n≠i:=fun e=>hn e.symm;simp only[gv,sV,iM]at h2;have:(listed.setIfInBounds i true).getD n false=listed.getD n false:=by cases h3:listed.getD n false<;>simp_all
   rw[this];omega
def D0(pis:List Pi)(m:Nat):List (Nat×List (Nat×Bool)):=(List.range m).filterMap fun i=>(dQ pis i).d.map fun d=>(d,(dQ pis i).g)
theorem E4{t:Nat}{x:List (Nat×Bool)}:∀ {D:List (Nat×List (Nat×Bool))},(∀ v,(t,v)∈D→v=x)→(∃ v,(t,v)∈D)→oy D t=x
 | [],_,h=>by obtain⟨v,hv⟩:=h;simp at hv
 | (s,v)::D,h,he=>by
  simp only[oy,PA]
  by_cases hts:t=s
  ·subst hts;simp[h v (by simp)]
  ·have h2:(t==s)=false:=by simpa using hts
   rw[h2];refine E4 (D:=D) (fun v hv=>h v (by simp[hv])) ?_;obtain⟨v',hv'⟩:=he;rcases bJ.1 hv' with e | hv'
   ·simp only[ao]at e;exact absurd e.1 hts
   ·exact⟨v',hv'⟩
theorem xO.all(hX:xO ops pis bs m ls fl){listed:Array Bool}(h:∀ i,i<m→iM listed i):lV pis m listed=tN (D0 pis m):=by
 funext t
 have tT:∀ v,(t,v)∈D0 pis m↔∃ i,i<m∧(dQ pis i).d=some t∧v=(dQ pis i).g:=by
  intro v;simp only[D0,H9,cC,aj,ao];constructor
  ·rintro⟨i,hi,d,hd,rfl,rfl⟩;exact⟨i,hi,hd,rfl⟩
  ·rintro⟨i,hi,hd,rfl⟩;exact⟨i,hi,t,hd,rfl,rfl⟩
 by_cases hw:∃ i,i<m∧(dQ pis i).d=some t
 ·obtain⟨i,hi,hd⟩:=hw;rw[hX.xu hi hd,h i hi];simp only[aL,tN,aa];refine(E4 (fun v hv=>?_) ⟨_,(tT _).2 ⟨i,hi,hd,rfl⟩⟩).symm;obtain⟨j,hj,Oo,rfl⟩:=(tT v).1 hv;rw[hX.dst i j t hi hj hd Oo]
 ·rw[A1 fun i hi hd=>hw ⟨i,hi,hd⟩];simp only[tN,aa];rcases uX (D:=D0 pis m) (t:=t)with h1 | h1
  ·exact h1.symm
  ·obtain⟨i,hi,hd,_⟩:=(tT _).1 h1;exact absurd ⟨i,hi,hd⟩ hw
end
theorem Jw{P:Program}{p:Pi}{fr:List V}{J:ae}(h:Fact p fr J):GI P p (fun st'=>st'=⟨fr,J⟩) fr J:=by
 obtain⟨c,h1,r,h2,h3⟩:=h;cases c with
 | false=>exact⟨false,h1,.inr ⟨rfl,r,by rw[h2]⟩⟩
 | true =>
  obtain⟨ob,h4,h5⟩:=h3 rfl;refine⟨true,h1,.inl ⟨rfl,fun st'=>st'=⟨fr,J⟩,?_,fun _ h=>h⟩⟩;obtain⟨d,g,i⟩:=p;have hs:=tB h4;cases i<;>first | (simp[I.cF]at hs;done) | skip
  all_goals
   simp only[iu];simp only at h4 h2;rw[h4];exact⟨h5,by rw[h2]⟩
section
variable {P:Program} {ops:Array Oper} {pis:List Pi} {bs:List Nat} {m:Nat} {ls fl:List Nat}
theorem tz(hX:xO ops pis bs m ls fl)(hp:pk P ops ops.toList=some pis){n B:Nat}{gs:List Nat}{w0 ws:World}{σs:ae}{μs:Mem}{K:St→Prop}{Q:Exit→Act→World→Prop}
  (hQ:∀ st w μ a,K st→fx P B w0 w st.J μ→FR w st.J μ st.fr a→eD n ws σs μs w st.J μ→Q .normal a w) (ht:DI (D0 pis m) (pis.drop m) gs=true) :
  ∀ (fuel k:Nat) (listed:Array Bool) (fr:List V) (J:ae) (w:World) (μ:Mem) (a:Act),listed.size=ops.size→(∀ f∈fl,iM listed f) →
   (∀ i j,i<pis.length→j<pis.length→iM listed i→tb bs i j=true→iM listed j)→(∀ i,m≤i→i<pis.length→¬ iM listed i)→k≤ls.length →
   (∀ j L,ls[j]?=some L→(iM listed L↔j<k))→(∀ i,i<m→(dQ pis i).i.cF=true→Bg bs ls i≤k→¬ iM listed i→Fact (dQ pis i) fr J) →
   sk P pis bs m ls (iW P gs (pis.drop m) K) k fr J→B4 pis.length listed≤fuel →
   fx P B w0 w J μ→AW w J μ fr (lV pis m listed) a→eD n ws σs μs w J μ→wpAny P .any ops Q fuel listed a w:=by
 have hn:pis.length=ops.size:=by rw[(l9 hp).1,a6]
 have hm:=hX.mn;intro fuel
 induction fuel with
 | zero =>
  intro k listed fr J w μ a fw rq hc wx hk oM BJ yX hu hS hF Dg;have N9:∀ i,i<pis.length→iM listed i:=fun i hi=>bB fun h=>by have:=Ik hi h;omega
  have lF:∀ i,i<m→iM listed i:=fun i hi=>N9 i (by omega)
  have uy:k=ls.length:=by
   refine bB fun gv=>?_;have dc:k<ls.length:=by omega
   have:=(oM k ls[k] (ak dc)).1 (lF _ (hX.PB _ (cA dc)).1);omega
  subst uy;have e:ls[ls.length]?=none:=bl (aq _);simp only[sk,e]at yX;rw[hX.all lF]at hF
  exact xY hX hp hQ 0 m listed _ fr J w μ a (aq _) hm fw (fun i hi=>⟨fun h=>bB fun h2=>wx i (by omega) hi h,fun h=>lF i h⟩) (by
   have:=DT hm wx;omega) ht yX hS hF Dg
 | succ fuel ih =>
  intro k listed fr J w μ a fw rq hc wx hk oM BJ yX hu hS hF Dg
  by_cases lF:∀ i,i<m→iM listed i
  ·have uy:k=ls.length:=by
    refine bB fun gv=>?_;have dc:k<ls.length:=by omega
    have:=(oM k ls[k] (ak dc)).1 (lF _ (hX.PB _ (cA dc)).1);omega
   subst uy;have e:ls[ls.length]?=none:=bl (aq _);simp only[sk,e]at yX;rw[hX.all lF]at hF
   exact xY hX hp hQ _ m listed _ fr J w μ a (aq _) hm fw (fun i hi=>⟨fun h=>bB fun h2=>wx i (by omega) hi h,fun h=>lF i h⟩) (by
    have:=DT hm wx;omega) ht yX hS hF Dg
  ·refine⟨fun h=>absurd (fun i hi=>hX.first fw h i (by omega)) lF,fun i hi=>?_⟩;obtain⟨hio,Li,o,ho,_⟩:=qe fw hi;have sI:i<pis.length:=by omega
   have BL:∀ j,j<pis.length→tb bs i j=true→iM listed j:=fun j hj ht=>hX.ready hn fw hc hi hj ht
   have AL:i<m:=by
    refine bB fun h=>lF fun j hj=>?_;exact BL j (by omega) (hX.tail i j (by omega) sI (by omega))
   obtain⟨p,hpi,Mn⟩:=(l9 hp).2 i o (by simpa using ho);have mZ:dQ pis i=p:=by simp[dQ,an,hpi]
   have gW:Gh (lV pis m listed) p:=mZ▸hX.Yg hc AL Li BL
   have hclos':∀ x j,x<pis.length→j<pis.length→iM (listed.setIfInBounds i true) x→tb bs x j=true→iM (listed.setIfInBounds i true) j:=by
    intro x j hx hj hl ht;rw[dY (by omega)]at hl ⊢;rcases hl with rfl | hl
    ·exact .inr (BL j hj ht)
    ·exact .inr (hc x j hx hj hl ht)
   have htl':∀ x,m≤x→x<pis.length→¬ iM (listed.setIfInBounds i true) x:=by
    intro x hx hxn hl;rw[dY (by omega)]at hl;rcases hl with rfl | hl
    ·omega
    ·exact wx x hx hxn hl
   have hu':B4 pis.length (listed.setIfInBounds i true)≤fuel:=by
    have:=Ij sI (by omega:i<listed.size) Li;omega
   have UD:∀ x,x<m→(dQ pis x).i.cF=true→(∀ j,j<pis.length→tb bs x j=true→iM listed j)→Bg bs ls x≤k:=by
    intro x hx hs hal';refine bB fun dc=>?_;have h1:Bg bs ls x≤ls.length:=eU _ _;have h2:k<ls.length:=by omega
    have h3:=(hX.DH x k ls[k] hx hs (ak h2)).2 (by omega);have h4:=hal' ls[k] (by have:=(hX.PB _ (cA h2)).1;omega) h3;have:=(oM k ls[k] (ak h2)).1 h4;omega
   simp only[wpOp,ho]
   by_cases hs:p.i.cF=true
   ·
    have rn:(dQ pis i).i.cF=true:=by rw[mZ];exact hs
    have hf:=BJ i AL rn (UD i AL rn BL) Li;rw[mZ]at hf;refine TV Mn hS hF gW (Jw hf) ?_;intro r J' μ' a' w' k1 k2 k3 k4;simp only[St.mk.injEq]at k1;obtain⟨k1,rfl⟩:=k1;rw[k1]at k3;have e:pS (lV pis m listed) p=lV pis m (listed.setIfInBounds i true):=by rw[← mZ];exact hX.pS AL (by omega)
    rw[e]at k3;refine ih k _ fr J' w' μ' a' (by simpa using fw) (fun f hf=>(dY (by omega)).2 (.inr (rq f hf))) hclos' htl' hk (fun j L hL=>?_) (fun x hx ux UA pK=>BJ x hx ux UA fun h=>pK ((dY (by omega)).2 (.inr h))) yX hu' k2 k3 (Dg.trans k4.Ma);rw[dY (by omega),oM j L hL]
    have:L≠i:=fun e=>by
     have:=(hX.PB L (aT hL)).2;rw[e,rn]at this;simp at this
    simp[this]
   ·
    have rn:(dQ pis i).i.cF=false:=by rw[mZ];simpa using hs
    obtain⟨j,hj⟩:=eT.1 ((hX.EZ i AL rn).resolve_right fun h=>Li (rq i h))
    have Jm:j=k:=by
     have h1:¬ j<k:=fun h=>Li ((oM j i hj).2 h);refine bB fun gv=>?_;have kI:=(ab.1 hj).1;have uy:k<ls.length:=by omega
     have h2:=hX.Qu k j i ls[k] (by omega) (ak uy) hj;have h3:=BL ls[k] (by have:=(hX.PB _ (cA uy)).1;omega) h2;have:=(oM k ls[k] (ak uy)).1 h3;omega
    subst Jm;have kI:j<ls.length:=(ab.1 hj).1;simp only[sk,hj,mZ]at yX;refine ZP Mn hS hF gW yX ?_;intro r J' μ' a' w' k1 k2 k3 k4;obtain⟨UW,cT⟩:=k1;obtain⟨fr',h1,h2,h3,h4⟩:=hX.SJ (k:=j+1) (by omega) cT;have e:pS (lV pis m listed) p=lV pis m (listed.setIfInBounds i true):=by rw[← mZ];exact hX.pS AL (by omega)
    rw[e]at k3
    have jd:∀ x∈ly pis bs m ls (j+1),¬ iM (listed.setIfInBounds i true) x:=by
     intro x hx hl;rw[dp]at hx;rw[dY (by omega)]at hl;rcases hl with rfl | hl
     ·rw[rn]at hx;simp at hx
     ·have:=UD x hx.1 hx.2.1 fun y hy ht=>hc x y (by omega) hy hl ht;omega
    have zg:∀ t y,y<m→(dQ pis y).d=some t→iM (listed.setIfInBounds i true) y→fr'[t]?=(di fr p.d r)[t]?:=by
     intro t y hy hd hl;refine h3 t fun x hx Yv=>jd x hx ?_;rw[hX.dst x y t (dp.1 hx).1 hy Yv hd];exact hl
    have hF':AW w' J' μ' fr' (lV pis m (listed.setIfInBounds i true)) a':=by
     refine⟨k3.1,by rw[h4];exact k3.2.1,fun t x hx ch wz=>?_⟩
     have SU:fr'[t]?=(di fr p.d r)[t]?:=by
      rcases jR wz with⟨_,BG⟩ | ⟨y,hy,hd,hl,_⟩
      ·exact h3 t fun x hx=>BG x (dp.1 hx).1
      ·exact zg t y hy hd hl
     have y9:chainB fr' ch=chainB (di fr p.d r) ch:=by
      refine ku fun q hq=>?_;rcases jR wz with⟨rfl,_⟩ | ⟨y,hy,hd,hl,rfl⟩
      ·simp at hq
      ·obtain⟨z,hz,hzd,hzt⟩:=hX.chain y q hy hq;exact zg q.1 z hz hzd (hclos' y z (by omega) (by omega) hl hzt)
     rw[y9];rw[SU]at hx;exact k3.2.2 t x hx ch wz
    refine ih (j+1) _ fr' J' w' μ' a' (by simpa using fw) (fun f hf=>(dY (by omega)).2 (.inr (rq f hf))) hclos' htl' (by omega) (fun y L hL=>?_) (fun x hx ux UA pK=>?_) h1 hu' k2 hF' (Dg.trans k4.Ma)
    ·rw[dY (by omega),oM y L hL];constructor
     ·rintro(rfl | h)
      ·refine bB fun gv=>?_;have h5:=hX.Qu j y L L (by omega) hj hL;have:=hX.lt AL AL h5;omega
      ·omega
     ·intro h;rcases fb y j with h5 | h5
      ·exact .inr h5
      ·have:y=j:=by omega
       subst this;rw[hL]at hj;simp only[aa]at hj;exact .inl hj
    ·by_cases VX:Bg bs ls x=j+1
     ·exact h2 x (dp.2 ⟨hx,ux,VX⟩)
     ·have hxj':Bg bs ls x≤j:=by omega
      have NV:¬ iM listed x:=fun h=>pK ((dY (by omega)).2 (.inr h));have UI:¬ tb bs i x=true:=fun h=>NV (BL x (by omega) h)
      have Fu:Fact (dQ pis x) (di fr p.d r) J':=by
       by_cases hr:(dQ pis x).i.reads=true
       ·exact(UW (dQ pis x) (bH.2 ⟨x,by simp[Pc,hx,ux,hr,hxj',UI],rfl⟩)).fact
       ·have hr':(dQ pis x).i.reads=false:=by simpa using hr
        refine Fact.still (Fact.agree (BJ x hx ux hxj' NV) (fun t ht=>?_) (fun t ht=>?_) mr) hr'
        ·refine iV fun hd=>?_;have h5:=hX.ox hx AL (mZ▸hd) ht;have:=(hX.DH x j i hx ux hj).1 h5;omega
        ·refine iV fun hd=>?_;have:=hX.dst x i t hx AL ht (mZ▸hd);subst this;rw[ux]at rn;simp at rn
      refine Fact.agree Fu (fun t ht=>?_) (fun t ht=>?_) h4
      ·refine h3 t fun y hy Rc=>?_;rw[dp]at hy;have:=hX.mono x y t hx ux hy.1 hy.2.1 Rc ht;omega
      ·refine h3 t fun y hy Rc=>?_;rw[dp]at hy;have:=hX.dst x y t hx hy.1 ht Rc;subst this;omega
end
def Ql(ops:Array Oper)(pis:List Pi)(bs:List Nat)(m:Nat)(ls fl:List Nat):Bool :=
 decide (m≤pis.length) &&
 (((List.range ops.size).all fun i=>match ops[i]? with
  | some o=>o.after.toList.all fun e=>!Region.binds .any e||decide (e.on<i)
  | none=>true) &&
 (((List.range pis.length).all fun i=>(List.range pis.length).all fun j=>!tb bs i j||(decide (j<i)&&match ops[i]? with
  | some o=>o.after.toList.any fun e=>Region.binds .any e&&(e.on==j||tb bs e.on j)
  | none=>false)) &&
 (((List.range pis.length).all fun i=>decide (i<m)||(List.range i).all fun j=>tb bs i j) &&
 (((List.range m).all fun i=>(List.range i).all fun j=>match (dQ pis i).d with
  | none=>true
  | some t=>(dQ pis j).d != some t) &&
 (((List.range m).all fun i=>(dQ pis i).i.cF||(ls.contains i||fl.contains i)) &&
 ((ls.all fun L=>decide (L<m)&&!(dQ pis L).i.cF) &&
 (((List.range ls.length).all fun k=>(List.range k).all fun j=>tb bs (ls.getD k 0) (ls.getD j 0)) &&
 (((List.range m).all fun i=>!(dQ pis i).i.cF||(List.range ls.length).all fun k=>tb bs i (ls.getD k 0)==decide (k<Bg bs ls i)) &&
 (((List.range m).all fun i=>(dQ pis i).i.lS.all fun s=>(List.range m).all fun j=>(dQ pis j).d != some s.1||(tb bs i j&&(dQ pis j).g.isPrefixOf ((dQ pis i).g++s.2))) &&
 (((List.range m).all fun i=>(dQ pis i).g.all fun q=>(List.range m).any fun j=>(dQ pis j).d==some q.1&&tb bs i j) &&
 (((List.range m).all fun i=>match (dQ pis i).g.getLast? with
  | none=>true
  | some q=>(List.range m).all fun j=>(dQ pis j).d != some q.1||(dQ pis j).g==(dQ pis i).g.dropLast) &&
 ((List.range m).all fun i=>!(dQ pis i).i.cF||(List.range m).all fun j=>!(dQ pis j).i.cF||match (dQ pis j).d with
  | none=>true
  | some t=>!(looks (dQ pis i)).contains t||decide (Bg bs ls j≤Bg bs ls i)))))))))))))
section
variable {P:Program} {ops:Array Oper} {pis:List Pi} {bs:List Nat} {m:Nat} {ls fl:List Nat}
theorem Dm{ls:List Nat}{k L:Nat}(h:ls[k]?=some L):ls.getD k 0=L:=by rw[an,h];rfl
theorem Ni(h:Ql ops pis bs m ls fl=true)(_hn:pis.length=ops.size):xO ops pis bs m ls fl:=by
 simp only[Ql,aO,cK,cC,aY]at h;obtain⟨h1,h2,h3,h4,h5,h6,h7,h8,h9,Fy,xg,PN,Zn⟩:=h;constructor
 ·exact h1
 ·intro i o ho e he hb;have:=h2 i (aX.1 ho).1;rw[ho]at this;simp only[cK,da,dm,aY]at this;rcases this e (Array.mem_toList_iff.2 he)with h | h
  ·rw[hb]at h;simp at h
  ·exact h
 ·intro i j hi hj ht;have:=h3 i hi j hj;rw[ht]at this;simp only[fG,im,aO,aY]at this;refine⟨this.1,?_⟩;have h:=this.2;split at h
  ·rename_i o ho;simp only[List.any_eq_true,aO,da,bT]at h;obtain⟨e,he,hb,hor⟩:=h;exact⟨o,ho,e,Array.mem_toList_iff.1 he,hb,hor⟩
  ·simp at h
 ·intro i j YS hi hj;have:=h4 i hi;simp only[da,aY,cK,cC]at this;rcases this with h | h
  ·omega
  ·exact h j hj
 ·intro i j t hi hj PL Oo
  have key:∀ i j,i<m→j<i→(dQ pis i).d=some t→(dQ pis j).d=some t→False:=by
   intro i j hi hj PL Oo;have:=h5 i hi j hj;rw[PL]at this;simp only[lg,gm]at this;exact this Oo
  rcases Nat.lt_trichotomy i j with h | h | h
  ·exact(key j i hj h Oo PL).elim
  ·exact h
  ·exact(key i j hi h PL Oo).elim
 ·intro i hi hs;have:=h6 i hi;rw[hs]at this;simpa using this
 ·intro L hL;have:=h7 L hL;simpa using this
 ·intro j k L L' Jm hL' hL;have:=h8 k (ab.1 hL).1 j Jm
  rwa [Dm hL,Dm hL']at this
 ·intro i k L hi hs hL;have:=h9 i hi;rw[hs]at this;simp only[fG,im,cK,cC,bT]at this;have:=this k (ab.1 hL).1;rw[Dm hL]at this;rw[this];simp
 ·intro i s j hi hs hj hd;have:=Fy i hi s hs j hj;simp only[da,lg,gm,aO]at this;rcases this with h | h
  ·exact absurd hd h
  ·exact h
 ·intro i q hi hq;have:=xg i hi q hq;simp only[List.any_eq_true,cC,aO,bT]at this;obtain⟨j,hj,h⟩:=this;exact⟨j,hj,h⟩
 ·intro i ch t b j hi hg hj hd;have:=PN i hi;rw[hg]at this;simp only[pO,mV,DC,List.dropLast_concat,cK,cC,da,lg,gm,bT]at this;rcases this j hj with h | h
  ·exact absurd hd h
  ·exact h
 ·intro i j t hi hs hj V0 hd ht;have:=Zn i hi;rw[hs]at this;simp only[fG,im,cK,cC]at this;have:=this j hj;rw[V0,hd]at this;simp only[fG,im,da,dm,aY]at this;rcases this with h | h
  ·simp at h;exact absurd ht h
  ·exact h
def mX(bs:List Nat):Nat→Nat
 | 0=>0
 | i+1=>if bs.getD i 0==2^i - 1 then mX bs i else i+1
theorem tu{n B:Nat}{gs:List Nat}{K:St→Prop}{Q:Exit→Act→World→Prop}(hp:pk P ops ops.toList=some pis)(gW:Ql ops pis bs m ls []=true)
  (ht:DI (D0 pis m) (pis.drop m) gs=true) {fr:List V} {J:ae} {w0 w:World} {μ:Mem} {a:Act}
  (h:pH P (Ad pis bs m ls 0 ls) ((ly pis bs m ls ls.length).map (dQ pis)) (iW P gs (pis.drop m) K) ⟨fr,J⟩)
  (hS:fx P B w0 w J μ) (hF:FR w J μ fr a)
  (hQ:∀ st' w' μ' a',K st'→fx P B w0 w' st'.J μ'→FR w' st'.J μ' st'.fr a'→eD n w J μ w' st'.J μ'→Q .normal a' w'):wpAny P .any ops Q ops.size (Array.replicate ops.size false) a { w with drawn:=w.drawn+1 }:=by
 have hn:pis.length=ops.size:=by rw[(l9 hp).1,a6]
 have hX:=Ni gW hn;obtain⟨hS',Mh⟩:=hS.grown (w':={ w with drawn:=w.drawn+1 }) ⟨rfl,rfl,rfl,aq _,fun _ _ _=>rfl⟩;have hF':=hF.eH Mh.eH;obtain⟨fr',h1,h2,h3,h4⟩:=hX.SJ (k:=0) (dT _) (by simpa using h)
 have Jl:∀ i,¬ iM (Array.replicate ops.size false) i:=by
  intro i;simp only[iM,bh,vI];split<;>simp
 refine tz (n:=n) hX hp (fun st' w' μ' a' k1 k2 k3 k4=>hQ st' w' μ' a' k1 k2 k3 (eD.trans Mh.eH.Ma k4)) ht ops.size 0 _ fr' J _ μ a (by simp) (by simp) (fun i j _ _ hl=>absurd hl (Jl i)) (fun i _ _=>Jl i) (dT _)
  (fun j L hL=>⟨fun hl=>absurd hl (Jl L),fun h=>by omega⟩) (fun i hi hs UD _=>h2 i (dp.2 ⟨hi,hs,by omega⟩)) h1 (by rw[hn];unfold B4;exact aQ (eU _ _) (by simp)) hS' ?_ (eD.refl _ _ _ _)
 refine⟨hF'.1,by rw[h4];exact hF'.2.1,fun t x hx ch wz=>?_⟩;rcases jR wz with⟨rfl,BG⟩ | ⟨y,hy,hd,hl,_⟩
 ·rw[h3 t fun i hi=>BG i (dp.1 hi).1]at hx;exact⟨fun _=>hF'.2.2 t x hx,fun h=>by simp[chainB]at h⟩
 ·exact absurd hl (Jl y)
theorem Es{id n B:Nat}{gs:List Nat}{K:St→Prop}{Q:Exit→Act→World→Prop}(hm:P.follows .mixedOrders=true)(hp:pk P ops ops.toList=some pis)(gW:Ql ops pis bs m ls []=true)
  (ht:DI (D0 pis m) (pis.drop m) gs=true) {fr:List V} {J:ae} {w0 w:World} {μ:Mem} {a:Act}
  (h:pH P (Ad pis bs m ls 0 ls) ((ly pis bs m ls ls.length).map (dQ pis)) (iW P gs (pis.drop m) K) ⟨fr,J⟩)
  (hS:fx P B w0 w J μ) (hF:FR w J μ fr a)
  (hQ:∀ st' w' μ' a',K st'→fx P B w0 w' st'.J μ'→FR w' st'.J μ' st'.fr a'→eD n w J μ w' st'.J μ'→Q .normal a' w'):(Code.region id ops true).wp P Q a w :=
 wp_region_any hm (tu hp gW ht h hS hF hQ)
end
end Go.Pm

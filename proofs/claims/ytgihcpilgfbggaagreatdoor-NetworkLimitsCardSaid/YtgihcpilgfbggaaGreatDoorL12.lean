/- A part of the proof that for every input the law NetworkLimits returns true and leaves its argument as it was. -/
import Derived.Test.YtgihcpilgfbggaaGreatDoorL11
set_option linter.all false

namespace Go.Pm
open Go Go.RowKit
def Le(σ σ':ah):Prop:=∀ (id:Nat) (o:Ob),σ[id]?=some o→o=Ob.dead∨σ'[id]?=some o
section
variable {σ σ':ah} (h:Le σ σ')
include h
theorem Le.box{id T:Nat}{cs:List V}(e:σ[id]?=some (.box T cs)):σ'[id]?=some (.box T cs):=(h id _ e).resolve_left (by simp)
theorem Le.row{id E sz by' g:Nat}{sh:Bool}{xs:List (List V)}(e:σ[id]?=some (.row E sz by' g sh xs)):σ'[id]?=some (.row E sz by' g sh xs):=(h id _ e).resolve_left (by simp)
theorem Le.map{id K E:Nat}{es:List (V×V)}(e:σ[id]?=some (.map K E es)):σ'[id]?=some (.map K E es):=(h id _ e).resolve_left (by simp)
theorem AP{x:V}(hx:gg σ x=true):gg σ' x=true:=by
 unfold gg at hx ⊢
 repeat' split at hx
 all_goals first | (simp at hx;done) | skip
 all_goals first | (rename_i e;simp only[h.row e];exact hx) | rfl
theorem xu{x:V}(hx:fJ σ x=true):fJ σ' x=true:=by
 unfold fJ at hx ⊢;split at hx
 ·rw[bR]at hx ⊢;exact fun y hy=>AP h (hx y hy)
 ·exact AP h hx
theorem IU{sz:Nat}{x:V}{r:List (List V)}(hx:rowsOf σ sz x=some r):rowsOf σ' sz x=some r:=by
 unfold rowsOf at hx ⊢;split at hx<;>(try exact hx)<;>split at hx<;>(try (simp at hx;done))
 all_goals (rename_i e;simp only[h.row e];exact hx)
theorem Gf{kd:Nat}{m k:V}{r:Option (Nat×V)}(hx:fU σ kd m k=some r):fU σ' kd m k=some r:=by
 unfold fU at hx ⊢;split at hx<;>(try exact hx);split at hx<;>(try (simp at hx;done));rename_i e;simp only[h.map e];exact hx
theorem Ll{fr:List V}{i:I}{ob:Prop}{r:V}(he:aS fr σ i=some (ob,r))(dO:ob):∃ ob',aS fr σ' i=some (ob',r)∧ob':=by
 cases i
 case build zs parts =>
  simp only[aS]at he ⊢;split at he<;>simp only[aa,aA,reduceCtorEq]at he;obtain⟨rfl,rfl⟩:=he;rename_i e;exact⟨_,by simp only[e],fun p hp=>xu h (dO p hp)⟩
 case bQ sz szs xs =>
  simp only[aS,aa,aA]at he ⊢;obtain⟨rfl,rfl⟩:=he;exact⟨_,⟨rfl,rfl⟩,fun x hx=>xu h (dO.1 x hx),dO.2⟩
 case load k a =>
  simp only[aS]at he ⊢;split at he
  ·split at he<;>(try (simp at he;done));rename_i e;simp only[h.box e];exact⟨ob,he,dO⟩
  ·exact⟨ob,he,dO⟩
  ·split at he<;>(try (simp at he;done));rename_i e;simp only[h.row e];exact⟨ob,he,dO⟩
  ·simp at he
 case dF x =>
  simp only[aS]at he ⊢;split at he<;>(try exact⟨ob,he,dO⟩);split at he<;>(try (simp at he;done));rename_i e;simp only[h.row e];exact⟨ob,he,dO⟩
 case eG off x =>
  simp only[aS]at he ⊢;split at he<;>(try exact⟨ob,he,dO⟩);split at he<;>(try (simp at he;done));rename_i e;simp only[h.row e];exact⟨ob,he,dO⟩
 case yx x =>
  simp only[aS]at he ⊢;split at he<;>(try (simp at he;done));rename_i e;simp only[IU h e];exact⟨ob,he,dO⟩
 case look kd z ok m k =>
  simp only[aS]at he ⊢;split at he<;>(try (simp at he;done))
  all_goals (rename_i e;simp only[Gf h e];exact⟨ob,he,dO⟩)
 case zb x =>
  simp only[aS]at he ⊢;split at he<;>(try exact⟨ob,he,dO⟩);split at he<;>(try (simp at he;done));rename_i e;simp only[h.map e];exact⟨ob,he,dO⟩
 case len str x =>
  cases str
  ·simp only[aS]at he ⊢;split at he<;>(try exact⟨ob,he,dO⟩)
   all_goals
    split at he<;>(try (simp at he;done));rename_i e;simp only[h.row e];exact⟨ob,he,dO⟩
  ·exact⟨ob,he,dO⟩
 case idx sz x i =>
  simp only[aS]at he ⊢;split at he<;>(try (simp at he;done));split at he<;>(try exact⟨ob,he,dO⟩)
  all_goals
   split at he<;>(try (simp at he;done));rename_i e;simp only[h.row e];exact⟨ob,he,dO⟩
 case slice sz x lo hi =>
  by_cases hx:∃ id g,ev fr x=.own id g
  ·obtain⟨id,g,hx⟩:=hx;simp only[aS,hx]at he ⊢;cases hs:σ[id]? with
   | none=>simp[hs]at he
   | some o =>
    rcases h id o hs with rfl | h2
    ·simp[hs]at he
    ·rw[hs]at he;rw[h2];exact⟨ob,he,dO⟩
  ·have e:aS fr σ' (.slice sz x lo hi)=aS fr σ (.slice sz x lo hi):=by
    simp only[aS];cases hv:ev fr x<;>first | rfl | (exact absurd ⟨_,_,hv⟩ hx)
   rw[e];exact⟨ob,he,dO⟩
 all_goals exact⟨ob,he,dO⟩
end
theorem Fact.le{σ σ':ah}{p:Pi}{fr:List V}(hf:Fact p fr σ)(h:Le σ σ'):Fact p fr σ':=by
 obtain⟨c,h1,r,h2,h3⟩:=hf;exact⟨c,h1,r,h2,fun hc=>by obtain⟨ob,h4,h5⟩:=h3 hc;exact Ll h h4 h5⟩
theorem M6{P:Program}{B:Nat}{w0 w:World}{σ:ah}{μ:Mem}(hS:gM P B w0 w σ μ){id:Nat}(hid:σ[id]?=some .dead)(T:Nat)(cs:List V)(vs:Array Value)(h:CR w σ μ cs vs):
  ∃ μ',gM P B w0 (w.alloc (.cells vs T)) (σ.set id (.box T cs)) μ'∧VR (w.alloc (.cells vs T)) (σ.set id (.box T cs)) μ' (.ptr id 0) (.pointer (some ⟨w.heap.size,0,none⟩))∧lP w σ μ (w.alloc (.cells vs T)) (σ.set id (.box T cs)) μ':=by
 have hl:id<σ.length:=(ab.1 hid).1;have nc:(σ.set id (.box T cs))[id]?=some (.box T cs):=aq hl
 have hn:=hS.update (w':=w.alloc (.cells vs T)) (σ':=σ.set id (.box T cs)) (μ':=qH μ id (.pointer (some ⟨w.heap.size,0,none⟩))) id none (World.grownBy_alloc w _ none) (by simp) (by simp)
  (fun j hj=>aO (Kh hj)) (fun j hj=>nU μ _ _ j hj) (fun b hb=>by rw[dL]at hb;simp only[iT,aa]at hb;exact .inr (by omega))
  (fun b off v o ho js=>by rw[hid]at ho;simp only[aa]at ho;exact absurd ho.symm js)
  (fun T' cs' ho=>by rw[hid]at ho;simp at ho) (fun K E es ho=>by rw[hid]at ho;simp at ho)
  (fun E sz by' g' sh xs _ ho=>by rw[nc]at ho;simp at ho)
  (fun hp o ho=>by
   rw[nc]at ho;simp only[aa]at ho;subst ho;rw[dL];refine⟨w.heap.size,vs,rfl,hS.base,heap_alloc_new w _,h.1.symm,fun j x hx=>?_⟩;have hj:j<vs.size:=by rw[← h.1];exact(ab.1 hx).1
   exact⟨vs[j],Array.getElem?_eq_getElem hj,by have:=(h.2 j x hx).mono hp;simpa[hj]using this⟩)
 exact⟨_,hn.1,.ptr _ 0 _ ⟨T,cs,nc⟩ (dL _ _ _),hn.2⟩
theorem G0{P:Program}{ops:Array Oper}{o:Oper}{p:Pi}{d T:Nat}{zs:List V}(hc:TQ P ops o=some p)(hp:p=⟨some d,[],.alloc T zs⟩){inf:Nat→Option (List (Nat×Bool))}{B:Nat}{w0 w:World}{fr:List V}{σ:ah}{μ:Mem}{a:Act}
  (hS:gM P B w0 w σ μ) (hF:zO w σ μ fr inf a) (gC:Fg inf p) {id:Nat} (hid:σ[id]?=some .dead) {R:Act→World→Prop} {Q:Exit→Act→World→Prop}
  (hR:∀ μ' a' w',gM P B w0 w' (σ.set id (.box T zs)) μ'→zO w' (σ.set id (.box T zs)) μ' (ez fr (some d) (.ptr id 0)) (pG inf p) a'→mh w σ μ w' (σ.set id (.box T zs)) μ'→R a' w') :
  if Region.wanted o (yielded ops a.tmps)then o.wp P a w R Q∨(o.asks P a w∧LetsOut Q)else R (a.put o.dst undef) w:=by
 unfold TQ at hc;split at hc<;>simp only[aa,reduceCtorEq]at hc;rename_i g hg;rw[hp]at hc;simp only[Pi.mk.injEq]at hc;obtain⟨hd,rfl,hi⟩:=hc
 have hw:Region.wanted o (yielded ops a.tmps)=true:=by
  cases QZ:o.guard with
  | none=>simp[Region.wanted,QZ]
  | some jb =>
   obtain⟨j,b⟩:=jb;rw[QZ]at hg;simp only[tr]at hg;split at hg<;>(try simp only[reduceCtorEq]at hg);split at hg<;>simp at hg
 rw[if_pos hw];refine .inl ?_
 have lH:compile P o=some (.alloc T zs):=by
  cases Kq:compile P o with
  | none=>rw[Kq]at hi;simp at hi
  | some j=>rw[Kq]at hi;simp only[lI]at hi;rw[hi]
 have fC:∃ t z,o.op=.alloc T∧P.info? T=some t∧t.zero=some z∧iu z.cells.toList=some zs:=by
  cases ho:o.op
  case alloc T' =>
   simp only[compile,ho]at lH;split at lH<;>(try simp only[reduceCtorEq]at lH);rename_i t ht;split at lH<;>(try simp only[reduceCtorEq]at lH);rename_i z hz;simp only[ak,I.alloc.injEq]at lH;obtain⟨zs',lK,rfl,rfl⟩:=lH;exact⟨t,z,rfl,ht,hz,lK⟩
  case call c =>
   exfalso;simp only[compile,ho,km]at lH;revert lH;(repeat' split)<;>simp
  case makeFunc fn first caps =>
   exfalso;cases fn<;>simp only[compile,ho,reduceCtorEq]at lH;revert lH;split<;>simp
  case makeMap T' n =>
   exfalso;cases n<;>simp only[compile,ho,reduceCtorEq]at lH;revert lH;split<;>simp
  case slice T' x lo hi mx =>
   exfalso;cases mx<;>simp only[compile,ho,reduceCtorEq]at lH;revert lH;(repeat' split)<;>simp
  all_goals
   exfalso;simp only[compile,ho]at lH;revert lH
   (try (repeat' split))<;>simp
   all_goals (intro x _;split<;>simp)
 obtain⟨t,z,ho,ht,hz,lK⟩:=fC
 have dx:(execOp a.eval o).run P w=.ok (.value (.pointer (some ⟨w.heap.size,0,none⟩))) (w.alloc (.cells z.cells T)):=by
  simp[execOp,ho,Instr.alloc,zeroValue,typeInfo,ht,hz,newVar,newRow]
 obtain⟨μ',h1,h2,h3⟩:=M6 hS hid T _ _ (kg (w:=w) (σ:=σ) (μ:=μ) lK);unfold Oper.wp;rw[dx];simp only[Oper.upon];rw[hp]at gC;have hd':o.dst=some d:=hd;rw[hd'];have:=hF.qH (v:=.pointer (some ⟨w.heap.size,0,none⟩)) (r:=.ptr id 0) gC h3.eO (fun _ _ _ _=>h2) (fun h=>by simp[chainB]at h);rw[hp]at hR;exact hR μ' _ _ h1 this h3.eO
def G1:List Ob→(List Ob→Prop)→Prop
 | [],p=>p []
 | _::b,p=>∀ X,G1 b fun Xs=>p (X::Xs)
def iR(b:List Ob):List Ob:=b.map fun _=>.dead
theorem Iq:∀ {b:List Ob} {p:List Ob→Prop},G1 b p→∀ Xs,Xs.length=b.length→p Xs
 | [],p,h,Xs,hl=>by simp only[ai,jM]at hl;subst hl;exact h
 | _::b,p,h,Xs,hl=>by
  cases Xs with
  | nil=>simp at hl
  | cons X Xs=>exact Iq (h X) Xs (by simpa using hl)
def grown(τ:ah)(Xs:List Ob)(s:ah)(K:ah→Prop):Prop:=∃ ε,s=τ++(Xs++ε)∧K ε
def tQ(P:Program)(bx:List Ob):List (List Pi×Pi×List Pi)→List (List Pi×Pi×List Pi)→List Pi→(St→Prop)→List V→ah→ah→Prop
 | [],[],last,K,fr,τ,ε=>jv P [] last (fun st=>K ⟨st.fr,τ++(bx++ε)⟩) ⟨fr,τ++(iR bx++ε)⟩
 | [],(C8,L,chk)::ds,last,K,fr,τ,ε=>jv P [] C8 (fun st1=>gI P L (fun st2=>(∀ p∈chk,yt p st2)∧px P ds last K st2) ⟨st1.fr,τ++(bx++ε)⟩) ⟨fr,τ++(iR bx++ε)⟩
 | (C8,L,chk)::ds1,ds2,last,K,fr,τ,ε=>jv P [] C8 (fun st1=>G1 bx fun Xs=>gI P L (fun st2=>(∀ p∈chk,yt p st2)∧grown τ Xs st2.σ (tQ P bx ds1 ds2 last K st2.fr τ)) ⟨st1.fr,τ++(Xs++ε)⟩) ⟨fr,τ++(iR bx++ε)⟩
def E5(p:Pi):Ob:=match p.i with
 | .alloc T zs=>.box T zs
 | _=>.dead
def E3(pis:List Pi)(fl:List Nat):List Ob:=fl.map fun f=>E5 (eB pis f)
def rE(pis:List Pi)(fl:List Nat)(listed:Array Bool):List Ob:=fl.map fun f=>bif listed.getD f false then E5 (eB pis f)else .dead
structure XJ (pis:List Pi) (bs:List Nat) (m:Nat) (ls fl:List Nat) (k1:Nat):Prop where
 Dc:∀ f∈fl,f<m∧f ∉ ls∧∃ d T zs,eB pis f=⟨some d,[],.alloc T zs⟩
 nd:fl.Nodup
 kl:k1≤ls.length
 late:∀ (k L f:Nat),k1≤k→ls[k]?=some L→f∈fl→tb bs L f=true
section
variable {P:Program} {ops:Array Oper} {pis:List Pi} {bs:List Nat} {m:Nat} {ls fl:List Nat} {k1:Nat}
theorem Ox{listed:Array Bool}(h:∀ f∈fl,jl listed f):rE pis fl listed=E3 pis fl:=by
 refine eN fun f hf=>?_;have:listed.getD f false=true:=h f hf;rw[this];rfl
theorem Le.mid{τ a b ε:ah}(h:Le a b)(hl:a.length=b.length):Le (τ++(a++ε)) (τ++(b++ε)):=by
 intro id o ho
 by_cases h1:id<τ.length
 ·rw[az h1]at ho ⊢;exact .inr ho
 ·rw[aM (by omega)]at ho ⊢
  by_cases h2:id - τ.length<a.length
  ·rw[az h2]at ho;rw[az (by omega)];exact h _ _ ho
  ·rw[aM (by omega)]at ho;rw[aM (by omega),← hl];exact .inr ho
theorem L1(τ ε:ah)(listed:Array Bool):Le (τ++(iR (E3 pis fl)++ε)) (τ++(rE pis fl listed++ε)):=by
 refine Le.mid (fun id o ho=>?_) (by simp[iR,E3,rE]);simp only[iR,E3,rv,bg,ak]at ho;obtain⟨_,_,rfl⟩:=ho;exact .inl rfl
theorem HP(hF:XJ pis bs m ls fl k1){listed:Array Bool}{i:Nat}(hi:i<listed.size)(NP:i ∉ fl):rE pis fl (listed.setIfInBounds i true)=rE pis fl listed:=by
 refine eN fun f hf=>?_;have h2:=eH (listed:=listed) (j:=f) hi;have js:f≠i:=fun e=>NP (e▸hf);simp only[js,false_or,jl]at h2;have:(listed.setIfInBounds i true).getD f false=listed.getD f false:=by cases h3:listed.getD f false<;>simp_all
 rw[this]
theorem Ow(hF:XJ pis bs m ls fl k1){listed:Array Bool}{j f:Nat}(hi:f<listed.size)(hj:fl[j]?=some f):rE pis fl (listed.setIfInBounds f true)=(rE pis fl listed).set j (E5 (eB pis f)):=by
 refine iw fun x=>?_;have rk:j<fl.length:=(ab.1 hj).1
 by_cases hx:j=x
 ·subst hx;rw[aq (by simpa[rE]using rk)];have:(listed.setIfInBounds f true).getD f false=true:=(eH hi).2 (.inl rfl);simp only[rE,bg,hj,cg,this,cond_true]
 ·rw[aO hx];simp only[rE,bg];cases hy:fl[x]? with
  | none=>rfl
  | some y =>
   have js:y≠f:=by
    rintro rfl;exact hx ((List.getElem?_inj rk hF.nd).1 (hj.trans hy.symm))
   have h2:=eH (listed:=listed) (j:=y) hi;simp only[js,false_or,jl]at h2;have:(listed.setIfInBounds f true).getD y false=listed.getD y false:=by cases h3:listed.getD y false<;>simp_all
   simp only[cg,this]
def vH(P:Program)(pis:List Pi)(bs:List Nat)(m:Nat)(ls fl:List Nat)(k1:Nat)(Kt:St→Prop)(k:Nat)(fr:List V)(τ ε:ah):Prop :=
 match (ls.take k1)[k]? with
 | some L=>G1 (E3 pis fl) fun Xs=>gI P (eB pis L) (fun st2=>(∀ p∈(Nj pis bs m ls k L).map (eB pis),yt p st2)∧grown τ Xs st2.σ
   (tQ P (E3 pis fl) (yH pis bs m ls (k+1) ((ls.take k1).drop (k+1))) (yH pis bs m ls k1 (ls.drop k1)) ((lF pis bs m ls ls.length).map (eB pis)) Kt st2.fr τ)) ⟨fr,τ++(Xs++ε)⟩
 | none=>rO P pis bs m ls Kt k fr (τ++(E3 pis fl++ε))
theorem wz.QK(hX:wz ops pis bs m ls fl)(hF:XJ pis bs m ls fl k1){Kt:St→Prop}{k:Nat}(hk:k≤k1){fr:List V}{τ ε:ah}
  (h:tQ P (E3 pis fl) (yH pis bs m ls k ((ls.take k1).drop k)) (yH pis bs m ls k1 (ls.drop k1)) ((lF pis bs m ls ls.length).map (eB pis)) Kt fr τ ε) :
  ∃ fr',vH P pis bs m ls fl k1 Kt k fr' τ ε∧(∀ i∈lF pis bs m ls k,Fact (eB pis i) fr' (τ++(iR (E3 pis fl)++ε)))∧(∀ t,(∀ i∈lF pis bs m ls k,(eB pis i).d≠some t)→fr'[t]?=fr[t]?)∧fr'.length=fr.length:=by
 have QU:(lF pis bs m ls k).Pairwise (fun i j=>∀ t,(eB pis j).d=some t→t ∉ looks (eB pis i)∧(eB pis i).d≠some t):=by
  refine XP ?_ (List.Pairwise.filter _ aaX);intro i j hi hj eC t hd
  replace hi:=(dG (k:=k)).1 hi
  replace hj:=(dG (k:=k)).1 hj
  refine⟨fun ht=>?_,fun hd'=>?_⟩
  ·have:=hX.lt hi.1 hj.1 (hX.ot hi.1 hj.1 hd ht);omega
  ·have:=hX.dst i j t hi.1 hj.1 hd' hd;omega
 have s4:∀ i∈lF pis bs m ls k,∀ t,(eB pis i).d=some t→t ∉ looks (eB pis i):=fun i hi t hd ht=>by
  rw[dG]at hi;have:=hX.lt hi.1 hi.1 (hX.ot hi.1 hi.1 hd ht);omega
 have JK:∀ i∈lF pis bs m ls k,(eB pis i).i.cx=true:=fun i hi=>(dG.1 hi).2.1;have rG:=hF.kl;have hlen:(ls.take k1).length=k1:=by rw[ba];omega
 by_cases sk:k<k1
 ·have e:(ls.take k1).drop k=(ls.take k1)[k]::(ls.take k1).drop (k+1):=dM (by omega);rw[e]at h;simp only[yH,tQ]at h;obtain⟨fr',h1,h2,h3,h4⟩:=tP _ _ h JK QU s4;refine⟨fr',?_,h2,h3,h4⟩;simp only[vH,ao (show k<(ls.take k1).length by omega)];exact h1
 ·have hk':k=k1:=by omega
  subst hk';rw[List.drop_of_length_le (by omega)]at h;have en:(ls.take k)[k]?=none:=bo (by omega)
  by_cases hl:k<ls.length
  ·have e:ls.drop k=ls[k]::ls.drop (k+1):=dM hl;rw[e]at h;simp only[yH,tQ]at h;obtain⟨fr',h1,h2,h3,h4⟩:=tP _ _ h JK QU s4;refine⟨fr',?_,h2,h3,h4⟩;simp only[vH,en,rO,ao hl];exact h1
  ·have qR:k=ls.length:=by omega
   subst qR;rw[o8]at h;simp only[yH,tQ]at h;obtain⟨fr',h1,h2,h3,h4⟩:=tP _ _ h JK QU s4;refine⟨fr',?_,h2,h3,h4⟩;have e:ls[ls.length]?=none:=bo (aw _);simp only[vH,en,rO,e];exact h1
theorem y6(hX:wz ops pis bs m ls fl)(tF:XJ pis bs m ls fl k1)(hp:o5 P ops ops.toList=some pis){n B n0:Nat}{gs:List Nat}{w0 ws:World}{σs:ah}{μs:Mem}{K:St→Prop}{Q:Exit→Act→World→Prop}
  (hQ:∀ st w μ a,K st→gM P B w0 w st.σ μ→FR w st.σ μ st.fr a→fe n ws σs μs w st.σ μ→Q .normal a w) (ht:C9 (D0 pis m) (pis.drop m) gs=true) :
  ∀ (fuel k:Nat) (listed:Array Bool) (fr:List V) (τ ε:ah) (w:World) (μ:Mem) (a:Act),listed.size=ops.size →
   (∀ i j,i<pis.length→j<pis.length→jl listed i→tb bs i j=true→jl listed j)→(∀ i,m≤i→i<pis.length→¬ jl listed i)→k≤k1 →
   (∀ j L,ls[j]?=some L→(jl listed L↔j<k))→(∀ i,i<m→(eB pis i).i.cx=true→zZ bs ls i≤k→¬ jl listed i→Fact (eB pis i) fr (τ++(rE pis fl listed++ε))) →
   τ.length=n0→(∀ j f d,fl[j]?=some f→(eB pis f).d=some d→ez fr (some d) (.ptr (n0+j) 0)=fr) →
   vH P pis bs m ls fl k1 (jv P gs (pis.drop m) K) k fr τ ε→A3 pis.length listed≤fuel →
   gM P B w0 w (τ++(rE pis fl listed++ε)) μ→zO w (τ++(rE pis fl listed++ε)) μ fr (lV pis m listed) a→fe n ws σs μs w (τ++(rE pis fl listed++ε)) μ→wpAny P .any ops Q fuel listed a w:=by
 have hn:pis.length=ops.size:=by rw[(mg hp).1,aL]
 have hm:=hX.mn;have rG:=tF.kl;have hlen:(ls.take k1).length=k1:=by rw[ba];omega
 have done:∀ (fuel k:Nat) (listed:Array Bool) (fr:List V) (τ ε:ah) (w:World) (μ:Mem) (a:Act),listed.size=ops.size →
   (∀ i j,i<pis.length→j<pis.length→jl listed i→tb bs i j=true→jl listed j)→(∀ i,m≤i→i<pis.length→¬ jl listed i)→k=k1→(∀ f∈fl,jl listed f) →
   (∀ j L,ls[j]?=some L→(jl listed L↔j<k))→(∀ i,i<m→(eB pis i).i.cx=true→zZ bs ls i≤k→¬ jl listed i→Fact (eB pis i) fr (τ++(rE pis fl listed++ε))) →
   vH P pis bs m ls fl k1 (jv P gs (pis.drop m) K) k fr τ ε→A3 pis.length listed≤fuel →
   gM P B w0 w (τ++(rE pis fl listed++ε)) μ→zO w (τ++(rE pis fl listed++ε)) μ fr (lV pis m listed) a→fe n ws σs μs w (τ++(rE pis fl listed++ε)) μ→wpAny P .any ops Q fuel listed a w:=by
  intro fuel k listed fr τ ε w μ a fq hc vW hk vZ lC CB xS hu hS hF Gv;subst hk;have en:(ls.take k)[k]?=none:=bo (by omega);simp only[vH,en]at xS;rw[Ox vZ]at CB hS hF Gv;exact sO hX hp hQ ht fuel k listed fr _ w μ a fq vZ hc vW rG lC CB xS hu hS hF Gv
 intro fuel
 induction fuel with
 | zero =>
  intro k listed fr τ ε w μ a fq hc vW hk lC CB Px MF xS hu hS hF Gv;have Mo:∀ i,i<pis.length→jl listed i:=fun i hi=>bd fun h=>by have:=G8 hi h;omega
  have iE:∀ i,i<m→jl listed i:=fun i hi=>Mo i (by omega)
  have rG:k=k1:=by
   refine bd fun js=>?_;have eC:k<ls.length:=by omega
   have:=(lC k ls[k] (ao eC)).1 (iE _ (hX.NL _ (dj eC)).1);omega
  exact done 0 k listed fr τ ε w μ a fq hc vW rG (fun f hf=>iE f (tF.Dc f hf).1) lC CB xS hu hS hF Gv
 | succ fuel ih =>
  intro k listed fr τ ε w μ a fq hc vW hk lC CB Px MF xS hu hS hF Gv
  by_cases Ia:k=k1∧∀ f∈fl,jl listed f
  ·exact done _ k listed fr τ ε w μ a fq hc vW Ia.1 Ia.2 lC CB xS hu hS hF Gv
  have QV:¬ ∀ i,i<m→jl listed i:=by
   intro iE;refine Ia ⟨?_,fun f hf=>iE f (tF.Dc f hf).1⟩;refine bd fun js=>?_;have eC:k<ls.length:=by omega
   have:=(lC k ls[k] (ao eC)).1 (iE _ (hX.NL _ (dj eC)).1);omega
  refine⟨fun h=>absurd (fun i hi=>hX.first fq h i (by omega)) QV,fun i hi=>?_⟩;obtain⟨hio,JJ,o,ho,_⟩:=pN fq hi;have Mz:i<pis.length:=by omega
  have Ax:∀ j,j<pis.length→tb bs i j=true→jl listed j:=fun j hj ht=>hX.ready hn fq hc hi hj ht
  have zn:i<m:=by
   refine bd fun h=>QV fun j hj=>?_;exact Ax j (by omega) (hX.tail i j (by omega) Mz (by omega))
  obtain⟨p,YX,Kq⟩:=(mg hp).2 i o (by simpa using ho);have nf:eB pis i=p:=by simp[eB,List.getD_eq_getElem?_getD,YX]
  have gC:Fg (lV pis m listed) p:=nf▸hX.Wd hc zn JJ Ax
  have hclos':∀ x j,x<pis.length→j<pis.length→jl (listed.setIfInBounds i true) x→tb bs x j=true→jl (listed.setIfInBounds i true) j:=by
   intro x j hx hj hl ht;rw[eH (by omega)]at hl ⊢;rcases hl with rfl | hl
   ·exact .inr (Ax j hj ht)
   ·exact .inr (hc x j hx hj hl ht)
  have htl':∀ x,m≤x→x<pis.length→¬ jl (listed.setIfInBounds i true) x:=by
   intro x hx YD hl;rw[eH (by omega)]at hl;rcases hl with rfl | hl
   ·omega
   ·exact vW x hx YD hl
  have hu':A3 pis.length (listed.setIfInBounds i true)≤fuel:=by
   have:=G7 Mz (by omega:i<listed.size) JJ;omega
  have SM:∀ x,x<m→(eB pis x).i.cx=true→(∀ j,j<pis.length→tb bs x j=true→jl listed j)→zZ bs ls x≤k:=by
   intro x hx hs hal';refine bd fun eC=>?_;have h1:zZ bs ls x≤ls.length:=kM _ _;have h2:k<ls.length:=by omega
   have h3:=(hX.C8 x k ls[k] hx hs (ao h2)).2 (by omega);have h4:=hal' ls[k] (by have:=(hX.NL _ (dj h2)).1;omega) h3;have:=(lC k ls[k] (ao h2)).1 h4;omega
  have e:pG (lV pis m listed) p=lV pis m (listed.setIfInBounds i true):=by rw[← nf];exact hX.pG zn (by omega)
  simp only[wpOp,ho]
  by_cases hs:p.i.cx=true
  ·
   have Cz:(eB pis i).i.cx=true:=by rw[nf];exact hs
   have NP:i ∉ fl:=fun h=>by
    obtain⟨d,T,zs,h2⟩:=(tF.Dc i h).2.2;rw[h2]at Cz;simp[I.cx]at Cz
   have hf:=CB i zn Cz (SM i zn Cz Ax) JJ;rw[nf]at hf;refine RG Kq hS hF gC (Ij hf) ?_;intro r σ' μ' a' w' k1 k2 k3 k4;simp only[St.mk.injEq]at k1;obtain⟨k1,rfl⟩:=k1;rw[k1,e]at k3;have eo:=HP (pis:=pis) tF (listed:=listed) (i:=i) (by omega) NP;refine ih k _ fr τ ε w' μ' a' (by simpa using fq) hclos' htl' hk (fun j L hL=>?_) (fun x hx vw SJ wq=>?_) Px MF xS hu' (by rw[eo];exact k2) (by rw[eo];exact k3) (by rw[eo];exact Gv.trans k4.IC)
   ·rw[eH (by omega),lC j L hL]
    have:L≠i:=fun e=>by
     have:=(hX.NL L (aN hL)).2;rw[e,Cz]at this;simp at this
    simp[this]
   ·rw[eo];exact CB x hx vw SJ fun h=>wq ((eH (by omega)).2 (.inr h))
  ·have Cz:(eB pis i).i.cx=false:=by rw[nf];simpa using hs
   rcases hX.Ee i zn Cz with pC | pC
   ·
    obtain⟨j,hj⟩:=ee.1 pC;have NP:i ∉ fl:=fun h=>(tF.Dc i h).2.1 pC;have rk:j<ls.length:=(ab.1 hj).1;have Y7:¬ j<k:=fun h=>JJ ((lC j i hj).2 h)
    have NO:j=k:=by
     refine bd fun js=>?_;have rG:k<ls.length:=by omega
     have h2:=hX.OC k j i ls[k] (by omega) (ao rG) hj;have h3:=Ax ls[k] (by have:=(hX.NL _ (dj rG)).1;omega) h2;have:=(lC k ls[k] (ao rG)).1 h3;omega
    subst NO
    have Y6:j<k1:=by
     refine bd fun h=>Ia ⟨by omega,fun f hf=>?_⟩;exact Ax f (by have:=(tF.Dc f hf).1;omega) (tF.late j i f (by omega) hj hf)
    have hjt:(ls.take k1)[j]?=some i:=by rw[fT,if_pos Y6];exact hj
    simp only[vH,hjt,nf]at xS;have YU:=Iq xS (rE pis fl listed) (by simp[rE,E3]);refine XR Kq hS hF gC YU ?_;intro r σ' μ' a' w' k1 k2 k3 k4;obtain⟨S7,ε',py,dx⟩:=k1;simp only at py;subst py;obtain⟨fr',h1,h2,h3,h4⟩:=hX.QK tF (k:=j+1) (by omega) dx;rw[e]at k3;have eo:=HP (pis:=pis) tF (listed:=listed) (i:=i) (by omega) NP
    have jQ:∀ x∈lF pis bs m ls (j+1),¬ jl (listed.setIfInBounds i true) x:=by
     intro x hx hl;rw[dG]at hx;rw[eH (by omega)]at hl;rcases hl with rfl | hl
     ·rw[Cz]at hx;simp at hx
     ·have:=SM x hx.1 hx.2.1 fun y hy ht=>hc x y (by omega) hy hl ht;omega
    have xX:∀ t y,y<m→(eB pis y).d=some t→jl (listed.setIfInBounds i true) y→fr'[t]?=(ez fr p.d r)[t]?:=by
     intro t y hy hd hl;refine h3 t fun x hx Wy=>jQ x hx ?_;rw[hX.dst x y t (dG.1 hx).1 hy Wy hd];exact hl
    have hF':zO w' (τ++(rE pis fl listed++ε')) μ' fr' (lV pis m (listed.setIfInBounds i true)) a':=by
     refine⟨k3.1,by rw[h4];exact k3.2.1,fun t x hx ch vy=>?_⟩
     have NM:fr'[t]?=(ez fr p.d r)[t]?:=by
      rcases jZ vy with⟨_,rW⟩ | ⟨y,hy,hd,hl,_⟩
      ·exact h3 t fun x hx=>rW x (dG.1 hx).1
      ·exact xX t y hy hd hl
     have zt:chainB fr' ch=chainB (ez fr p.d r) ch:=by
      refine kI fun q hq=>?_;rcases jZ vy with⟨rfl,_⟩ | ⟨y,hy,hd,hl,rfl⟩
      ·simp at hq
      ·obtain⟨z,hz,YA,Yz⟩:=hX.chain y q hy hq;exact xX q.1 z hz YA (hclos' y z (by omega) (by omega) hl Yz)
     rw[zt];rw[NM]at hx;exact k3.2.2 t x hx ch vy
    refine ih (j+1) _ fr' τ ε' w' μ' a' (by simpa using fq) hclos' htl' (by omega) (fun y L hL=>?_) (fun x hx vw SJ wq=>?_) Px (fun y f d hy hd=>?_) h1 hu' (by rw[eo];exact k2) (by rw[eo];exact hF') (by rw[eo];exact Gv.trans k4.IC)
    ·rw[eH (by omega),lC y L hL];constructor
     ·rintro(rfl | h)
      ·refine bd fun js=>?_;have h5:=hX.OC j y L L (by omega) hj hL;have:=hX.lt zn zn h5;omega
      ·omega
     ·intro h;rcases fM y j with h5 | h5
      ·exact .inr h5
      ·have:y=j:=by omega
       subst this;rw[hL]at hj;simp only[aa]at hj;exact .inl hj
    ·rw[eo]
     by_cases T4:zZ bs ls x=j+1
     ·exact(h2 x (dG.2 ⟨hx,vw,T4⟩)).le (L1 τ ε' listed)
     ·have hxj':zZ bs ls x≤j:=by omega
      have Md:¬ jl listed x:=fun h=>wq ((eH (by omega)).2 (.inr h));have SU:¬ tb bs i x=true:=fun h=>Md (Ax x (by omega) h)
      have PB:Fact (eB pis x) (ez fr p.d r) (τ++(rE pis fl listed++ε')):=by
       by_cases hr:(eB pis x).i.reads=true
       ·exact(S7 (eB pis x) (dI.2 ⟨x,by simp[Nj,hx,vw,hr,hxj',SU],rfl⟩)).fact
       ·have hr':(eB pis x).i.reads=false:=by simpa using hr
        refine Fact.still (Fact.agree (CB x hx vw hxj' Md) (fun t ht=>?_) (fun t ht=>?_) mA) hr'
        ·refine jt fun hd=>?_;have h5:=hX.ot hx zn (nf▸hd) ht;have:=(hX.C8 x j i hx vw hj).1 h5;omega
        ·refine jt fun hd=>?_;have:=hX.dst x i t hx zn ht (nf▸hd);subst this;rw[vw]at Cz;simp at Cz
      refine Fact.agree PB (fun t ht=>?_) (fun t ht=>?_) h4
      ·refine h3 t fun y hy Pp=>?_;rw[dG]at hy;have:=hX.mono x y t hx vw hy.1 hy.2.1 Pp ht;omega
      ·refine h3 t fun y hy Pp=>?_;rw[dG]at hy;have:=hX.dst x y t hx hy.1 ht Pp;subst this;omega
    ·have h5:=MF y f d hy hd;have X8:=(tF.Dc f (aN hy)).1
     have h6:fr'[d]?=fr[d]?:=by
      rw[h3 d fun x hx Wy=>?_]
      ·refine jt fun hpd=>?_;have:=hX.dst f i d X8 zn hd (nf▸hpd);exact NP (this▸aN hy)
      ·have:=hX.dst f x d X8 (dG.1 hx).1 hd Wy;have h7:=(dG.1 hx).2.1;obtain⟨d',T,zs,h8⟩:=(tF.Dc f (aN hy)).2.2;rw[← this,h8]at h7;simp[I.cx]at h7
     rw[oa]at h5 ⊢;intro t ht' hl;have h7:=h5 t ht' (by rw[h4,mA]at hl;exact hl);simp only[aa]at ht';subst ht';rw[h6];exact h7
   ·
    obtain⟨j,hj⟩:=ee.1 pC;obtain⟨_,pz,d,T,zs,X7⟩:=tF.Dc i pC;rw[nf]at X7;have rk:j<fl.length:=(ab.1 hj).1
    have Y3:listed.getD i false=false:=by
     cases h:listed.getD i false with
     | false=>rfl
     | true=>exact absurd h JJ
    have hid:(τ++(rE pis fl listed++ε))[n0+j]?=some .dead:=by
     rw[aM (by omega),Px,dJ,az (by simp only[rE,ae];omega)];simp only[rE,bg,hj,cg,Y3,cond_false]
    have eb:E5 (eB pis i)=.box T zs:=by rw[nf,X7];rfl
    have eo:τ++(rE pis fl (listed.setIfInBounds i true)++ε)=(τ++(rE pis fl listed++ε)).set (n0+j) (.box T zs):=by
     rw[Ow tF (by omega) hj,eb,ed _ _ (by omega),Px,dJ,C6 _ _ (by simp only[rE,ae];omega)]
    have hdd:p.d=some d:=by rw[X7]
    have nc:=MF j i d hj (by rw[nf];exact hdd)
    have hle:Le (τ++(rE pis fl listed++ε)) ((τ++(rE pis fl listed++ε)).set (n0+j) (.box T zs)):=by
     intro id o ho
     by_cases he:n0+j=id
     ·subst he;rw[hid]at ho;simp only[aa]at ho;exact .inl ho.symm
     ·rw[aO he];exact .inr ho
    refine G0 Kq X7 hS hF gC hid ?_;intro μ' a' w' k2 k3 k4;rw[nc,e]at k3;refine ih k _ fr τ ε w' μ' a' (by simpa using fq) hclos' htl' hk (fun y L hL=>?_) (fun x hx vw SJ wq=>?_) Px MF xS hu' (by rw[eo];exact k2) (by rw[eo];exact k3) (by rw[eo];exact Gv.trans k4.IC)
    ·rw[eH (by omega),lC y L hL];have:L≠i:=fun e=>pz (e▸aN hL);simp[this]
    ·rw[eo];exact(CB x hx vw SJ fun h=>wq ((eH (by omega)).2 (.inr h))).le hle
def v8(pis:List Pi)(fl:List Nat):List (Nat×Nat×List V):=fl.map fun f=>match eB pis f with
 | ⟨some d,_,.alloc T zs⟩=>(d,T,zs)
 | _=>(0,0,[])
def E4(fls:List (Nat×Nat×List V)):List Ob:=fls.map fun x=>.box x.2.1 x.2.2
def sB:Nat→List (Nat×Nat×List V)→List V→List V
 | _,[],fr=>fr
 | n,x::r,fr=>sB (n+1) r (fr.set x.1 (.ptr n 0))
theorem rP{t:Nat}:∀ {l:List (Nat×Nat×List V)} {n:Nat} {fr:List V},(∀ x∈l,x.1≠t)→(sB n l fr)[t]?=fr[t]?
 | [],_,_,_=>rfl
 | x::l,n,fr,h=>by
  rw[sB,rP fun y hy=>h y (by simp[hy]),aO (h x (by simp))]
theorem wP:∀ {l:List (Nat×Nat×List V)} {n:Nat} {fr:List V},(sB n l fr).length=fr.length
 | [],_,_=>rfl
 | x::l,n,fr=>by rw[sB,wP];simp
theorem He:∀ {l:List (Nat×Nat×List V)} {n j:Nat} {fr:List V} {x:Nat×Nat×List V},l.Pairwise (fun a b=>a.1≠b.1)→l[j]?=some x→x.1<fr.length→(sB n l fr)[x.1]?=some (.ptr (n+j) 0)
 | [],_,_,_,_,_,h,_=>by simp at h
 | y::l,n,0,fr,x,hp,h,hl=>by
  simp only[ax,aa]at h;subst h;rw[dE]at hp;rw[sB,rP fun z hz=>Kh (hp.1 z hz),aq hl,cn]
 | y::l,n,j+1,fr,x,hp,h,hl=>by
  rw[dE]at hp;rw[sB,He (j:=j) hp.2 (by simpa using h) (by simpa using hl)];congr 2;omega
theorem gM.iR{P:Program}{B:Nat}{w0 w:World}:∀ (b:List Ob) {σ:ah} {μ:Mem},gM P B w0 w σ μ→∃ μ',gM P B w0 w (σ++Go.Pm.iR b) μ'∧lP w σ μ w (σ++Go.Pm.iR b) μ'
 | [],σ,μ,h=>⟨μ,by simpa[Go.Pm.iR]using h,by simpa[Go.Pm.iR]using lP.refl w σ μ⟩
 | _::b,σ,μ,h=>by
  obtain⟨h1,h2⟩:=h.pY (w':=w) .dead undef ⟨rfl,rfl,rfl,aw _,fun _ _ _=>rfl⟩ (by simp[iT,undef]) fun _=>trivial;obtain⟨μ',h3,h4⟩:=gM.iR b h1;have e:σ++[Ob.dead]++Go.Pm.iR b=σ++Go.Pm.iR (.dead::b):=by simp[Go.Pm.iR]
  rw[e]at h3 h4;exact⟨μ',h3,h2.trans h4⟩
def okF(pis:List Pi)(bs:List Nat)(m:Nat)(ls fl:List Nat)(k1:Nat):Bool :=
 (fl.all fun f=>decide (f<m)&&(!ls.contains f&&match eB pis f with
  | ⟨some _,[],.alloc _ _⟩=>true
  | _=>false))&&(decide fl.Nodup&&(decide (k1≤ls.length)&&(ls.drop k1).all fun L=>fl.all fun f=>tb bs L f))
theorem RH(h:okF pis bs m ls fl k1=true):XJ pis bs m ls fl k1:=by
 simp only[okF,aB,bR,decide_eq_true_eq,bU]at h;obtain⟨h1,h2,h3,h4⟩:=h;refine⟨fun f hf=>?_,h2,h3,fun k L f hk hL hf=>h4 L ?_ f hf⟩
 ·obtain⟨h5,h6,h7⟩:=h1 f hf;refine⟨h5,by simpa using h6,?_⟩;split at h7
  ·rename_i d T zs e;exact⟨d,T,zs,e⟩
  ·simp at h7
 ·refine aN (i:=k - k1) ?_;rw[dp,← hL];congr 1;omega
theorem yZ{n B:Nat}{gs:List Nat}{K:St→Prop}{Q:Exit→Act→World→Prop}(hp:o5 P ops ops.toList=some pis)(gC:Ou ops pis bs m ls fl=true)(SR:okF pis bs m ls fl k1=true)
  (ht:C9 (D0 pis m) (pis.drop m) gs=true) {fr:List V} {σ:ah} {w0 w:World} {μ:Mem} {a:Act}
  (h:tQ P (E4 (v8 pis fl)) (yH pis bs m ls 0 (ls.take k1)) (yH pis bs m ls k1 (ls.drop k1)) ((lF pis bs m ls ls.length).map (eB pis)) (jv P gs (pis.drop m) K) (sB σ.length (v8 pis fl) fr) σ [])
  (hS:gM P B w0 w σ μ) (hF:FR w σ μ fr a)
  (hQ:∀ st' w' μ' a',K st'→gM P B w0 w' st'.σ μ'→FR w' st'.σ μ' st'.fr a'→fe n w σ μ w' st'.σ μ'→Q .normal a' w'):wpAny P .any ops Q ops.size (Array.replicate ops.size false) a { w with drawn:=w.drawn+1 }:=by
 have hn:pis.length=ops.size:=by rw[(mg hp).1,aL]
 have hX:=Ls gC hn;have tF:=RH SR
 have hbx:E4 (v8 pis fl)=E3 pis fl:=by
  simp only[E4,v8,E3,rv];refine eN fun f hf=>?_;obtain⟨d,T,zs,e⟩:=(tF.Dc f hf).2.2;simp[e,E5]
 rw[hbx]at h
 have CB:∀ (j f d:Nat),fl[j]?=some f→(eB pis f).d=some d→∃ x,(v8 pis fl)[j]?=some x∧x.1=d:=by
  intro j f d hj hd;obtain⟨d',T,zs,e⟩:=(tF.Dc f (aN hj)).2.2;rw[e]at hd;simp only[aa]at hd;exact⟨(d',T,zs),by simp[v8,hj,e],hd⟩
 have hof:∀ x∈v8 pis fl,∃ f,f∈fl∧(eB pis f).d=some x.1:=by
  intro x hx;simp only[v8,dI]at hx;obtain⟨f,hf,rfl⟩:=hx;obtain⟨d,T,zs,e⟩:=(tF.Dc f hf).2.2;exact⟨f,hf,by simp[e]⟩
 have QU:(v8 pis fl).Pairwise (fun a b=>a.1≠b.1):=by
  rw[v8,List.pairwise_map];refine tF.nd.imp_of_mem ?_;intro f g hf hg js he;obtain⟨d,T,zs,e⟩:=(tF.Dc f hf).2.2;obtain⟨d',T',zs',e'⟩:=(tF.Dc g hg).2.2;simp only[e,e']at he;subst he;exact js (hX.dst f g d (tF.Dc f hf).1 (tF.Dc g hg).1 (by rw[e]) (by rw[e']))
 obtain⟨hS',EC⟩:=hS.grown (w':={ w with drawn:=w.drawn+1 }) ⟨rfl,rfl,rfl,aw _,fun _ _ _=>rfl⟩;obtain⟨μ1,hS1,WR⟩:=hS'.iR (E3 pis fl);have e0:σ++iR (E3 pis fl)=σ++(iR (E3 pis fl)++[]):=by rw[bt]
 rw[e0]at hS1 WR;have hk:=EC.eO.trans WR.eO;have hF':=hF.eO hk;obtain⟨fr',h1,h2,h3,h4⟩:=hX.QK tF (k:=0) (gF _) (by simpa using h)
 have pz:∀ i,¬ jl (Array.replicate ops.size false) i:=by
  intro i;simp only[jl,bm,uY];split<;>simp
 have eo:rE pis fl (Array.replicate ops.size false)=iR (E3 pis fl):=by
  simp only[rE,iR,E3,rv];refine eN fun f _=>?_
  have:(Array.replicate ops.size false).getD f false=false:=by
   cases hh:(Array.replicate ops.size false).getD f false with
   | false=>rfl
   | true=>exact absurd hh (pz f)
  simp[this]
 refine y6 (n:=n) hX tF hp (fun st' w' μ' a' k1 k2 k3 k4=>hQ st' w' μ' a' k1 k2 k3 (fe.trans hk.IC k4)) ht ops.size 0 _ fr' σ [] _ μ1 a (by simp) (fun i j _ _ hl=>absurd hl (pz i)) (fun i _ _=>pz i) (gF _)
  (fun j L hL=>⟨fun hl=>absurd hl (pz L),fun h=>by omega⟩) (fun i hi hs SM _=>by rw[eo];exact h2 i (dG.2 ⟨hi,hs,by omega⟩)) rfl (fun j f d hj hd=>?_) h1 (by rw[hn];unfold A3;exact bF (kM _ _) (by simp)) (by rw[eo];exact hS1) ?_ (by rw[eo];exact fe.refl _ _ _ _)
 ·have X8:=(tF.Dc f (aN hj)).1;obtain⟨x,hx,rfl⟩:=CB j f d hj hd;rw[oa];intro t ht' hl;simp only[aa]at ht';subst ht';rw[h3 x.1 fun y hy Pp=>?_]
  ·exact He QU hx (by rwa [h4,wP]at hl)
  ·have:=hX.dst f y x.1 X8 (dG.1 hy).1 hd Pp;have h7:=(dG.1 hy).2.1;obtain⟨d',T,zs,h8⟩:=(tF.Dc f (aN hj)).2.2;rw[← this,h8]at h7;simp[I.cx]at h7
 ·rw[eo];refine⟨hF'.1,by rw[h4,wP];exact hF'.2.1,fun t x hx ch vy=>?_⟩;rcases jZ vy with⟨rfl,rW⟩ | ⟨y,hy,hd,hl,_⟩
  ·rw[h3 t fun i hi=>rW i (dG.1 hi).1,rP fun y hy e=>?_]at hx
   ·exact⟨fun _=>hF'.2.2 t x hx,fun h=>by simp[chainB]at h⟩
   ·obtain⟨f,hf,hfd⟩:=hof y hy;exact rW f (tF.Dc f hf).1 (e▸hfd)
  ·exact absurd hl (pz y)
end
inductive bj where
 | skip
 | aj (gs:List Nat) (is:List Pi)
 | df (ds:List (List Pi×Pi×List Pi)) (last:List Pi) (gs:List Nat) (tail:List Pi)
 | seq (a b:bj)
 | ite (c:O) (a b:bj)
 | block (id:Nat) (c:bj)
 | loop (c:bj)
 | exit (id:Nat)
 | ret
 | both (a b:bj)
 | M1 (fls:List (Nat×Nat×List V)) (ds1 ds2:List (List Pi×Pi×List Pi)) (last:List Pi) (gs:List Nat) (tail:List Pi)
def uL(pis:List Pi):List Nat:=pis.filterMap fun p=>if p.g.isEmpty then none else p.d
def TP(P:Program)(ops:Array Oper):Option bj :=
 match o5 P ops ops.toList with
 | some pis=>if C9 [] pis (uL pis)then some (.aj (uL pis) pis)else none
 | none=>none
def tt(P:Program)(ops:Array Oper)(bs:List Nat):Option bj :=
 if P.follows .mixedOrders then match o5 P ops ops.toList with
  | some pis =>
   let m:=mX bs pis.length;let ls:=(List.range m).filter fun i=>!(eB pis i).i.cx
   if Ou ops pis bs m ls []&&C9 (D0 pis m) (pis.drop m) (uL pis)then
    some (.df (yH pis bs m ls 0 ls) ((lF pis bs m ls ls.length).map (eB pis)) (uL pis) (pis.drop m))else none
  | none=>none
 else none
def Pl:Op→Bool
 | .alloc _ | .box _ _=>true
 | _=>false
def Qu(ops:Array Oper):List Nat:=(List.range ops.size).filter fun i=>match ops[i]? with
 | some o=>Pl o.op
 | none=>false
def Ip(P:Program)(ops:Array Oper):Option bj :=
 match Qu ops with
 | [i,j]=>if i≠j∧i<ops.size∧j<ops.size∧P.follows .mixedOrders=true∧((List.range ops.size).all fun x=>x==i||(x==j||match ops[x]? with | some o=>nn o.op | none=>true))=true then
   match tt P (waitsFor ops j i) (Region.before (waitsFor ops j i)).toList,tt P (ni (waitsFor ops i j) i j) (Region.before (ni (waitsFor ops i j) i j)).toList with
   | some a,some b=>some (.both a b)
   | _,_=>none
  else none
 | _=>none
def Yy(pis:List Pi)(bs:List Nat)(m i:Nat):Bool:=match eB pis i with
 | ⟨some _,[],.alloc _ _⟩=>(List.range m).any fun j=>!(eB pis j).i.cx&&(j != i&&(!tb bs i j&&!tb bs j i))
 | _=>false
def Ye(P:Program)(ops:Array Oper)(bs:List Nat):Option bj :=
 if P.follows .mixedOrders then match o5 P ops ops.toList with
  | some pis =>
   let m:=mX bs pis.length;let fl:=(List.range m).filter (Yy pis bs m);let ls:=(List.range m).filter fun i=>!(eB pis i).i.cx&&!fl.contains i;let k1:=(ls.filter fun L=>!fl.all (tb bs L)).length
   if Ou ops pis bs m ls fl&&(okF pis bs m ls fl k1&&C9 (D0 pis m) (pis.drop m) (uL pis))then
    some (.M1 (v8 pis fl) (yH pis bs m ls 0 (ls.take k1)) (yH pis bs m ls k1 (ls.drop k1)) ((lF pis bs m ls ls.length).map (eB pis)) (uL pis) (pis.drop m))else none
  | none=>none
 else none
def Nk(P:Program)(ops:Array Oper):Option bj :=
 match tt P ops (Region.before ops).toList with
 | some c=>some c
 | none=>match Ip P ops with
  | some c=>some c
  | none=>Ye P ops (Region.before ops).toList
def fc(P:Program):Code→Option bj
 | .skip=>some .skip
 | .region _ ops false=>TP P ops
 | .region _ ops true=>Nk P ops
 | .seq a b=>match fc P a,fc P b with
  | some a,some b=>some (.seq a b)
  | _,_=>none
 | .cond c a b=>match cO c,fc P a,fc P b with
  | some c,some a,some b=>some (.ite c a b)
  | _,_,_=>none
 | .block id c=>(fc P c).map (.block id)
 | .loop c=>(fc P c).map .loop
 | .exit id=>some (.exit id)
 | .ret=>some .ret
 | _=>none
theorem ig{P:Program}{ops:Array Oper}{c:bj}(h:TP P ops=some c):∃ pis,o5 P ops ops.toList=some pis∧C9 [] pis (uL pis)=true∧c=.aj (uL pis) pis:=by
 unfold TP at h;split at h
 ·rename_i pis hp;split at h<;>simp only[aa,reduceCtorEq]at h;rename_i gC;exact⟨pis,hp,gC,h.symm⟩
 ·simp at h
theorem r8{P:Program}{ops:Array Oper}{bs:List Nat}{c:bj}(h:tt P ops bs=some c):
  P.follows .mixedOrders=true∧∃ pis m ls,o5 P ops ops.toList=some pis∧Ou ops pis bs m ls []=true∧C9 (D0 pis m) (pis.drop m) (uL pis)=true ∧
   c=.df (yH pis bs m ls 0 ls) ((lF pis bs m ls ls.length).map (eB pis)) (uL pis) (pis.drop m):=by
 unfold tt at h;split at h
 ·rename_i hm;split at h
  ·rename_i pis hp;dsimp only at h;split at h<;>simp only[aa,reduceCtorEq]at h;rename_i gC;rw[aB]at gC;exact⟨hm,pis,_,_,hp,gC.1,gC.2,h.symm⟩
  ·simp at h
 ·simp at h
theorem yv{P:Program}{ops:Array Oper}{c:bj}(h:Ip P ops=some c):∃ i j a b,i≠j∧i<ops.size∧j<ops.size∧P.follows .mixedOrders=true ∧
  (∀ x o,x≠i→x≠j→ops[x]?=some o→nn o.op=true)∧tt P (waitsFor ops j i) (Region.before (waitsFor ops j i)).toList=some a ∧
  tt P (ni (waitsFor ops i j) i j) (Region.before (ni (waitsFor ops i j) i j)).toList=some b∧c=.both a b:=by
 unfold Ip at h;split at h
 ·rename_i i j Ax;split at h
  ·rename_i hc;obtain⟨h1,h2,h3,h4,h5⟩:=hc;split at h<;>simp only[aa,reduceCtorEq]at h;rename_i a b ha hb;refine⟨i,j,a,b,h1,h2,h3,h4,fun x o sj Au ho=>?_,ha,hb,h.symm⟩;simp only[bR,cK,fN,beq_iff_eq]at h5;have:=h5 x (bS.1 ho).1;rw[ho]at this;rcases this with h | h | h
   ·exact absurd h sj
   ·exact absurd h Au
   ·exact h
  ·simp at h
 ·simp at h
theorem EZ{P:Program}{ops:Array Oper}{bs:List Nat}{c:bj}(h:Ye P ops bs=some c):
  P.follows .mixedOrders=true∧∃ pis m ls fl k1,o5 P ops ops.toList=some pis∧Ou ops pis bs m ls fl=true∧okF pis bs m ls fl k1=true∧C9 (D0 pis m) (pis.drop m) (uL pis)=true ∧
   c=.M1 (v8 pis fl) (yH pis bs m ls 0 (ls.take k1)) (yH pis bs m ls k1 (ls.drop k1)) ((lF pis bs m ls ls.length).map (eB pis)) (uL pis) (pis.drop m):=by
 unfold Ye at h;split at h
 ·rename_i hm;split at h
  ·rename_i pis hp;dsimp only at h;split at h<;>simp only[aa,reduceCtorEq]at h;rename_i gC;rw[aB,aB]at gC;exact⟨hm,pis,_,_,_,_,hp,gC.1,gC.2.1,gC.2.2,h.symm⟩
  ·simp at h
 ·simp at h
theorem gr{P:Program}{ops:Array Oper}{c:bj}(h:Nk P ops=some c):
  (∃ ds last gs tail,c=.df ds last gs tail∧tt P ops (Region.before ops).toList=some c)∨(∃ a b,c=.both a b∧Ip P ops=some c) ∨
   (∃ fls ds1 ds2 last gs tail,c=.M1 fls ds1 ds2 last gs tail∧Ye P ops (Region.before ops).toList=some c):=by
 unfold Nk at h;split at h
 ·rename_i c' hc;simp only[aa]at h;subst h;obtain⟨_,pis,m,ls,_,_,_,he⟩:=r8 hc;exact .inl ⟨_,_,_,_,he,hc⟩
 ·split at h
  ·rename_i c' hc;simp only[aa]at h;subst h;obtain⟨i,j,a,b,_,_,_,_,_,_,_,he⟩:=yv hc;exact .inr (.inl ⟨a,b,he,hc⟩)
  ·obtain⟨_,pis,m,ls,fl,k1,_,_,_,_,he⟩:=EZ h;exact .inr (.inr ⟨_,_,_,_,_,_,he,h⟩)
def bX(n:Nat)(P:Program)(c:bj)(K:Exit→St→Prop)(st:St):Prop:=∀ code,fc P code=some c→PW n P code K st
theorem bX.mono{n:Nat}{P:Program}{c:bj}{K K':Exit→St→Prop}{st:St}(h:bX n P c K st)(hk:∀ e st',K e st'→K' e st'):bX n P c K' st :=
 fun code hc=>(h code hc).mono hk
section rules
variable {n:Nat} {P:Program} {K:Exit→St→Prop} {st:St}
theorem bX.skip(h:K .normal st):bX n P .skip K st:=by
 intro code hc;cases code
 case skip=>exact PW.skip h
 all_goals first | (exfalso;revert hc;simp only[fc];try ((repeat' split)<;>simp);done) | (rename_i _ ops draw;exfalso;cases draw<;>simp only[fc]at hc<;>first | (obtain⟨_,_,_,h⟩:=ig hc;simp at h;done) | (rcases gr hc with⟨_,_,_,_,h,_⟩ | ⟨_,_,h,_⟩ | ⟨_,_,_,_,_,_,h,_⟩<;>simp at h;done))
theorem bX.aj{gs:List Nat}{is:List Pi}(h:jv P gs is (K .normal) st):bX n P (.aj gs is) K st:=by
 intro code hc;cases code
 case region id ops draw =>
  cases draw
  ·simp only[fc]at hc;obtain⟨ps,vx,gC,he⟩:=ig hc;simp only[bj.aj.injEq]at he;obtain⟨rfl,rfl⟩:=he;intro B w0 w μ a hS hF;refine wp_region ?_
   have:=wU (P:=P) (ops:=ops) (n:=n) (B:=B) (gs:=uL is) (w0:=w0) (ws:=w) (σs:=st.σ) (μs:=μ) (K:=K .normal) (Q:=aaV P n B w0 w st.σ μ K)
    (fun st' w' μ' a' h1 h2 h3 h4=>⟨st',μ',h1,h2,h3,h4⟩) ops.toList 0 is [] st.fr st.σ w μ a (fun j=>by simp) vx gC h hS hF.toI (fe.refl _ _ _ _)
   simp only[aI,List.map_id',aL]at this;exact this
  ·simp only[fc]at hc;rcases gr hc with⟨_,_,_,_,h,_⟩ | ⟨_,_,h,_⟩ | ⟨_,_,_,_,_,_,h,_⟩<;>simp at h
 all_goals first | (exfalso;revert hc;simp only[fc];try ((repeat' split)<;>simp);done)
theorem bX.df{ds:List (List Pi×Pi×List Pi)}{last:List Pi}{gs:List Nat}{tail:List Pi}(h:px P ds last (jv P gs tail (K .normal)) st):bX n P (.df ds last gs tail) K st:=by
 intro code hc;cases code
 case region id ops draw =>
  cases draw
  ·simp only[fc]at hc;obtain⟨_,_,_,h⟩:=ig hc;simp at h
  ·simp only[fc]at hc;rcases gr hc with⟨_,_,_,_,_,hc⟩ | ⟨_,_,h,_⟩ | ⟨_,_,_,_,_,_,h,_⟩
   rotate_left
   ·simp at h
   ·simp at h
   obtain⟨hm,pis,m,ls,vx,gC,vW,he⟩:=r8 hc;simp only[bj.df.injEq]at he;obtain⟨rfl,rfl,rfl,rfl⟩:=he;intro B w0 w μ a hS hF;exact DN (n:=n) hm vx gC vW h hS hF fun st' w' μ' a' h1 h2 h3 h4=>⟨st',μ',h1,h2,h3,h4⟩
 all_goals first | (exfalso;revert hc;simp only[fc];try ((repeat' split)<;>simp);done)
theorem AS{ops:Array Oper}{bs:List Nat}{c:bj}(hc:tt P ops bs=some c)(h:∃ ds last gs tail,c=.df ds last gs tail∧px P ds last (jv P gs tail (K .normal)) st)
  {B:Nat} {w0 w:World} {μ:Mem} {a:Act} (hS:gM P B w0 w st.σ μ) (hF:FR w st.σ μ st.fr a) :
  wpAny P .any ops (fun e a' w'=>∃ st' μ',K e st'∧gM P B w0 w' st'.σ μ'∧FR w' st'.σ μ' st'.fr a'∧fe n w st.σ μ w' st'.σ μ') ops.size (Array.replicate ops.size false) a { w with drawn:=w.drawn+1 }:=by
 obtain⟨hm,pis,m,ls,vx,gC,vW,rfl⟩:=r8 hc;obtain⟨ds,last,gs,tail,he,h⟩:=h;simp only[bj.df.injEq]at he;obtain⟨rfl,rfl,rfl,rfl⟩:=he;exact sG (n:=n) vx gC vW h hS hF fun st' w' μ' a' h1 h2 h3 h4=>⟨st',μ',h1,h2,h3,h4⟩
theorem bX.both{x y:bj}(h1:∃ ds last gs tail,x=.df ds last gs tail∧px P ds last (jv P gs tail (K .normal)) st)(h2:∃ ds last gs tail,y=.df ds last gs tail∧px P ds last (jv P gs tail (K .normal)) st):
  bX n P (.both x y) K st:=by
 intro code hc;cases code
 case region id ops draw =>
  cases draw
  ·simp only[fc]at hc;obtain⟨_,_,_,h⟩:=ig hc;simp at h
  ·simp only[fc]at hc;rcases gr hc with⟨_,_,_,_,h,_⟩ | ⟨a,b,h,hc⟩ | ⟨_,_,_,_,_,_,h,_⟩
   ·simp at h
   rotate_left
   ·simp at h
   obtain⟨i,j,a',b',yI,hi,hj,hm,hp,ha,hb,he⟩:=yv hc;simp only[bj.both.injEq]at he;obtain⟨rfl,rfl⟩:=he;intro B w0 w μ a hS hF;refine Bj hm yI hi hj hp ?_ ?_
   ·have:=AS (n:=n) ha h1 hS hF
    rwa [ix]at this
   ·have:=AS (n:=n) hb h2 hS hF
    rwa [wK,ix]at this
 all_goals first | (exfalso;revert hc;simp only[fc];try ((repeat' split)<;>simp);done)
theorem bX.M1{fls:List (Nat×Nat×List V)}{ds1 ds2:List (List Pi×Pi×List Pi)}{last:List Pi}{gs:List Nat}{tail:List Pi}
  (h:tQ P (E4 fls) ds1 ds2 last (jv P gs tail (K .normal)) (sB st.σ.length fls st.fr) st.σ []):bX n P (.M1 fls ds1 ds2 last gs tail) K st:=by
 intro code hc;cases code
 case region id ops draw =>
  cases draw
  ·simp only[fc]at hc;obtain⟨_,_,_,h⟩:=ig hc;simp at h
  ·simp only[fc]at hc;rcases gr hc with⟨_,_,_,_,h,_⟩ | ⟨_,_,h,_⟩ | ⟨_,_,_,_,_,_,_,hc⟩
   ·simp at h
   ·simp at h
   obtain⟨hm,pis,m,ls,fl,k1,vx,gC,SR,vW,he⟩:=EZ hc;simp only[bj.M1.injEq]at he;obtain⟨rfl,rfl,rfl,rfl,rfl,rfl⟩:=he;intro B w0 w μ a hS hF;exact wp_region_any hm (yZ (n:=n) vx gC SR vW h hS hF fun st' w' μ' a' h1 h2 h3 h4=>⟨st',μ',h1,h2,h3,h4⟩)
 all_goals first | (exfalso;revert hc;simp only[fc];try ((repeat' split)<;>simp);done)
theorem bX.ret(h:K .ret st):bX n P .ret K st:=by
 intro code hc;cases code
 case ret=>exact PW.ret h
 all_goals first | (exfalso;revert hc;simp only[fc];try ((repeat' split)<;>simp);done) | (rename_i _ ops draw;exfalso;cases draw<;>simp only[fc]at hc<;>first | (obtain⟨_,_,_,h⟩:=ig hc;simp at h;done) | (rcases gr hc with⟨_,_,_,_,h,_⟩ | ⟨_,_,h,_⟩ | ⟨_,_,_,_,_,_,h,_⟩<;>simp at h;done))
theorem bX.exit{id:Nat}(h:K (.exit id) st):bX n P (.exit id) K st:=by
 intro code hc;cases code
 case exit id'=>simp only[fc,aa,bj.exit.injEq]at hc;subst hc;exact PW.exit h
 all_goals first | (exfalso;revert hc;simp only[fc];try ((repeat' split)<;>simp);done) | (rename_i _ ops draw;exfalso;cases draw<;>simp only[fc]at hc<;>first | (obtain⟨_,_,_,h⟩:=ig hc;simp at h;done) | (rcases gr hc with⟨_,_,_,_,h,_⟩ | ⟨_,_,h,_⟩ | ⟨_,_,_,_,_,_,h,_⟩<;>simp at h;done))
def Us(n:Nat)(P:Program)(y:bj)(K:Exit→St→Prop):Exit→St→Prop
 | .normal,st=>bX n P y K st
 | e,st=>K e st
theorem bX.seq{x y:bj}(h:bX n P x (Us n P y K) st):bX n P (.seq x y) K st:=by
 intro code hc;cases code
 case seq p q =>
  simp only[fc]at hc;split at hc<;>simp only[aa,reduceCtorEq,bj.seq.injEq]at hc;rename_i p' q' hp hq;obtain⟨rfl,rfl⟩:=hc;refine PW.seq ((h p hp).mono ?_);intro e st' hK;cases e<;>first | exact hK q hq | exact hK
 all_goals first | (exfalso;revert hc;simp only[fc];try ((repeat' split)<;>simp);done) | (rename_i _ ops draw;exfalso;cases draw<;>simp only[fc]at hc<;>first | (obtain⟨_,_,_,h⟩:=ig hc;simp at h;done) | (rcases gr hc with⟨_,_,_,_,h,_⟩ | ⟨_,_,h,_⟩ | ⟨_,_,_,_,_,_,h,_⟩<;>simp at h;done))
theorem bX.block{id:Nat}{c:bj}(h:bX n P c (uU id K) st):bX n P (.block id c) K st:=by
 intro code hc;cases code
 case block id' c' =>
  simp only[fc,ak,bj.block.injEq]at hc;obtain⟨c2,vz,rfl,rfl⟩:=hc;exact PW.block (h c' vz)
 all_goals first | (exfalso;revert hc;simp only[fc];try ((repeat' split)<;>simp);done) | (rename_i _ ops draw;exfalso;cases draw<;>simp only[fc]at hc<;>first | (obtain⟨_,_,_,h⟩:=ig hc;simp at h;done) | (rcases gr hc with⟨_,_,_,_,h,_⟩ | ⟨_,_,h,_⟩ | ⟨_,_,_,_,_,_,h,_⟩<;>simp at h;done))
theorem bX.loop{c:bj}(I:St→Prop)(m:St→Nat)(h0:I st)(h:∀ st,I st→bX n P c (QO I m (m st) K) st):bX n P (.loop c) K st:=by
 intro code hc;cases code
 case loop c' =>
  simp only[fc,ak,bj.loop.injEq]at hc;obtain⟨c2,vz,rfl⟩:=hc;exact PW.loop I m h0 fun st hI=>h st hI c' vz
 all_goals first | (exfalso;revert hc;simp only[fc];try ((repeat' split)<;>simp);done) | (rename_i _ ops draw;exfalso;cases draw<;>simp only[fc]at hc<;>first | (obtain⟨_,_,_,h⟩:=ig hc;simp at h;done) | (rcases gr hc with⟨_,_,_,_,h,_⟩ | ⟨_,_,h,_⟩ | ⟨_,_,_,_,_,_,h,_⟩<;>simp at h;done))
theorem bX.ite{c:O}{x y:bj}{b:Bool}(hb:ev st.fr c=.b b)(ht:b=true→bX n P x K st)(hf:b=false→bX n P y K st):bX n P (.ite c x y) K st:=by
 intro code hc;cases code
 case cond c' p q =>
  simp only[fc]at hc;split at hc<;>simp only[aa,reduceCtorEq,bj.ite.injEq]at hc;rename_i c2 p' q' zt hp hq;obtain⟨rfl,rfl,rfl⟩:=hc;intro B w0 w μ a hS hF;have hv:=(hb▸dK hF zt).ow;cases b
  ·exact wp_cond_false hv (hf rfl q hq B w0 w μ a hS hF)
  ·exact wp_cond_true hv (ht rfl p hp B w0 w μ a hS hF)
 all_goals first | (exfalso;revert hc;simp only[fc];try ((repeat' split)<;>simp);done) | (rename_i _ ops draw;exfalso;cases draw<;>simp only[fc]at hc<;>first | (obtain⟨_,_,_,h⟩:=ig hc;simp at h;done) | (rcases gr hc with⟨_,_,_,_,h,_⟩ | ⟨_,_,h,_⟩ | ⟨_,_,_,_,_,_,h,_⟩<;>simp at h;done))
end rules
inductive V.Wf:V→Prop
 | s (l:List UInt8) (h:l.length≤maxLen):Wf (.s l)
 | sl (sz:Nat) (xs:List (List V)) (h:xs.length≤maxLen) (hr:∀ r∈xs,r.length=sz) (hx:∀ i j x,ft xs i j=some x→Wf x):Wf (.sl sz xs)
 | agg (xs:List V) (h:∀ (i:Nat) (x:V),xs[i]?=some x→Wf x):Wf (.agg xs)
 | b (x):Wf (.b x)
 | i (k n):Wf (.i k n)
 | u:Wf .u
 | nil:Wf .nil
 | lit (sz xs):Wf (.lit sz xs)
 | own (id g):Wf (.own id g)
 | sub (id g lo hi):Wf (.sub id g lo hi)
 | ptr (id off):Wf (.ptr id off)
 | ep (sz xs i off):Wf (.ep sz xs i off)
 | rp (id g i off):Wf (.rp id g i off)
 | mp (id):Wf (.mp id)
 | fE:Wf .fE
 | ie:Wf .ie
 | fn (f caps):Wf (.fn f caps)
 | gZ (xs):Wf (.gZ xs)
theorem VR.wf{w:World}{σ:ah}{μ:Mem}{x:V}{v:Value}(h:VR w σ μ x v):x.Wf:=by
 induction h with
 | u v=>exact .u
 | b x=>exact .b x
 | i k n=>exact .i k n
 | s l x hl hm=>exact .s l hm
 | nil=>exact .nil
 | zY sz=>exact .sl sz [] (by simp) (by simp) (by simp[ft])
 | sle sz a=>exact .sl sz [] (by simp) (by simp) (by simp[ft])
 | sl sz xs b o cap f hlen ku cm hc hv ih=>exact .sl sz xs (bF hlen ku) cm ih
 | Ce sz=>exact .lit sz _
 | lit sz xs b o f ku cm hc hv ih=>exact .lit sz xs
 | own id g v hid h=>exact .own id g
 | sub id g lo hi v hid h=>exact .sub id g lo hi
 | ptr id off b h hm=>exact .ptr id off
 | ep sz xs i off b o f hi cm hc hv ih=>exact .ep sz xs i off
 | rp id g i off v hid h=>exact .rp id g i off
 | mp id r h hm=>exact .mp id
 | fE=>exact .fE
 | ie=>exact .ie
 | fn f caps vs hl hv ih=>exact .fn f caps
 | agg xs vs hl hv ih=>exact .agg xs ih
 | gZ xs vs hl hv ih=>exact .gZ xs
def bG(σ:ah):Prop:=∀ (id T:Nat) (cs:List V),σ[id]?=some (.box T cs)→∀ (j:Nat) (x:V),cs[j]?=some x→x.Lt σ.length
theorem gM.closed{P:Program}{B:Nat}{w0 w:World}{σ:ah}{μ:Mem}(hS:gM P B w0 w σ μ):bG σ:=by
 intro id T cs h j x hx;obtain⟨b,vs,_,_,_,_,mq⟩:=hS.E6 h;obtain⟨u,_,hv⟩:=mq j x hx;exact hv.lt
def Wk(P:Program)(n:Nat)(xs:List V)(σ:ah)(xs':List V)(σ':ah):Prop :=
 ∀ (B:Nat) (w0 w:World) (μ:Mem) (vs:Array Value),gM P B w0 w σ μ→CR w σ μ xs vs→∃ μ',gM P B w0 w σ' μ'∧CR w σ' μ' xs' vs∧fe n w σ μ w σ' μ'
theorem Wk.refl{P:Program}{n:Nat}(xs:List V)(σ:ah):Wk P n xs σ xs σ:=fun _ _ _ μ _ h1 h2=>⟨μ,h1,h2,fe.refl _ _ _ _⟩
theorem Wk.trans{P:Program}{n:Nat}{xs:List V}{σ:ah}{xs':List V}{σ':ah}{xs'':List V}{σ'':ah}(h:Wk P n xs σ xs' σ')(k:Wk P n xs' σ' xs'' σ''):Wk P n xs σ xs'' σ'':=by
 intro B w0 w μ vs h1 h2;obtain⟨μ1,h3,h4,h5⟩:=h B w0 w μ vs h1 h2;obtain⟨μ2,h6,h7,h8⟩:=k B w0 w μ1 vs h3 h4;exact⟨μ2,h6,h7,h5.trans h8⟩
theorem bX.wk{P:Program}{n:Nat}{c:bj}{K:Exit→St→Prop}{fr fr':List V}{σ σ':ah}(h:Wk P n fr σ fr' σ')(k:bX n P c K ⟨fr',σ'⟩):bX n P c K ⟨fr,σ⟩:=by
 intro code hc B w0 w μ a hS hF;obtain⟨μ',h1,h2,h3⟩:=h B w0 w μ a.tmps hS ⟨hF.2.1.symm,hF.2.2⟩;exact wp_mono (k code hc B w0 w μ' a h1 ⟨hF.1,h2.1.symm,h2.2⟩) fun e a' w' ⟨st',μ2,h4,h5,h6,h7⟩=>⟨st',μ2,h4,h5,h6,h3.trans h7⟩
theorem PC.wk{P:Program}{f:Nat}{args args':List V}{σ σ':ah}{Q:V→ah→Prop}(h:Wk P σ.length args σ args' σ')(k:PC P f args' σ' Q):PC P f args σ Q:=by
 intro B w0 w μ vs hS hv;obtain⟨μ',h1,h2,h3⟩:=h B w0 w μ vs hS ⟨hv.1.symm,hv.2⟩;refine(k B w0 w μ' vs h1 ⟨h2.1.symm,h2.2⟩).mono ?_;rintro e w' ⟨r,v,σ2,μ2,rfl,h4,h5,h6,h7⟩;exact⟨r,v,σ2,μ2,rfl,h4,h5,h6,fun x u hx=>h7 x u (h3 x u hx hx.lt)⟩
inductive Cv:V→V→Prop
 | refl (x):Cv x x
 | forget (x):Cv x .u
 | nil (sz):Cv .nil (.sl sz [])
 | lit (sz xs):Cv (.lit sz xs) (.sl sz xs)
 | agg (xs ys:List V) (hl:ys.length=xs.length) (h:∀ (i:Nat) (x y:V),xs[i]?=some x→ys[i]?=some y→Cv x y):Cv (.agg xs) (.agg ys)
 | gZ (xs ys:List V) (hl:ys.length=xs.length) (h:∀ (i:Nat) (x y:V),xs[i]?=some x→ys[i]?=some y→Cv x y):Cv (.gZ xs) (.gZ ys)
theorem Cv.ok{w:World}{σ:ah}{μ:Mem}{x y:V}(h:Cv x y):∀ {v:Value},VR w σ μ x v→VR w σ μ y v:=by
 induction h with
 | refl x=>exact fun h=>h
 | forget x=>exact fun _=>.u _
 | nil sz=>intro v h;rw[h.lA];exact .zY _
 | lit sz xs =>
  intro v h;rcases h.ny with⟨rfl,rfl⟩ | ⟨b,o,f,rfl,hm,hr⟩
  ·exact .zY _
  ·exact .sl _ _ b o _ f (aw _) hm hr.1 hr.2.1 hr.2.2
 | agg xs ys hl hc ih =>
  intro v h;obtain⟨vs,rfl,h1,h2⟩:=h.nz;refine .agg ys vs (by rw[hl,h1]) fun i y hy=>?_;have hi:i<xs.length:=by rw[← hl];exact(ab.1 hy).1
  exact ih i xs[i] y (ao hi) hy (h2 i _ (ao hi))
 | gZ xs ys hl hc ih =>
  intro v h;obtain⟨vs,rfl,h1,h2⟩:=h.Cp;refine .gZ ys vs (by rw[hl,h1]) fun i y hy=>?_;have hi:i<xs.length:=by rw[← hl];exact(ab.1 hy).1
  exact ih i xs[i] y (ao hi) hy (h2 i _ (ao hi))
inductive nP:List V→List V→Prop
 | nil:nP [] []
 | cons {x y xs ys} (h:Cv x y) (t:nP xs ys):nP (x::xs) (y::ys)
theorem nP.at{xs ys:List V}(h:nP xs ys):ys.length=xs.length∧∀ (i:Nat) (x y:V),xs[i]?=some x→ys[i]?=some y→Cv x y:=by
 induction h with
 | nil=>simp
 | cons h t ih =>
  refine⟨by simp[ih.1],fun i x y hx hy=>?_⟩;cases i with
  | zero=>simp only[ax,aa]at hx hy;subst hx;subst hy;exact h
  | succ i=>exact ih.2 i x y (by simpa using hx) (by simpa using hy)
theorem nP.refl(xs:List V):nP xs xs:=by
 induction xs with
 | nil=>exact .nil
 | cons x xs ih=>exact .cons (.refl x) ih
theorem Cv.ng{xs ys:List V}(h:nP xs ys):Cv (.agg xs) (.agg ys):=.agg xs ys h.at.1 h.at.2
theorem Wk.ic{P:Program}{n:Nat}{xs ys:List V}{σ:ah}(h:nP xs ys):Wk P n xs σ ys σ:=by
 intro B w0 w μ vs hS hC;obtain⟨h1,h2⟩:=h.at;refine⟨μ,hS,⟨by rw[h1];exact hC.1,fun i y hy=>?_⟩,fe.refl _ _ _ _⟩;have hi:i<xs.length:=by rw[← h1];exact(ab.1 hy).1
 exact(h2 i xs[i] y (ao hi) hy).ok (hC.2 i _ (ao hi))
theorem Wk.share{P:Program}{n:Nat}{xs:List V}{σ:ah}{id E sz by' g:Nat}{sh:Bool}{rows:List (List V)}(ho:σ[id]?=some (.row E sz by' g sh rows)):Wk P n xs σ xs (σ.set id (.row E sz by' g true rows)):=by
 intro B w0 w μ vs hS hC;have eC:id<σ.length:=(ab.1 ho).1
 have Cy:=hS.update (w':=w) (σ':=σ.set id (.row E sz by' g true rows)) (μ':=μ) id none (grownBy_refl w none) (by simp) (by simp) (fun j hj=>aO (fun e=>hj e.symm)) (fun _ _=>rfl)
  (fun b hb=>.inl ⟨_,ho,by simp,hb⟩)
  (fun b off u o h1 _ h2 h3 h4=>⟨h3,fun o' h5 h6=>by
   rw[ho]at h1;simp only[aa]at h1;subst h1;simp only[aq eC,aa]at h5;subst h5;intro hw;exact h4 ⟨id,_,ho,h2,fun _=>hw rfl⟩⟩)
  (fun T cs h=>by rw[ho]at h;simp at h) (fun K E es h=>by rw[ho]at h;simp at h)
  (fun E2 sz2 by2 g2 sh2 xs2 _ h=>by
   simp only[aq eC,aa,Ob.row.injEq]at h;obtain⟨rfl,rfl,rfl,rfl,rfl,rfl⟩:=h;exact⟨g,sh,rows,ho,aw _,fun _=>⟨rfl,rfl⟩⟩)
  (fun hp o h=>by
   simp only[aq eC,aa]at h;subst h;exact(hS.obj id _ ho).eO hp.eO fun _ _=>rfl)
 exact⟨μ,Cy.1,⟨hC.1,fun i x hx=>(hC.2 i x hx).mono Cy.2⟩,Cy.2.eO.IC⟩
theorem VR.sS{P:Program}{B:Nat}{w0 w:World}{σ:ah}{μ:Mem}(hS:gM P B w0 w σ μ){id E sz by' g:Nat}{rows:List (List V)}(ho:σ[id]?=some (.row E sz by' g true rows))(lo hi:Nat)(hlh:lo≤hi)(hh:hi≤rows.length):
  VR w σ μ (.sl sz ((rows.drop lo).take (hi - lo))) (jI (μ id) lo hi sz):=by
 obtain⟨_,cm,hr⟩:=hS.rowAt ho;have hl:((rows.drop lo).take (hi - lo)).length=hi - lo:=by simp;omega
 rcases hr with⟨hm,hn⟩ | ⟨b,cap,cur,hm,_,hc,zr,_,hr⟩
 ·subst hn;simp only[ai]at hh;have h3:lo=0:=by omega
  have h4:hi=0:=by omega
  subst h3;subst h4;rw[hm];exact .zY sz
 ·rw[hm];let f:Nat→Nat→Value:=fun i j=>(w.cell? ⟨b,i*sz+j,none⟩).getD undef
  have hf:∀ i j x,ft rows i j=some x→w.cell? ⟨b,i*sz+j,none⟩=some (f i j)∧x.pure=true∧VR w σ μ x (f i j):=by
   intro i j x hx;obtain⟨h1,u,h2,h3⟩:=hr i j x hx;have:f i j=u:=by simp[f,h2]
   exact⟨by rw[this];exact h2,h1,by rw[this];exact h3⟩
  have hnw:∀ i j x,ft rows i j=some x→¬ wr σ μ b (i*sz+j):=by
   rintro i j x hx ⟨id2,o2,h1,h2,h3⟩;have hd:o2≠.dead:=by rintro rfl;exact h3
   have:=hS.sep id id2 _ o2 b ho h1 (by simp) hd (by simp[hm,iT]) h2;subst this;rw[ho]at h1;simp only[aa]at h1;subst h1;have h4:=h3 rfl;obtain⟨r,WN,SN⟩:=ib hx;have hi':i<rows.length:=(ab.1 WN).1;have hj:j<sz:=by rw[← cm r (aN WN)];exact(ab.1 SN).1
   have:(i+1)*sz≤rows.length*sz:=bl _ hi';rw[Nat.add_mul,fA]at this;omega
  have er:mY w σ μ rows sz b 0 f:=⟨cm,fun i j x hx=>⟨by rw[aI];exact(hf i j x hx).1,by rw[aI];exact hnw i j x hx,(hf i j x hx).2.1⟩,fun i j x hx=>(hf i j x hx).2.2⟩
  by_cases he:cap=lo
  ·have h3:hi - lo=0:=by omega
   simp only[jI,he,if_true,h3,sg,eU];exact .sl sz [] b 0 0 f (by simp) (by simp) (by simp) (by simp[ft]) (by simp[ft])
  ·simp only[jI,he,if_false,cg,Addr.add_lit];have h5:=er.sub lo (hi - lo);have h6:=VR.sl (w:=w) (σ:=σ) (μ:=μ) sz _ b _ (cap - lo) _ (by rw[hl];omega) (by omega) h5.1 h5.2.1 h5.2.2
   rwa [hl]at h6
theorem DD{P:Program}{B:Nat}{w0 w:World}{σ:ah}{μ:Mem}(hS:gM P B w0 w σ μ){id E sz by' g:Nat}{sh:Bool}{rows:List (List V)}(ho:σ[id]?=some (.row E sz by' g sh rows)):jI (μ id) 0 rows.length sz=μ id:=by
 rcases(hS.rowAt ho).2.2 with⟨hm,hn⟩ | ⟨b,cap,cur,hm,_⟩
 ·subst hn;rw[hm];rfl
 ·rw[hm];simp[jI,Addr.add_lit]
theorem Wk.own{P:Program}{n:Nat}{xs:List V}{σ:ah}{k id E sz by' g:Nat}{rows:List (List V)}(ho:σ[id]?=some (.row E sz by' g true rows))(hk:xs[k]?=some (.own id g)):Wk P n xs σ (xs.set k (.sl sz rows)) σ:=by
 intro B w0 w μ vs hS hC;have eC:k<xs.length:=(ab.1 hk).1;refine⟨μ,hS,⟨by simp[hC.1],fun i y hy=>?_⟩,fe.refl _ _ _ _⟩
 by_cases hi:i=k
 ·subst hi;rw[aq eC]at hy;simp only[aa]at hy;subst hy;have h1:=hC.2 i _ hk;have h2:=h1.jY ho;rw[h2];have:=VR.sS hS ho 0 rows.length (by omega) (aw _);rw[DD hS ho]at this;simpa using this
 ·rw[aO (fun e=>hi e.symm)]at hy;exact hC.2 i y hy
theorem Wk.sub{P:Program}{n:Nat}{xs:List V}{σ:ah}{k id E sz by' g lo hi:Nat}{rows:List (List V)}(ho:σ[id]?=some (.row E sz by' g true rows))(hk:xs[k]?=some (.sub id g lo hi)):Wk P n xs σ (xs.set k (.sl sz ((rows.drop lo).take (hi - lo)))) σ:=by
 intro B w0 w μ vs hS hC;have eC:k<xs.length:=(ab.1 hk).1;refine⟨μ,hS,⟨by simp[hC.1],fun i y hy=>?_⟩,fe.refl _ _ _ _⟩
 by_cases hi:i=k
 ·subst hi;rw[aq eC]at hy;simp only[aa]at hy;subst hy;obtain⟨h1,h2,h3⟩:=(hC.2 i _ hk).nw ho;rw[h3];exact VR.sS hS ho lo _ h1 h2
 ·rw[aO (fun e=>hi e.symm)]at hy;exact hC.2 i y hy
theorem Wk.iZ{P:Program}{n:Nat}{xs:List V}{σ:ah}{k E sz by':Nat}(hT:Ti P E sz by')(hk:xs[k]?=some .nil):Wk P n xs σ (xs.set k (.own σ.length 0)) (σ++[.row E sz by' 0 false []]):=by
 intro B w0 w μ vs hS hC;have eC:k<xs.length:=(ab.1 hk).1;have hn:=hS.pY (w':=w) (.row E sz by' 0 false []) (.slice none 0 0) (grownBy_refl w none) (by simp[iT]) (fun _=>⟨hT,[],World.ownsRow_nil w B E sz,by simp,by simp[ft]⟩);refine⟨_,hn.1,⟨by simp[hC.1],fun i y hy=>?_⟩,hn.2.eO.IC⟩
 by_cases hi:i=k
 ·subst hi;rw[aq eC]at hy;simp only[aa]at hy;subst hy;rw[(hC.2 i _ hk).lA];have:=VR.lM (w:=w) (σ:=σ++[.row E sz by' 0 false []]) (μ:=qH μ σ.length (.slice none 0 0)) (id:=σ.length) (E:=E) (sz:=sz) (by':=by') (g:=0) (sh:=false) (xs:=[]) (by simp)
  rwa [dL]at this
 ·rw[aO (fun e=>hi e.symm)]at hy;exact(hC.2 i y hy).mono hn.2
theorem iY{x:V}(h:x.pure=true)(m:Nat):x.Lt m:=by
 cases x<;>simp[V.pure]at h
 ·exact .b _
 ·exact .i _ _
 ·exact .s _
 ·exact .sl _ _
theorem VR.take{w:World}{σ:ah}{μ:Mem}{x:V}{v:Value}(h:VR w σ μ x v){m:Nat}(hm:m≤σ.length)(hx:x.Lt m):VR w (σ.take m) μ x v:=by
 have hw:∀ b off,wr (σ.take m) μ b off→wr σ μ b off:=by
  rintro b off ⟨id,o,h1,h2,h3⟩;refine⟨id,o,?_,h2,h3⟩;rw[fT]at h1;split at h1
  ·exact h1
  ·simp at h1
 have er:∀ {id:Nat} {o:Ob},id<m→((σ.take m)[id]?=some o↔σ[id]?=some o):=fun h=>by rw[bn h]
 have hlen:(σ.take m).length=m:=by simp;omega
 induction h with
 | u v=>exact .u v
 | b x=>exact .b x
 | i k n=>exact .i k n
 | s l x hl hm=>exact .s l x hl hm
 | nil=>exact .nil
 | zY sz=>exact .zY sz
 | sle sz a=>exact .sle sz a
 | sl sz xs b o cap f hlen ku cm hc hv ih =>
  exact .sl sz xs b o cap f hlen ku cm (fun i j x hx=>⟨(hc i j x hx).1,fun h=>(hc i j x hx).2.1 (hw _ _ h),(hc i j x hx).2.2⟩) (fun i j x hx=>ih i j x hx (iY (hc i j x hx).2.2 m))
 | Ce sz=>exact .Ce sz
 | lit sz xs b o f ku cm hc hv ih =>
  exact .lit sz xs b o f ku cm (fun i j x hx=>⟨(hc i j x hx).1,fun h=>(hc i j x hx).2.1 (hw _ _ h),(hc i j x hx).2.2⟩) (fun i j x hx=>ih i j x hx (iY (hc i j x hx).2.2 m))
 | own id g v hid h =>
  cases hx with
  | own _ _ hl=>exact .own id g v (by rw[hlen];exact hl) fun E sz by' g' sh xs ho=>h E sz by' g' sh xs ((er hl).1 ho)
 | sub id g lo hi v hid h =>
  cases hx with
  | sub _ _ _ _ hl=>exact .sub id g lo hi v (by rw[hlen];exact hl) fun E sz by' g' sh xs ho=>h E sz by' g' sh xs ((er hl).1 ho)
 | ptr id off b h hm =>
  cases hx with
  | ptr _ _ hl =>
   obtain⟨T,cs,h1⟩:=h;exact .ptr id off b ⟨T,cs,(er hl).2 h1⟩ hm
 | ep sz xs i off b o f hi cm hc hv ih =>
  exact .ep sz xs i off b o f hi cm (fun j x hx=>⟨(hc j x hx).1,fun h=>(hc j x hx).2.1 (hw _ _ h),(hc j x hx).2.2⟩) (fun j x hx=>ih j x hx (iY (hc j x hx).2.2 m))
 | rp id g i off v hid h =>
  cases hx with
  | rp _ _ _ _ hl=>exact .rp id g i off v (by rw[hlen];exact hl) fun E sz by' g' sh xs ho=>h E sz by' g' sh xs ((er hl).1 ho)
 | mp id r h hm =>
  cases hx with
  | mp _ hl =>
   obtain⟨K,E,es,h1⟩:=h;exact .mp id r ⟨K,E,es,(er hl).2 h1⟩ hm
 | fE=>exact .fE
 | ie=>exact .ie
 | fn f caps vs hl hv ih =>
  cases hx with
  | fn _ _ h=>exact .fn f caps vs hl fun i x hx=>ih i x hx (h i x hx)
 | agg xs vs hl hv ih =>
  cases hx with
  | agg _ h=>exact .agg xs vs hl fun i x hx=>ih i x hx (h i x hx)
 | gZ xs vs hl hv ih =>
  cases hx with
  | gZ _ h=>exact .gZ xs vs hl fun i x hx=>ih i x hx (h i x hx)
theorem qP{x:V}(h:x.mG=true)(m:Nat):x.Lt m:=by
 cases x<;>simp[V.mG]at h
 ·exact .b _
 ·exact .i _ _
 ·exact .s _
 ·rename_i xs;refine .agg _ fun i x hx=>?_;have:=h x (aN hx);cases x<;>simp[V.Uy]at this
  ·exact .b _
  ·exact .i _ _
  ·exact .s _
theorem qO{x:V}(h:x.vS=true)(m:Nat):x.Lt m:=by
 by_cases ha:∃ xs,x=.agg xs
 ·obtain⟨xs,rfl⟩:=ha;simp only[V.vS,bR]at h;exact .agg _ fun i x hx=>iY (h x (aN hx)) m
 ·refine iY ?_ m;cases x<;>first | exact h | exact absurd ⟨_,rfl⟩ ha
theorem Wk.drop{P:Program}{n m:Nat}{xs:List V}{σ:ah}(WT:n≤m)(hm:m≤σ.length)(hx:∀ (i:Nat) (x:V),xs[i]?=some x→x.Lt m)(aU:∀ (id T:Nat) (cs:List V),id<m→σ[id]?=some (.box T cs)→∀ (j:Nat) (x:V),cs[j]?=some x→x.Lt m):Wk P n xs σ xs (σ.take m):=by
 intro B w0 w μ vs hS hC
 have er:∀ {id:Nat} {o:Ob},(σ.take m)[id]?=some o→id<m∧σ[id]?=some o:=by
  intro id o h;rw[fT]at h;split at h
  ·exact⟨by assumption,h⟩
  ·simp at h
 refine⟨μ,⟨hS.below,hS.base,fun id o ho=>?_,fun i j oi oj b hi hj h1 h2 h3 h4=>hS.sep i j oi oj b (er hi).2 (er hj).2 h1 h2 h3 h4⟩,⟨hC.1,fun i x hx'=>(hC.2 i x hx').take hm (hx i x hx')⟩,fun x v hv hl=>hv.take hm (hl.mono WT)⟩;obtain⟨hid,ho'⟩:=er ho;have dO:=hS.obj id o ho';cases o with
 | dead=>trivial
 | box T cs =>
  obtain⟨b,us,h1,h2,h3,h4,h5⟩:=dO;exact⟨b,us,h1,h2,h3,h4,fun j x hj=>let ⟨u,h6,h7⟩:=h5 j x hj;⟨u,h6,h7.take hm (aU id T cs hid ho' j x hj)⟩⟩
 | row E sz by' g sh rows =>
  obtain⟨h1,vals,h2,h3⟩:=dO;exact⟨h1,vals,h2,h3.1,fun i j x hj=>let ⟨h4,u,h5,h6⟩:=h3.2 i j x hj;⟨h4,u,h5,h6.take hm (iY h4 m)⟩⟩
 | map K E es =>
  obtain⟨r,ents,clock,h1,h2,h3,h4⟩:=dO;exact⟨r,ents,clock,h1,h2,h3,h4.1,fun i k x hi=>let ⟨h5,h6,e,h7,h8,h9⟩:=h4.2.1 i k x hi;⟨h5,h6,e,h7,h8.take hm (qP h5 m),h9.take hm (qO h6 m)⟩,h4.2.2⟩
theorem Wk.vC{P:Program}{n:Nat}{xs:List V}{σ loc:ah}(hn:n≤σ.length)(aU:bG σ)(hx:∀ (i:Nat) (x:V),xs[i]?=some x→x.Lt σ.length):Wk P n xs (σ++loc) xs σ:=by
 have:=Wk.drop (P:=P) (n:=n) (m:=σ.length) (xs:=xs) (σ:=σ++loc) hn (by simp) hx (fun id T cs hid h j x hj=>aU id T cs (by rwa [az hid]at h) j x hj);simpa using this
inductive Rs where
 | t (n:Nat)
 | c (n:Nat) (k:Option Nat)
structure bM where
 nt:Nat
 rs:List Rs
 c:bj
def Q7(P:Program):List ResultVar→Option (List Rs)
 | []=>some []
 | .tmp t::r=>(Q7 P r).map (.t t::·)
 | .cell t T::r=>match gK P T,P.info? T,Q7 P r with
  | some true,some ti,some rs=>some (.c t (some ti.size)::rs)
  | some false,some _,some rs=>some (.c t none::rs)
  | _,_,_=>none
def bL(P:Program)(fn:Func):Option bM :=
 match fn.body with
 | some code=>match fc P code,Q7 P fn.results.toList with
  | some c,some rs=>some ⟨fn.ntmps,rs,c⟩
  | _,_=>none
 | none=>none
def tV(st:St):Rs→Option V
 | .t n=>some (st.fr.getD n .u)
 | .c n k=>match st.fr.getD n .u with
  | .ptr id off=>match st.σ[id]? with
   | some (.box _ cs)=>match k with
    | none=>cs[off]?
    | some m=>if off+m≤cs.length then some (.agg ((cs.drop off).take m))else none
   | _=>none
  | _=>none
def kh(st:St):List Rs→Option (List V)
 | []=>some []
 | r::rs=>match tV st r,kh st rs with
  | some x,some xs=>some (x::xs)
  | _,_=>none
def one:List V→V
 | [x]=>x
 | xs=>.gZ xs
def wW(P:Program)(n:Nat)(rs:List Rs)(Q:V→ah→Prop)(e:Exit)(st:St):Prop :=
 (e=.normal∨e=.ret)∧∃ xs,kh st rs=some xs∧∃ r σ',Wk P n [one xs] st.σ [r] σ'∧Q r σ'
def FV(tmps:Array Value):ResultVar→Sem Value
 | .tmp t=>pure (tmps.getD t undef)
 | .cell a t=>do loadVar t (← asAddr (tmps.getD a undef))
theorem FT(fn:Func)(tmps:Array Value):results fn tmps=(do let vs ← fn.results.mapM (FV tmps);pure (if h:vs.size=1 then vs[0]else .tuple vs)):=rfl
theorem u4{P:Program}{B:Nat}{w0 w:World}{st:St}{μ:Mem}{a:Act}(hS:gM P B w0 w st.σ μ)(hF:FR w st.σ μ st.fr a):∀ (l:List ResultVar) (rs:List Rs) (xs:List V),Q7 P l=some rs→kh st rs=some xs →
  ∃ vs:List Value,(l.mapM (FV a.tmps)).run P w=.ok vs w∧vs.length=xs.length∧∀ (i:Nat) (x:V),xs[i]?=some x→VR w st.σ μ x (vs.getD i undef)
 | [],rs,xs,hc,hx=>by
  simp only[Q7,aa]at hc;subst hc;simp only[kh,aa]at hx;subst hx;exact⟨[],by simp,rfl,by simp⟩
 | r::l,rs,xs,hc,hx=>by
  have key:∃ r' rs',rs=r'::rs'∧Q7 P l=some rs'∧∀ x,tV st r'=some x→∃ v,(FV a.tmps r).run P w=.ok v w∧VR w st.σ μ x v:=by
   cases r with
   | tmp t =>
    simp only[Q7,ak]at hc;obtain⟨rs',h1,rfl⟩:=hc;refine⟨.t t,rs',rfl,h1,fun x h=>⟨_,rfl,?_⟩⟩;simp only[tV,aa]at h;subst h;exact hF.at t
   | cell t T =>
    simp only[Q7]at hc
    have inner:∀ (g:Bool) (ti:TypeInfo),gK P T=some g→P.info? T=some ti→∀ x,tV st (.c t (if g then some ti.size else none))=some x→∃ v,(do loadVar T (← asAddr (a.tmps.getD t undef)):Sem Value).run P w=.ok v w∧VR w st.σ μ x v:=by
     intro g ti hg WA x h;simp only[tV]at h;split at h
     ·rename_i id off hp;have h1:=hp▸hF.at t;obtain⟨b,hm,hv,_⟩:=h1.oT;split at h
      ·rename_i T' cs hb;obtain⟨b',vs,hm',hB,hh,fq,mq⟩:=hS.E6 hb;rw[hm]at hm';simp only[Value.pointer.injEq,aa,Addr.mk.injEq,and_true]at hm';subst hm';have hl:=Eg (P:=P) (σ:=st.σ) (μ:=μ) (row:=cs) (k:=if g then some ti.size else none) (b:=b) (off:=off) WA (Eu hg) off (fun j z hz=>mq _ z hz)
       have he:(do loadVar T (← asAddr (a.tmps.getD t undef)):Sem Value).run P w=(Instr.loadAt T (.pointer (some ⟨b,off,none⟩))).run P w:=by
        rw[hv];rfl
       rw[he];cases g
       ·simp only[aF,if_false]at h hl;exact hl.1 trivial x h
       ·simp only[if_true]at h hl;split at h<;>simp only[aa,reduceCtorEq]at h;rename_i hle;subst h;exact hl.2 _ rfl hle
      ·simp at h
     ·simp at h
    split at hc<;>simp only[aa,reduceCtorEq]at hc
    ·rename_i ti rs' hg WA h1;exact⟨_,rs',hc.symm,h1,fun x h=>inner true ti hg WA x h⟩
    ·rename_i ti rs' hg WA h1;exact⟨_,rs',hc.symm,h1,fun x h=>inner false ti hg WA x h⟩
  obtain⟨r',rs',rfl,h1,h2⟩:=key;simp only[kh]at hx;split at hx<;>simp only[aa,reduceCtorEq]at hx;rename_i x ys sj wo;subst hx;obtain⟨v,h3,h4⟩:=h2 x sj;obtain⟨vs,h5,h6,h7⟩:=u4 hS hF l rs' ys h1 wo;refine⟨v::vs,?_,by simp[h6],fun i y hy=>?_⟩
  ·simp only[List.mapM_cons,Sem.run_bind,h3,Result.andThen_ok,h5,Sem.run_pure]
  ·cases i with
   | zero=>simp only[ax,aa]at hy;subst hy;simpa using h4
   | succ i=>simpa using h7 i y (by simpa using hy)
theorem PC.intro{P:Program}{f:Nat}{fn:Func}{pf:bM}{args:List V}{σ:ah}{Q:V→ah→Prop}(hf:P.funcs[f]?=some fn)(hc:bL P fn=some pf)
  (h:bG σ→(∀ (i:Nat) (x:V),args[i]?=some x→x.Wf∧x.Lt σ.length)→bX σ.length P pf.c (wW P σ.length pf.rs Q) ⟨args++List.replicate (pf.nt - args.length) .u,σ⟩):PC P f args σ Q:=by
 unfold bL at hc;split at hc
 ·rename_i code hb;split at hc<;>simp only[aa,reduceCtorEq]at hc;rename_i c rs zt H6;subst hc;intro B w0 w μ vs hS hv;refine calls_of_wp hf hb ?_
  have hF:FR w σ μ (args++List.replicate (fn.ntmps - args.length) .u) { tmps:=vs++Array.replicate (fn.ntmps - vs.size) undef,defers:=[] }:=by
   refine⟨rfl,by simp[hv.1],fun i x hx=>?_⟩
   by_cases hi:i<args.length
   ·rw[az hi]at hx;have h1:=hv.2 i x hx;have zo:i<vs.size:=by rw[hv.1];exact hi
    have e:(vs++Array.replicate (fn.ntmps - vs.size) undef).getD i undef=vs.getD i undef:=by
     simp only[bm,lr zo]
    simp only[e];exact h1
   ·rw[aM (by omega)]at hx
    have:x=.u:=by
     have:=(ab.1 hx).2;simpa using this.symm
    subst this;exact .u _
  refine wp_mono (h hS.closed (fun i x hx=>⟨(hv.2 i x hx).wf,(hv.2 i x hx).lt⟩) code zt B w0 w μ _ hS hF) ?_;rintro e a' w' ⟨st',μ',hK,hS',hF',hk⟩;obtain⟨he,xs,vw,r,σ',hw,hQ⟩:=hK;obtain⟨us,h1,h2,h3⟩:=u4 hS' hF' fn.results.toList rs xs H6 vw
  have YT:∃ v,(results fn a'.tmps).run P w'=.ok v w'∧VR w' st'.σ μ' (one xs) v:=by
   have hr:(results fn a'.tmps).run P w'=.ok (if h:us.toArray.size=1 then us.toArray[0]else .tuple us.toArray) w':=by
    rw[FT,Array.mapM_eq_mapM_toList];simp only[Sem.run_bind,Sem.run_map,h1,Result.andThen_ok,Sem.run_pure]
   refine⟨_,hr,?_⟩
   match xs,us,h2,h3 with
   | [x],[u],_,h3=>have:=h3 0 x rfl;exact this
   | [],[],_,_=>exact .gZ [] #[] rfl (by simp)
   | x::y::xs,u::v::us,h2,h3 =>
    have js:¬ ((u::v::us).toArray.size=1):=by simp
    rw[dif_neg js]
    exact .gZ _ _ (by simpa using h2.symm) fun i z hz=>by
     have:=h3 i z hz;simpa[List.getD_eq_getElem?_getD]using this
  obtain⟨v,hr,hv'⟩:=YT
  obtain⟨μ2,h4,h5,h6⟩:=hw B w0 w' μ' #[v] hS' ⟨rfl,fun i x hx=>by
   cases i with
   | zero=>simp only[ax,aa]at hx;subst hx;simpa using hv'
   | succ i=>simp at hx⟩
  have MC:∃ r v_1 σ' μ',Ending.returned v=.returned v_1∧Q r σ'∧gM P B w0 w' σ' μ'∧VR w' σ' μ' r v_1∧mh w σ μ w' σ' μ' :=
   ⟨r,v,σ',μ2,rfl,hQ,h4,by have:=h5.2 0 r rfl;simpa using this,fun x u hx=>h6 x u (hk x u hx hx.lt) hx.lt⟩
  rcases he with rfl | rfl
  ·exact⟨hF'.1,v,hr,MC⟩
  ·exact⟨hF'.1,v,hr,MC⟩
 ·simp at hc
end Go.Pm

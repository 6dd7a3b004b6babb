/- A part of the proof of the statement of the last text of this claim; its conditions stand there. -/
import Derived.Test.YtkkjfegefckehaaGreatDoorB10
set_option linter.all false

namespace Go.Pm
open Go Go.RowKit
def Le(σ σ':ag):Prop:=∀ (id:Nat) (o:Ob),σ[id]?=some o→o=Ob.dead∨σ'[id]?=some o
section
variable {σ σ':ag} (h:Le σ σ')
include h
theorem Le.box{id T:Nat}{cs:List V}(e:σ[id]?=some (.box T cs)):σ'[id]?=some (.box T cs):=(h id _ e).resolve_left (by simp)
theorem Le.row{id E sz by' g:Nat}{sh:Bool}{xs:List (List V)}(e:σ[id]?=some (.row E sz by' g sh xs)):σ'[id]?=some (.row E sz by' g sh xs):=(h id _ e).resolve_left (by simp)
theorem Le.map{id K E:Nat}{es:List (V×V)}(e:σ[id]?=some (.map K E es)):σ'[id]?=some (.map K E es):=(h id _ e).resolve_left (by simp)
theorem Gm{x:V}(hx:jv σ x=true):jv σ' x=true:=by
 unfold jv at hx ⊢
 repeat' split at hx
 all_goals first | (simp at hx;done) | skip
 all_goals first | (rename_i e;simp only[h.row e];exact hx) | rfl
theorem Dc{x:V}(hx:hY σ x=true):hY σ' x=true:=by
 unfold hY at hx ⊢;split at hx
 ·rw[bI]at hx ⊢;exact fun y hy=>Gm h (hx y hy)
 ·exact Gm h hx
theorem Pd{sz:Nat}{x:V}{r:List (List V)}(hx:rowsOf σ sz x=some r):rowsOf σ' sz x=some r:=by
 unfold rowsOf at hx ⊢;split at hx<;>(try exact hx)<;>split at hx<;>(try (simp at hx;done))
 all_goals (rename_i e;simp only[h.row e];exact hx)
theorem Mt{kd:Nat}{m k:V}{r:Option (Nat×V)}(hx:iD σ kd m k=some r):iD σ' kd m k=some r:=by
 unfold iD at hx ⊢;split at hx<;>(try exact hx);split at hx<;>(try (simp at hx;done));rename_i e;simp only[h.map e];exact hx
theorem Sa{fr:List V}{i:I}{ob:Prop}{r:V}(he:bm fr σ i=some (ob,r))(ff:ob):∃ ob',bm fr σ' i=some (ob',r)∧ob':=by
 cases i
 case build zs parts =>
  simp only[bm]at he ⊢;split at he<;>simp only[aa,aI,reduceCtorEq]at he;obtain⟨rfl,rfl⟩:=he;rename_i e;exact⟨_,by simp only[e],fun p hp=>Dc h (ff p hp)⟩
 case dj sz szs xs =>
  simp only[bm,aa,aI]at he ⊢;obtain⟨rfl,rfl⟩:=he;exact⟨_,⟨rfl,rfl⟩,fun x hx=>Dc h (ff.1 x hx),ff.2⟩
 case load k a =>
  simp only[bm]at he ⊢;split at he
  ·split at he<;>(try (simp at he;done));rename_i e;simp only[h.box e];exact⟨ob,he,ff⟩
  ·exact⟨ob,he,ff⟩
  ·split at he<;>(try (simp at he;done));rename_i e;simp only[h.row e];exact⟨ob,he,ff⟩
  ·simp at he
 case lF x =>
  simp only[bm]at he ⊢;split at he<;>(try exact⟨ob,he,ff⟩);split at he<;>(try (simp at he;done));rename_i e;simp only[h.row e];exact⟨ob,he,ff⟩
 case tE off x =>
  simp only[bm]at he ⊢;split at he<;>(try exact⟨ob,he,ff⟩);split at he<;>(try (simp at he;done));rename_i e;simp only[h.row e];exact⟨ob,he,ff⟩
 case ON x =>
  simp only[bm]at he ⊢;split at he<;>(try (simp at he;done));rename_i e;simp only[Pd h e];exact⟨ob,he,ff⟩
 case look kd z ok m k =>
  simp only[bm]at he ⊢;split at he<;>(try (simp at he;done))
  all_goals (rename_i e;simp only[Mt h e];exact⟨ob,he,ff⟩)
 case ET x =>
  simp only[bm]at he ⊢;split at he<;>(try exact⟨ob,he,ff⟩);split at he<;>(try (simp at he;done));rename_i e;simp only[h.map e];exact⟨ob,he,ff⟩
 case len str x =>
  cases str
  ·simp only[bm]at he ⊢;split at he<;>(try exact⟨ob,he,ff⟩)
   all_goals
    split at he<;>(try (simp at he;done));rename_i e;simp only[h.row e];exact⟨ob,he,ff⟩
  ·exact⟨ob,he,ff⟩
 case idx sz x i =>
  simp only[bm]at he ⊢;split at he<;>(try (simp at he;done));split at he<;>(try exact⟨ob,he,ff⟩);split at he<;>(try (simp at he;done));rename_i e;simp only[h.row e];exact⟨ob,he,ff⟩
 case slice sz x lo hi =>
  by_cases hx:∃ id g,ev fr x=.own id g
  ·obtain⟨id,g,hx⟩:=hx;simp only[bm,hx]at he ⊢;cases hs:σ[id]? with
   | none=>simp[hs]at he
   | some o =>
    rcases h id o hs with rfl | h2
    ·simp[hs]at he
    ·rw[hs]at he;rw[h2];exact⟨ob,he,ff⟩
  ·have e:bm fr σ' (.slice sz x lo hi)=bm fr σ (.slice sz x lo hi):=by
    simp only[bm];cases hv:ev fr x<;>first | rfl | (exact absurd ⟨_,_,hv⟩ hx)
   rw[e];exact⟨ob,he,ff⟩
 all_goals exact⟨ob,he,ff⟩
end
theorem Fact.le{σ σ':ag}{p:Pi}{fr:List V}(hf:Fact p fr σ)(h:Le σ σ'):Fact p fr σ':=by
 obtain⟨c,h1,r,h2,h3⟩:=hf;exact⟨c,h1,r,h2,fun hc=>by obtain⟨ob,h4,h5⟩:=h3 hc;exact Sa h h4 h5⟩
theorem TY{P:Program}{B:Nat}{w0 w:World}{σ:ag}{μ:Mem}(hS:jw P B w0 w σ μ){id:Nat}(hid:σ[id]?=some .dead)(T:Nat)(cs:List V)(vs:Array Value)(h:CR w σ μ cs vs):
  ∃ μ',jw P B w0 (w.alloc (.cells vs T)) (σ.set id (.box T cs)) μ'∧VR (w.alloc (.cells vs T)) (σ.set id (.box T cs)) μ' (.ptr id 0) (.pointer (some ⟨w.heap.size,0,none⟩))∧pF w σ μ (w.alloc (.cells vs T)) (σ.set id (.box T cs)) μ':=by
 have hl:id<σ.length:=(ae.1 hid).1;have E0:(σ.set id (.box T cs))[id]?=some (.box T cs):=aF hl
 have hn:=hS.update (w':=w.alloc (.cells vs T)) (σ':=σ.set id (.box T cs)) (μ':=wu μ id (.pointer (some ⟨w.heap.size,0,none⟩))) id none (World.grownBy_alloc w _ none) (by simp) (by simp)
  (fun j hj=>bn (IS hj)) (fun j hj=>vD μ _ _ j hj) (fun b hb=>by rw[fo]at hb;simp only[lf,aa]at hb;exact .inr (by omega))
  (fun b off v o ho iQ=>by rw[hid]at ho;simp only[aa]at ho;exact absurd ho.symm iQ)
  (fun T' cs' ho=>by rw[hid]at ho;simp at ho) (fun K E es ho=>by rw[hid]at ho;simp at ho)
  (fun E sz by' g' sh xs _ ho=>by rw[E0]at ho;simp at ho)
  (fun hp o ho=>by
   rw[E0]at ho;simp only[aa]at ho;subst ho;rw[fo];refine⟨w.heap.size,vs,rfl,hS.base,heap_alloc_new w _,h.1.symm,fun j x hx=>?_⟩;have hj:j<vs.size:=by rw[← h.1];exact(ae.1 hx).1
   exact⟨vs[j],Array.getElem?_eq_getElem hj,by have:=(h.2 j x hx).mono hp;simpa[hj]using this⟩)
 exact⟨_,hn.1,.ptr _ 0 _ ⟨T,cs,E0⟩ (fo _ _ _),hn.2⟩
theorem Ni{P:Program}{ops:Array Oper}{o:Oper}{p:Pi}{d T:Nat}{zs:List V}(hc:cPi P ops o=some p)(hp:p=⟨some d,[],.alloc T zs⟩){inf:Nat→Option (List (Nat×Bool))}{B:Nat}{w0 w:World}{fr:List V}{σ:ag}{μ:Mem}{a:Act}
  (hS:jw P B w0 w σ μ) (hF:Fo w σ μ fr inf a) (fD:Lo inf p) {id:Nat} (hid:σ[id]?=some .dead) {R:Act→World→Prop} {Q:Exit→Act→World→Prop}
  (hR:∀ μ' a' w',jw P B w0 w' (σ.set id (.box T zs)) μ'→Fo w' (σ.set id (.box T zs)) μ' (fu fr (some d) (.ptr id 0)) (tS inf p) a'→pG w σ μ w' (σ.set id (.box T zs)) μ'→R a' w') :
  if Region.wanted o (yielded ops a.tmps)then o.wp P a w R Q∨(o.asks P a w∧LetsOut Q)else R (a.put o.dst undef) w:=by
 unfold cPi at hc;split at hc<;>simp only[aa,reduceCtorEq]at hc;rename_i g hg;rw[hp]at hc;simp only[Pi.mk.injEq]at hc;obtain⟨hd,rfl,hi⟩:=hc
 have hw:Region.wanted o (yielded ops a.tmps)=true:=by
  cases Q9:o.guard with
  | none=>simp[Region.wanted,Q9]
  | some jb =>
   obtain⟨j,b⟩:=jb;rw[Q9]at hg;simp only[zC]at hg;split at hg<;>(try simp only[reduceCtorEq]at hg);split at hg<;>simp at hg
 rw[if_pos hw];refine .inl ?_
 have oP:compile P o=some (.alloc T zs):=by
  cases Ra:compile P o with
  | none=>rw[Ra]at hi;simp at hi
  | some j=>rw[Ra]at hi;simp only[oS]at hi;rw[hi]
 have gl:∃ t z,o.op=.alloc T∧P.info? T=some t∧t.zero=some z∧la z.cells.toList=some zs:=by
  cases ho:o.op
  case alloc T' =>
   simp only[compile,ho]at oP;split at oP<;>(try simp only[reduceCtorEq]at oP);rename_i t ht;split at oP<;>(try simp only[reduceCtorEq]at oP);rename_i z hz;simp only[ar,I.alloc.injEq]at oP;obtain⟨zs',qE,rfl,rfl⟩:=oP;exact⟨t,z,rfl,ht,hz,qE⟩
  case call c =>
   exfalso;simp only[compile,ho,mW]at oP;revert oP;(repeat' split)<;>simp
  case makeFunc fn first caps =>
   exfalso;cases fn<;>simp only[compile,ho,reduceCtorEq]at oP;revert oP;split<;>simp
  case makeMap T' n =>
   exfalso;cases n<;>simp only[compile,ho,reduceCtorEq]at oP;revert oP;split<;>simp
  case slice T' x lo hi mx =>
   exfalso;cases mx<;>simp only[compile,ho,reduceCtorEq]at oP;revert oP;(repeat' split)<;>simp
  all_goals
   exfalso;simp only[compile,ho]at oP;revert oP
   (try (repeat' split))<;>simp
   all_goals (intro x _;split<;>simp)
 obtain⟨t,z,ho,ht,hz,qE⟩:=gl
 have eP:(execOp a.eval o).run P w=.ok (.value (.pointer (some ⟨w.heap.size,0,none⟩))) (w.alloc (.cells z.cells T)):=by
  simp[execOp,ho,Instr.alloc,zeroValue,typeInfo,ht,hz,newVar,newRow]
 obtain⟨μ',h1,h2,h3⟩:=TY hS hid T _ _ (od (w:=w) (σ:=σ) (μ:=μ) qE);unfold Oper.wp;rw[eP];simp only[Oper.upon];rw[hp]at fD;have hd':o.dst=some d:=hd;rw[hd'];have:=hF.wu (v:=.pointer (some ⟨w.heap.size,0,none⟩)) (r:=.ptr id 0) fD h3.bY (fun _ _ _ _=>h2) (fun h=>by simp[chainB]at h);rw[hp]at hR;exact hR μ' _ _ h1 this h3.bY
def Nj:List Ob→(List Ob→Prop)→Prop
 | [],p=>p []
 | _::b,p=>∀ X,Nj b fun Xs=>p (X::Xs)
def kJ(b:List Ob):List Ob:=b.map fun _=>.dead
theorem OP:∀ {b:List Ob} {p:List Ob→Prop},Nj b p→∀ Xs,Xs.length=b.length→p Xs
 | [],p,h,Xs,hl=>by simp only[ah,mc]at hl;subst hl;exact h
 | _::b,p,h,Xs,hl=>by
  cases Xs with
  | nil=>simp at hl
  | cons X Xs=>exact OP (h X) Xs (by simpa using hl)
def grown(τ:ag)(Xs:List Ob)(s:ag)(K:ag→Prop):Prop:=∃ ε,s=τ++(Xs++ε)∧K ε
def Aa(P:Program)(bx:List Ob):List (List Pi×Pi×List Pi)→List (List Pi×Pi×List Pi)→List Pi→(St→Prop)→List V→ag→ag→Prop
 | [],[],last,K,fr,τ,ε=>kW P [] last (fun st=>K ⟨st.fr,τ++(bx++ε)⟩) ⟨fr,τ++(kJ bx++ε)⟩
 | [],(IM,L,chk)::ds,last,K,fr,τ,ε=>kW P [] IM (fun st1=>gI P L (fun st2=>(∀ p∈chk,D7 p st2)∧tG P ds last K st2) ⟨st1.fr,τ++(bx++ε)⟩) ⟨fr,τ++(kJ bx++ε)⟩
 | (IM,L,chk)::ds1,ds2,last,K,fr,τ,ε=>kW P [] IM (fun st1=>Nj bx fun Xs=>gI P L (fun st2=>(∀ p∈chk,D7 p st2)∧grown τ Xs st2.σ (Aa P bx ds1 ds2 last K st2.fr τ)) ⟨st1.fr,τ++(Xs++ε)⟩) ⟨fr,τ++(kJ bx++ε)⟩
def Lh(p:Pi):Ob:=match p.i with
 | .alloc T zs=>.box T zs
 | _=>.dead
def Lf(pis:List Pi)(fl:List Nat):List Ob:=fl.map fun f=>Lh (fv pis f)
def wD(pis:List Pi)(fl:List Nat)(listed:Array Bool):List Ob:=fl.map fun f=>bif listed.getD f false then Lh (fv pis f)else .dead
structure XOF (pis:List Pi) (bs:List Nat) (m:Nat) (ls fl:List Nat) (k1:Nat):Prop where
 IQ:∀ f∈fl,f<m∧f ∉ ls∧∃ d T zs,fv pis f=⟨some d,[],.alloc T zs⟩
 nd:fl.Nodup
 kl:k1≤ls.length
 late:∀ (k L f:Nat),k1≤k→ls[k]?=some L→f∈fl→tb bs L f=true
section
variable {P:Program} {ops:Array Oper} {pis:List Pi} {bs:List Nat} {m:Nat} {ls fl:List Nat} {k1:Nat}
theorem Vn{listed:Array Bool}(h:∀ f∈fl,lC listed f):wD pis fl listed=Lf pis fl:=by
 refine dE fun f hf=>?_;have:listed.getD f false=true:=h f hf;rw[this];rfl
theorem Le.mid{τ a b ε:ag}(h:Le a b)(hl:a.length=b.length):Le (τ++(a++ε)) (τ++(b++ε)):=by
 intro id o ho
 by_cases h1:id<τ.length
 ·rw[aH h1]at ho ⊢;exact .inr ho
 ·rw[aN (by omega)]at ho ⊢
  by_cases h2:id - τ.length<a.length
  ·rw[aH h2]at ho;rw[aH (by omega)];exact h _ _ ho
  ·rw[aN (by omega)]at ho;rw[aN (by omega),← hl];exact .inr ho
theorem SI(τ ε:ag)(listed:Array Bool):Le (τ++(kJ (Lf pis fl)++ε)) (τ++(wD pis fl listed++ε)):=by
 refine Le.mid (fun id o ho=>?_) (by simp[kJ,Lf,wD]);simp only[kJ,Lf,jM,aZ,ar]at ho;obtain⟨_,_,rfl⟩:=ho;exact .inl rfl
theorem N9(hF:XOF pis bs m ls fl k1){listed:Array Bool}{i:Nat}(hi:i<listed.size)(UG:i ∉ fl):wD pis fl (listed.setIfInBounds i true)=wD pis fl listed:=by
 refine dE fun f hf=>?_;have h2:=fH (listed:=listed) (j:=f) hi;have iQ:f≠i:=fun e=>UG (e▸hf);simp only[iQ,false_or,lC]at h2;have:(listed.setIfInBounds i true).getD f false=listed.getD f false:=by cases h3:listed.getD f false<;>simp_all
 rw[this]
theorem Vm(hF:XOF pis bs m ls fl k1){listed:Array Bool}{j f:Nat}(hi:f<listed.size)(hj:fl[j]?=some f):wD pis fl (listed.setIfInBounds f true)=(wD pis fl listed).set j (Lh (fv pis f)):=by
 refine kg fun x=>?_;have xO:j<fl.length:=(ae.1 hj).1
 by_cases hx:j=x
 ·subst hx;rw[aF (by simpa[wD]using xO)];have:(listed.setIfInBounds f true).getD f false=true:=(fH hi).2 (.inl rfl);simp only[wD,aZ,hj,cU,this,cond_true]
 ·rw[bn hx];simp only[wD,aZ];cases hy:fl[x]? with
  | none=>rfl
  | some y =>
   have iQ:y≠f:=by
    rintro rfl;exact hx ((List.getElem?_inj xO hF.nd).1 (hj.trans hy.symm))
   have h2:=fH (listed:=listed) (j:=y) hi;simp only[iQ,false_or,lC]at h2;have:(listed.setIfInBounds f true).getD y false=listed.getD y false:=by cases h3:listed.getD y false<;>simp_all
   simp only[cU,this]
def BB(P:Program)(pis:List Pi)(bs:List Nat)(m:Nat)(ls fl:List Nat)(k1:Nat)(Kt:St→Prop)(k:Nat)(fr:List V)(τ ε:ag):Prop :=
 match (ls.take k1)[k]? with
 | some L=>Nj (Lf pis fl) fun Xs=>gI P (fv pis L) (fun st2=>(∀ p∈(Ub pis bs m ls k L).map (fv pis),D7 p st2)∧grown τ Xs st2.σ
   (Aa P (Lf pis fl) (Ei pis bs m ls (k+1) ((ls.take k1).drop (k+1))) (Ei pis bs m ls k1 (ls.drop k1)) ((oG pis bs m ls ls.length).map (fv pis)) Kt st2.fr τ)) ⟨fr,τ++(Xs++ε)⟩
 | none=>wO P pis bs m ls Kt k fr (τ++(Lf pis fl++ε))
theorem Ch.XM(hX:Ch ops pis bs m ls fl)(hF:XOF pis bs m ls fl k1){Kt:St→Prop}{k:Nat}(hk:k≤k1){fr:List V}{τ ε:ag}
  (h:Aa P (Lf pis fl) (Ei pis bs m ls k ((ls.take k1).drop k)) (Ei pis bs m ls k1 (ls.drop k1)) ((oG pis bs m ls ls.length).map (fv pis)) Kt fr τ ε) :
  ∃ fr',BB P pis bs m ls fl k1 Kt k fr' τ ε∧(∀ i∈oG pis bs m ls k,Fact (fv pis i) fr' (τ++(kJ (Lf pis fl)++ε)))∧(∀ t,(∀ i∈oG pis bs m ls k,(fv pis i).d≠some t)→fr'[t]?=fr[t]?)∧fr'.length=fr.length:=by
 have X1:(oG pis bs m ls k).Pairwise (fun i j=>∀ t,(fv pis j).d=some t→t ∉ looks (fv pis i)∧(fv pis i).d≠some t):=by
  refine afy ?_ (tN _ akV);intro i j hi hj fk t hd
  replace hi:=(eG (k:=k)).1 hi
  replace hj:=(eG (k:=k)).1 hj
  refine⟨fun ht=>?_,fun hd'=>?_⟩
  ·have:=hX.lt hi.1 hj.1 (hX.rP hi.1 hj.1 hd ht);omega
  ·have:=hX.dst i j t hi.1 hj.1 hd' hd;omega
 have zg:∀ i∈oG pis bs m ls k,∀ t,(fv pis i).d=some t→t ∉ looks (fv pis i):=fun i hi t hd ht=>by
  rw[eG]at hi;have:=hX.lt hi.1 hi.1 (hX.rP hi.1 hi.1 hd ht);omega
 have Qg:∀ i∈oG pis bs m ls k,(fv pis i).i.dh=true:=fun i hi=>(eG.1 hi).2.1;have tJ:=hF.kl;have hlen:(ls.take k1).length=k1:=by rw[aR];omega
 by_cases qA:k<k1
 ·have e:(ls.take k1).drop k=(ls.take k1)[k]::(ls.take k1).drop (k+1):=eU (by omega);rw[e]at h;simp only[Ei,Aa]at h;obtain⟨fr',h1,h2,h3,h4⟩:=z6 _ _ h Qg X1 zg;refine⟨fr',?_,h2,h3,h4⟩;simp only[BB,aw (show k<(ls.take k1).length by omega)];exact h1
 ·have hk':k=k1:=by omega
  subst hk';rw[List.drop_of_length_le (by omega)]at h;have en:(ls.take k)[k]?=none:=bR (by omega)
  by_cases hl:k<ls.length
  ·have e:ls.drop k=ls[k]::ls.drop (k+1):=eU hl;rw[e]at h;simp only[Ei,Aa]at h;obtain⟨fr',h1,h2,h3,h4⟩:=z6 _ _ h Qg X1 zg;refine⟨fr',?_,h2,h3,h4⟩;simp only[BB,en,wO,aw hl];exact h1
  ·have tK:k=ls.length:=by omega
   subst tK;rw[oT]at h;simp only[Ei,Aa]at h;obtain⟨fr',h1,h2,h3,h4⟩:=z6 _ _ h Qg X1 zg;refine⟨fr',?_,h2,h3,h4⟩;have e:ls[ls.length]?=none:=bR (aB _);simp only[BB,en,wO,e];exact h1
theorem EL(hX:Ch ops pis bs m ls fl)(zQ:XOF pis bs m ls fl k1)(hp:qH P ops ops.toList=some pis){n B n0:Nat}{gs:List Nat}{w0 ws:World}{σs:ag}{μs:Mem}{K:St→Prop}{Q:Exit→Act→World→Prop}
  (hQ:∀ st w μ a,K st→jw P B w0 w st.σ μ→FR w st.σ μ st.fr a→fP n ws σs μs w st.σ μ→Q .normal a w) (ht:EN (D0 pis m) (pis.drop m) gs=true) :
  ∀ (fuel k:Nat) (listed:Array Bool) (fr:List V) (τ ε:ag) (w:World) (μ:Mem) (a:Act),listed.size=ops.size →
   (∀ i j,i<pis.length→j<pis.length→lC listed i→tb bs i j=true→lC listed j)→(∀ i,m≤i→i<pis.length→¬ lC listed i)→k≤k1 →
   (∀ j L,ls[j]?=some L→(lC listed L↔j<k))→(∀ i,i<m→(fv pis i).i.dh=true→FA bs ls i≤k→¬ lC listed i→Fact (fv pis i) fr (τ++(wD pis fl listed++ε))) →
   τ.length=n0→(∀ j f d,fl[j]?=some f→(fv pis f).d=some d→fu fr (some d) (.ptr (n0+j) 0)=fr) →
   BB P pis bs m ls fl k1 (kW P gs (pis.drop m) K) k fr τ ε→GB pis.length listed≤fuel →
   jw P B w0 w (τ++(wD pis fl listed++ε)) μ→Fo w (τ++(wD pis fl listed++ε)) μ fr (o7 pis m listed) a→fP n ws σs μs w (τ++(wD pis fl listed++ε)) μ→wpAny P .any ops Q fuel listed a w:=by
 have hn:pis.length=ops.size:=by rw[(pE hp).1,aY]
 have hm:=hX.mn;have tJ:=zQ.kl;have hlen:(ls.take k1).length=k1:=by rw[aR];omega
 have done:∀ (fuel k:Nat) (listed:Array Bool) (fr:List V) (τ ε:ag) (w:World) (μ:Mem) (a:Act),listed.size=ops.size →
   (∀ i j,i<pis.length→j<pis.length→lC listed i→tb bs i j=true→lC listed j)→(∀ i,m≤i→i<pis.length→¬ lC listed i)→k=k1→(∀ f∈fl,lC listed f) →
   (∀ j L,ls[j]?=some L→(lC listed L↔j<k))→(∀ i,i<m→(fv pis i).i.dh=true→FA bs ls i≤k→¬ lC listed i→Fact (fv pis i) fr (τ++(wD pis fl listed++ε))) →
   BB P pis bs m ls fl k1 (kW P gs (pis.drop m) K) k fr τ ε→GB pis.length listed≤fuel →
   jw P B w0 w (τ++(wD pis fl listed++ε)) μ→Fo w (τ++(wD pis fl listed++ε)) μ fr (o7 pis m listed) a→fP n ws σs μs w (τ++(wD pis fl listed++ε)) μ→wpAny P .any ops Q fuel listed a w:=by
  intro fuel k listed fr τ ε w μ a gO hc wH hk u0 rB Ij Dz hu hS hF MJ;subst hk;have en:(ls.take k)[k]?=none:=bR (by omega);simp only[BB,en]at Dz;rw[Vn u0]at Ij hS hF MJ;exact yM hX hp hQ ht fuel k listed fr _ w μ a gO u0 hc wH tJ rB Ij Dz hu hS hF MJ
 intro fuel
 induction fuel with
 | zero =>
  intro k listed fr τ ε w μ a gO hc wH hk rB Ij Oz Tq Dz hu hS hF MJ;have Ta:∀ i,i<pis.length→lC listed i:=fun i hi=>bo fun h=>by have:=Nu hi h;omega
  have js:∀ i,i<m→lC listed i:=fun i hi=>Ta i (by omega)
  have tJ:k=k1:=by
   refine bo fun iQ=>?_;have fk:k<ls.length:=by omega
   have:=(rB k ls[k] (aw fk)).1 (js _ (hX.UC _ (cK fk)).1);omega
  exact done 0 k listed fr τ ε w μ a gO hc wH tJ (fun f hf=>js f (zQ.IQ f hf).1) rB Ij Dz hu hS hF MJ
 | succ fuel ih =>
  intro k listed fr τ ε w μ a gO hc wH hk rB Ij Oz Tq Dz hu hS hF MJ
  by_cases OB:k=k1∧∀ f∈fl,lC listed f
  ·exact done _ k listed fr τ ε w μ a gO hc wH OB.1 OB.2 rB Ij Dz hu hS hF MJ
  have X2:¬ ∀ i,i<m→lC listed i:=by
   intro js;refine OB ⟨?_,fun f hf=>js f (zQ.IQ f hf).1⟩;refine bo fun iQ=>?_;have fk:k<ls.length:=by omega
   have:=(rB k ls[k] (aw fk)).1 (js _ (hX.UC _ (cK fk)).1);omega
  refine⟨fun h=>absurd (fun i hi=>hX.first gO h i (by omega)) X2,fun i hi=>?_⟩;obtain⟨hio,Qf,o,ho,_⟩:=ug gO hi;have F0:i<pis.length:=by omega
  have F3:∀ j,j<pis.length→tb bs i j=true→lC listed j:=fun j hj ht=>hX.ready hn gO hc hi hj ht
  have E3:i<m:=by
   refine bo fun h=>X2 fun j hj=>?_;exact F3 j (by omega) (hX.tail i j (by omega) F0 (by omega))
  obtain⟨p,hpi,Ra⟩:=(pE hp).2 i o (by simpa using ho);have qF:fv pis i=p:=by simp[fv,List.getD_eq_getElem?_getD,hpi]
  have fD:Lo (o7 pis m listed) p:=qF▸hX.ad9 hc E3 Qf F3
  have hclos':∀ x j,x<pis.length→j<pis.length→lC (listed.setIfInBounds i true) x→tb bs x j=true→lC (listed.setIfInBounds i true) j:=by
   intro x j hx hj hl ht;rw[fH (by omega)]at hl ⊢;rcases hl with rfl | hl
   ·exact .inr (F3 j hj ht)
   ·exact .inr (hc x j hx hj hl ht)
  have htl':∀ x,m≤x→x<pis.length→¬ lC (listed.setIfInBounds i true) x:=by
   intro x hx hxn hl;rw[fH (by omega)]at hl;rcases hl with rfl | hl
   ·omega
   ·exact wH x hx hxn hl
  have hu':GB pis.length (listed.setIfInBounds i true)≤fuel:=by
   have:=Nt F0 (by omega:i<listed.size) Qf;omega
  have ZK:∀ x,x<m→(fv pis x).i.dh=true→(∀ j,j<pis.length→tb bs x j=true→lC listed j)→FA bs ls x≤k:=by
   intro x hx hs hal';refine bo fun fk=>?_;have h1:FA bs ls x≤ls.length:=gS _ _;have h2:k<ls.length:=by omega
   have h3:=(hX.IM x k ls[k] hx hs (aw h2)).2 (by omega);have h4:=hal' ls[k] (by have:=(hX.UC _ (cK h2)).1;omega) h3;have:=(rB k ls[k] (aw h2)).1 h4;omega
  have e:tS (o7 pis m listed) p=o7 pis m (listed.setIfInBounds i true):=by rw[← qF];exact hX.tS E3 (by omega)
  simp only[wpOp,ho]
  by_cases hs:p.i.dh=true
  ·
   have Ih:(fv pis i).i.dh=true:=by rw[qF];exact hs
   have UG:i ∉ fl:=fun h=>by
    obtain⟨d,T,zs,h2⟩:=(zQ.IQ i h).2.2;rw[h2]at Ih;simp[I.dh]at Ih
   have hf:=Ij i E3 Ih (ZK i E3 Ih F3) Qf;rw[qF]at hf;refine YS Ra hS hF fD (OH hf) ?_;intro r σ' μ' a' w' k1 k2 k3 k4;simp only[St.mk.injEq]at k1;obtain⟨k1,rfl⟩:=k1;rw[k1,e]at k3;have eo:=N9 (pis:=pis) zQ (listed:=listed) (i:=i) (by omega) UG;refine ih k _ fr τ ε w' μ' a' (by simpa using gO) hclos' htl' hk (fun j L hL=>?_) (fun x hx Bk Q5 Ca=>?_) Oz Tq Dz hu' (by rw[eo];exact k2) (by rw[eo];exact k3) (by rw[eo];exact MJ.trans k4.Nv)
   ·rw[fH (by omega),rB j L hL]
    have:L≠i:=fun e=>by
     have:=(hX.UC L (bh hL)).2;rw[e,Ih]at this;simp at this
    simp[this]
   ·rw[eo];exact Ij x hx Bk Q5 fun h=>Ca ((fH (by omega)).2 (.inr h))
  ·have Ih:(fv pis i).i.dh=false:=by rw[qF];simpa using hs
   rcases hX.Kl i E3 Ih with qB | qB
   ·
    obtain⟨j,hj⟩:=dr.1 qB;have UG:i ∉ fl:=fun h=>(zQ.IQ i h).2.1 qB;have xO:j<ls.length:=(ae.1 hj).1;have hj1:¬ j<k:=fun h=>Qf ((rB j i hj).2 h)
    have hjk:j=k:=by
     refine bo fun iQ=>?_;have tJ:k<ls.length:=by omega
     have h2:=hX.Vu k j i ls[k] (by omega) (aw tJ) hj;have h3:=F3 ls[k] (by have:=(hX.UC _ (cK tJ)).1;omega) h2;have:=(rB k ls[k] (aw tJ)).1 h3;omega
    subst hjk
    have aiG:j<k1:=by
     refine bo fun h=>OB ⟨by omega,fun f hf=>?_⟩;exact F3 f (by have:=(zQ.IQ f hf).1;omega) (zQ.late j i f (by omega) hj hf)
    have hjt:(ls.take k1)[j]?=some i:=by rw[iz,if_pos aiG];exact hj
    simp only[BB,hjt,qF]at Dz;have ain:=OP Dz (wD pis fl listed) (by simp[wD,Lf]);refine opG Ra hS hF fD ain ?_;intro r σ' μ' a' w' k1 k2 k3 k4;obtain⟨Z3,ε',EZ,eP⟩:=k1;simp only at EZ;subst EZ;obtain⟨fr',h1,h2,h3,h4⟩:=hX.XM zQ (k:=j+1) (by omega) eP;rw[e]at k3;have eo:=N9 (pis:=pis) zQ (listed:=listed) (i:=i) (by omega) UG
    have lQ:∀ x∈oG pis bs m ls (j+1),¬ lC (listed.setIfInBounds i true) x:=by
     intro x hx hl;rw[eG]at hx;rw[fH (by omega)]at hl;rcases hl with rfl | hl
     ·rw[Ih]at hx;simp at hx
     ·have:=ZK x hx.1 hx.2.1 fun y hy ht=>hc x y (by omega) hy hl ht;omega
    have DF:∀ t y,y<m→(fv pis y).d=some t→lC (listed.setIfInBounds i true) y→fr'[t]?=(fu fr p.d r)[t]?:=by
     intro t y hy hd hl;refine h3 t fun x hx hxd=>lQ x hx ?_;rw[hX.dst x y t (eG.1 hx).1 hy hxd hd];exact hl
    have hF':Fo w' (τ++(wD pis fl listed++ε')) μ' fr' (o7 pis m (listed.setIfInBounds i true)) a':=by
     refine⟨k3.1,by rw[h4];exact k3.2.1,fun t x hx ch Bl=>?_⟩
     have S1:fr'[t]?=(fu fr p.d r)[t]?:=by
      rcases mB Bl with⟨_,qT⟩ | ⟨y,hy,hd,hl,_⟩
      ·exact h3 t fun x hx=>qT x (eG.1 hx).1
      ·exact DF t y hy hd hl
     have BT:chainB fr' ch=chainB (fu fr p.d r) ch:=by
      refine nA fun q hq=>?_;rcases mB Bl with⟨rfl,_⟩ | ⟨y,hy,hd,hl,rfl⟩
      ·simp at hq
      ·obtain⟨z,hz,hzd,hzt⟩:=hX.chain y q hy hq;exact DF q.1 z hz hzd (hclos' y z (by omega) (by omega) hl hzt)
     rw[BT];rw[S1]at hx;exact k3.2.2 t x hx ch Bl
    refine ih (j+1) _ fr' τ ε' w' μ' a' (by simpa using gO) hclos' htl' (by omega) (fun y L hL=>?_) (fun x hx Bk Q5 Ca=>?_) Oz (fun y f d hy hd=>?_) h1 hu' (by rw[eo];exact k2) (by rw[eo];exact hF') (by rw[eo];exact MJ.trans k4.Nv)
    ·rw[fH (by omega),rB y L hL];constructor
     ·rintro(rfl | h)
      ·refine bo fun iQ=>?_;have h5:=hX.Vu j y L L (by omega) hj hL;have:=hX.lt E3 E3 h5;omega
      ·omega
     ·intro h;rcases fV y j with h5 | h5
      ·exact .inr h5
      ·have:y=j:=by omega
       subst this;rw[hL]at hj;simp only[aa]at hj;exact .inl hj
    ·rw[eo]
     by_cases hxj:FA bs ls x=j+1
     ·exact(h2 x (eG.2 ⟨hx,Bk,hxj⟩)).le (SI τ ε' listed)
     ·have hxj':FA bs ls x≤j:=by omega
      have S0:¬ lC listed x:=fun h=>Ca ((fH (by omega)).2 (.inr h));have ZQ:¬ tb bs i x=true:=fun h=>S0 (F3 x (by omega) h)
      have WD:Fact (fv pis x) (fu fr p.d r) (τ++(wD pis fl listed++ε')):=by
       by_cases hr:(fv pis x).i.reads=true
       ·exact(Z3 (fv pis x) (bK.2 ⟨x,by simp[Ub,hx,Bk,hr,hxj',ZQ],rfl⟩)).fact
       ·have hr':(fv pis x).i.reads=false:=by simpa using hr
        refine Fact.still (Fact.agree (Ij x hx Bk hxj' S0) (fun t ht=>?_) (fun t ht=>?_) pY) hr'
        ·refine lK fun hd=>?_;have h5:=hX.rP hx E3 (qF▸hd) ht;have:=(hX.IM x j i hx Bk hj).1 h5;omega
        ·refine lK fun hd=>?_;have:=hX.dst x i t hx E3 ht (qF▸hd);subst this;rw[Bk]at Ih;simp at Ih
      refine Fact.agree WD (fun t ht=>?_) (fun t ht=>?_) h4
      ·refine h3 t fun y hy Wm=>?_;rw[eG]at hy;have:=hX.mono x y t hx Bk hy.1 hy.2.1 Wm ht;omega
      ·refine h3 t fun y hy Wm=>?_;rw[eG]at hy;have:=hX.dst x y t hx hy.1 ht Wm;subst this;omega
    ·have h5:=Tq y f d hy hd;have hfm:=(zQ.IQ f (bh hy)).1
     have h6:fr'[d]?=fr[d]?:=by
      rw[h3 d fun x hx hxd=>?_]
      ·refine lK fun hpd=>?_;have:=hX.dst f i d hfm E3 hd (qF▸hpd);exact UG (this▸bh hy)
      ·have:=hX.dst f x d hfm (eG.1 hx).1 hd hxd;have h7:=(eG.1 hx).2.1;obtain⟨d',T,zs,h8⟩:=(zQ.IQ f (bh hy)).2.2;rw[← this,h8]at h7;simp[I.dh]at h7
     rw[rE]at h5 ⊢;intro t ht' hl;have h7:=h5 t ht' (by rw[h4,pY]at hl;exact hl);simp only[aa]at ht';subst ht';rw[h6];exact h7
   ·
    obtain⟨j,hj⟩:=dr.1 qB;obtain⟨_,vX,d,T,zs,hfp⟩:=zQ.IQ i qB;rw[qF]at hfp;have xO:j<fl.length:=(ae.1 hj).1
    have hlf:listed.getD i false=false:=by
     cases h:listed.getD i false with
     | false=>rfl
     | true=>exact absurd h Qf
    have hid:(τ++(wD pis fl listed++ε))[n0+j]?=some .dead:=by
     rw[aN (by omega),Oz,cx,aH (by simp only[wD,List.length_map];omega)];simp only[wD,aZ,hj,cU,hlf,cond_false]
    have eb:Lh (fv pis i)=.box T zs:=by rw[qF,hfp];rfl
    have eo:τ++(wD pis fl (listed.setIfInBounds i true)++ε)=(τ++(wD pis fl listed++ε)).set (n0+j) (.box T zs):=by
     rw[Vm zQ (by omega) hj,eb,fT _ _ (by omega),Oz,cx,IL _ _ (by simp only[wD,List.length_map];omega)]
    have Ya:p.d=some d:=by rw[hfp]
    have E0:=Tq j i d hj (by rw[qF];exact Ya)
    have hle:Le (τ++(wD pis fl listed++ε)) ((τ++(wD pis fl listed++ε)).set (n0+j) (.box T zs)):=by
     intro id o ho
     by_cases he:n0+j=id
     ·subst he;rw[hid]at ho;simp only[aa]at ho;exact .inl ho.symm
     ·rw[bn he];exact .inr ho
    refine Ni Ra hfp hS hF fD hid ?_;intro μ' a' w' k2 k3 k4;rw[E0,e]at k3;refine ih k _ fr τ ε w' μ' a' (by simpa using gO) hclos' htl' hk (fun y L hL=>?_) (fun x hx Bk Q5 Ca=>?_) Oz Tq Dz hu' (by rw[eo];exact k2) (by rw[eo];exact k3) (by rw[eo];exact MJ.trans k4.Nv)
    ·rw[fH (by omega),rB y L hL];have:L≠i:=fun e=>vX (e▸bh hL);simp[this]
    ·rw[eo];exact(Ij x hx Bk Q5 fun h=>Ca ((fH (by omega)).2 (.inr h))).le hle
def BV(pis:List Pi)(fl:List Nat):List (Nat×Nat×List V):=fl.map fun f=>match fv pis f with
 | ⟨some d,_,.alloc T zs⟩=>(d,T,zs)
 | _=>(0,0,[])
def Lg(fls:List (Nat×Nat×List V)):List Ob:=fls.map fun x=>.box x.2.1 x.2.2
def yr:Nat→List (Nat×Nat×List V)→List V→List V
 | _,[],fr=>fr
 | n,x::r,fr=>yr (n+1) r (fr.set x.1 (.ptr n 0))
theorem wR{t:Nat}:∀ {l:List (Nat×Nat×List V)} {n:Nat} {fr:List V},(∀ x∈l,x.1≠t)→(yr n l fr)[t]?=fr[t]?
 | [],_,_,_=>rfl
 | x::l,n,fr,h=>by
  rw[yr,wR fun y hy=>h y (by simp[hy]),bn (h x (by simp))]
theorem Cx:∀ {l:List (Nat×Nat×List V)} {n:Nat} {fr:List V},(yr n l fr).length=fr.length
 | [],_,_=>rfl
 | x::l,n,fr=>by rw[yr,Cx];simp
theorem Ny:∀ {l:List (Nat×Nat×List V)} {n j:Nat} {fr:List V} {x:Nat×Nat×List V},l.Pairwise (fun a b=>a.1≠b.1)→l[j]?=some x→x.1<fr.length→(yr n l fr)[x.1]?=some (.ptr (n+j) 0)
 | [],_,_,_,_,_,h,_=>by simp at h
 | y::l,n,0,fr,x,hp,h,hl=>by
  simp only[ao,aa]at h;subst h;rw[ck]at hp;rw[yr,wR fun z hz=>IS (hp.1 z hz),aF hl,bC]
 | y::l,n,j+1,fr,x,hp,h,hl=>by
  rw[ck]at hp;rw[yr,Ny (j:=j) hp.2 (by simpa using h) (by simpa using hl)];congr 2;omega
theorem jw.kJ{P:Program}{B:Nat}{w0 w:World}:∀ (b:List Ob) {σ:ag} {μ:Mem},jw P B w0 w σ μ→∃ μ',jw P B w0 w (σ++Go.Pm.kJ b) μ'∧pF w σ μ w (σ++Go.Pm.kJ b) μ'
 | [],σ,μ,h=>⟨μ,by simpa[Go.Pm.kJ]using h,by simpa[Go.Pm.kJ]using pF.refl w σ μ⟩
 | _::b,σ,μ,h=>by
  obtain⟨h1,h2⟩:=h.uE (w':=w) .dead undef ⟨rfl,rfl,rfl,aB _,fun _ _ _=>rfl⟩ (by simp[lf,undef]) fun _=>trivial;obtain⟨μ',h3,h4⟩:=jw.kJ b h1;have e:σ++[Ob.dead]++Go.Pm.kJ b=σ++Go.Pm.kJ (.dead::b):=by simp[Go.Pm.kJ]
  rw[e]at h3 h4;exact⟨μ',h3,h2.trans h4⟩
def okF(pis:List Pi)(bs:List Nat)(m:Nat)(ls fl:List Nat)(k1:Nat):Bool :=
 (fl.all fun f=>decide (f<m)&&(!ls.contains f&&match fv pis f with
  | ⟨some _,[],.alloc _ _⟩=>true
  | _=>false))&&(decide fl.Nodup&&(decide (k1≤ls.length)&&(ls.drop k1).all fun L=>fl.all fun f=>tb bs L f))
theorem YT(h:okF pis bs m ls fl k1=true):XOF pis bs m ls fl k1:=by
 simp only[okF,aC,bI,decide_eq_true_eq,cm]at h;obtain⟨h1,h2,h3,h4⟩:=h;refine⟨fun f hf=>?_,h2,h3,fun k L f hk hL hf=>h4 L ?_ f hf⟩
 ·obtain⟨h5,h6,h7⟩:=h1 f hf;refine⟨h5,by simpa using h6,?_⟩;split at h7
  ·rename_i d T zs e;exact⟨d,T,zs,e⟩
  ·simp at h7
 ·refine bh (i:=k - k1) ?_;rw[dV,← hL];congr 1;omega
theorem ED{n B:Nat}{gs:List Nat}{K:St→Prop}{Q:Exit→Act→World→Prop}(hp:qH P ops ops.toList=some pis)(fD:Vl ops pis bs m ls fl=true)(ZP:okF pis bs m ls fl k1=true)
  (ht:EN (D0 pis m) (pis.drop m) gs=true) {fr:List V} {σ:ag} {w0 w:World} {μ:Mem} {a:Act}
  (h:Aa P (Lg (BV pis fl)) (Ei pis bs m ls 0 (ls.take k1)) (Ei pis bs m ls k1 (ls.drop k1)) ((oG pis bs m ls ls.length).map (fv pis)) (kW P gs (pis.drop m) K) (yr σ.length (BV pis fl) fr) σ [])
  (hS:jw P B w0 w σ μ) (hF:FR w σ μ fr a)
  (hQ:∀ st' w' μ' a',K st'→jw P B w0 w' st'.σ μ'→FR w' st'.σ μ' st'.fr a'→fP n w σ μ w' st'.σ μ'→Q .normal a' w'):wpAny P .any ops Q ops.size (Array.replicate ops.size false) a { w with drawn:=w.drawn+1 }:=by
 have hn:pis.length=ops.size:=by rw[(pE hp).1,aY]
 have hX:=Si fD hn;have zQ:=YT ZP
 have hbx:Lg (BV pis fl)=Lf pis fl:=by
  simp only[Lg,BV,Lf,jM];refine dE fun f hf=>?_;obtain⟨d,T,zs,e⟩:=(zQ.IQ f hf).2.2;simp[e,Lh]
 rw[hbx]at h
 have Ij:∀ (j f d:Nat),fl[j]?=some f→(fv pis f).d=some d→∃ x,(BV pis fl)[j]?=some x∧x.1=d:=by
  intro j f d hj hd;obtain⟨d',T,zs,e⟩:=(zQ.IQ f (bh hj)).2.2;rw[e]at hd;simp only[aa]at hd;exact⟨(d',T,zs),by simp[BV,hj,e],hd⟩
 have hof:∀ x∈BV pis fl,∃ f,f∈fl∧(fv pis f).d=some x.1:=by
  intro x hx;simp only[BV,bK]at hx;obtain⟨f,hf,rfl⟩:=hx;obtain⟨d,T,zs,e⟩:=(zQ.IQ f hf).2.2;exact⟨f,hf,by simp[e]⟩
 have X1:(BV pis fl).Pairwise (fun a b=>a.1≠b.1):=by
  rw[BV,Q1];refine zQ.nd.imp_of_mem ?_;intro f g hf hg iQ he;obtain⟨d,T,zs,e⟩:=(zQ.IQ f hf).2.2;obtain⟨d',T',zs',e'⟩:=(zQ.IQ g hg).2.2;simp only[e,e']at he;subst he;exact iQ (hX.dst f g d (zQ.IQ f hf).1 (zQ.IQ g hg).1 (by rw[e]) (by rw[e']))
 obtain⟨hS',KF⟩:=hS.grown (w':={ w with drawn:=w.drawn+1 }) ⟨rfl,rfl,rfl,aB _,fun _ _ _=>rfl⟩;obtain⟨μ1,hS1,aeK⟩:=hS'.kJ (Lf pis fl);have e0:σ++kJ (Lf pis fl)=σ++(kJ (Lf pis fl)++[]):=by rw[bf]
 rw[e0]at hS1 aeK;have hk:=KF.bY.trans aeK.bY;have hF':=hF.bY hk;obtain⟨fr',h1,h2,h3,h4⟩:=hX.XM zQ (k:=0) (iF _) (by simpa using h)
 have vX:∀ i,¬ lC (Array.replicate ops.size false) i:=by
  intro i;simp only[lC,bN,AR];split<;>simp
 have eo:wD pis fl (Array.replicate ops.size false)=kJ (Lf pis fl):=by
  simp only[wD,kJ,Lf,jM];refine dE fun f _=>?_
  have:(Array.replicate ops.size false).getD f false=false:=by
   cases hh:(Array.replicate ops.size false).getD f false with
   | false=>rfl
   | true=>exact absurd hh (vX f)
  simp[this]
 refine EL (n:=n) hX zQ hp (fun st' w' μ' a' k1 k2 k3 k4=>hQ st' w' μ' a' k1 k2 k3 (fP.trans hk.Nv k4)) ht ops.size 0 _ fr' σ [] _ μ1 a (by simp) (fun i j _ _ hl=>absurd hl (vX i)) (fun i _ _=>vX i) (iF _)
  (fun j L hL=>⟨fun hl=>absurd hl (vX L),fun h=>by omega⟩) (fun i hi hs ZK _=>by rw[eo];exact h2 i (eG.2 ⟨hi,hs,by omega⟩)) rfl (fun j f d hj hd=>?_) h1 (by rw[hn];unfold GB;exact bZ (gS _ _) (by simp)) (by rw[eo];exact hS1) ?_ (by rw[eo];exact fP.refl _ _ _ _)
 ·have hfm:=(zQ.IQ f (bh hj)).1;obtain⟨x,hx,rfl⟩:=Ij j f d hj hd;rw[rE];intro t ht' hl;simp only[aa]at ht';subst ht';rw[h3 x.1 fun y hy Wm=>?_]
  ·exact Ny X1 hx (by rwa [h4,Cx]at hl)
  ·have:=hX.dst f y x.1 hfm (eG.1 hy).1 hd Wm;have h7:=(eG.1 hy).2.1;obtain⟨d',T,zs,h8⟩:=(zQ.IQ f (bh hj)).2.2;rw[← this,h8]at h7;simp[I.dh]at h7
 ·rw[eo];refine⟨hF'.1,by rw[h4,Cx];exact hF'.2.1,fun t x hx ch Bl=>?_⟩;rcases mB Bl with⟨rfl,qT⟩ | ⟨y,hy,hd,hl,_⟩
  ·rw[h3 t fun i hi=>qT i (eG.1 hi).1,wR fun y hy e=>?_]at hx
   ·exact⟨fun _=>hF'.2.2 t x hx,fun h=>by simp[chainB]at h⟩
   ·obtain⟨f,hf,hfd⟩:=hof y hy;exact qT f (zQ.IQ f hf).1 (e▸hfd)
  ·exact absurd hl (vX y)
end
inductive bw where
 | skip
 | dq (gs:List Nat) (is:List Pi)
 | kp (ds:List (List Pi×Pi×List Pi)) (last:List Pi) (gs:List Nat) (tail:List Pi)
 | seq (a b:bw)
 | ite (c:O) (a b:bw)
 | block (id:Nat) (c:bw)
 | loop (c:bw)
 | exit (id:Nat)
 | ret
 | both (a b:bw)
 | M1 (fls:List (Nat×Nat×List V)) (ds1 ds2:List (List Pi×Pi×List Pi)) (last:List Pi) (gs:List Nat) (tail:List Pi)
def AB(pis:List Pi):List Nat:=pis.filterMap fun p=>if p.g.isEmpty then none else p.d
def aaN(P:Program)(ops:Array Oper):Option bw :=
 match qH P ops ops.toList with
 | some pis=>if EN [] pis (AB pis)then some (.dq (AB pis) pis)else none
 | none=>none
def zE(P:Program)(ops:Array Oper)(bs:List Nat):Option bw :=
 if P.follows .mixedOrders then match qH P ops ops.toList with
  | some pis =>
   let m:=mX bs pis.length;let ls:=(List.range m).filter fun i=>!(fv pis i).i.dh
   if Vl ops pis bs m ls []&&EN (D0 pis m) (pis.drop m) (AB pis)then
    some (.kp (Ei pis bs m ls 0 ls) ((oG pis bs m ls ls.length).map (fv pis)) (AB pis) (pis.drop m))else none
  | none=>none
 else none
def Wi:Op→Bool
 | .alloc _ | .box _ _=>true
 | _=>false
def XB(ops:Array Oper):List Nat:=(List.range ops.size).filter fun i=>match ops[i]? with
 | some o=>Wi o.op
 | none=>false
def OM(P:Program)(ops:Array Oper):Option bw :=
 match XB ops with
 | [i,j]=>if i≠j∧i<ops.size∧j<ops.size∧P.follows .mixedOrders=true∧((List.range ops.size).all fun x=>x==i||(x==j||match ops[x]? with | some o=>qM o.op | none=>true))=true then
   match zE P (waitsFor ops j i) (Region.before (waitsFor ops j i)).toList,zE P (qJ (waitsFor ops i j) i j) (Region.before (qJ (waitsFor ops i j) i j)).toList with
   | some a,some b=>some (.both a b)
   | _,_=>none
  else none
 | _=>none
def ah1(pis:List Pi)(bs:List Nat)(m i:Nat):Bool:=match fv pis i with
 | ⟨some _,[],.alloc _ _⟩=>(List.range m).any fun j=>!(fv pis j).i.dh&&(j != i&&(!tb bs i j&&!tb bs j i))
 | _=>false
def cFl(P:Program)(ops:Array Oper)(bs:List Nat):Option bw :=
 if P.follows .mixedOrders then match qH P ops ops.toList with
  | some pis =>
   let m:=mX bs pis.length;let fl:=(List.range m).filter (ah1 pis bs m);let ls:=(List.range m).filter fun i=>!(fv pis i).i.dh&&!fl.contains i;let k1:=(ls.filter fun L=>!fl.all (tb bs L)).length
   if Vl ops pis bs m ls fl&&(okF pis bs m ls fl k1&&EN (D0 pis m) (pis.drop m) (AB pis))then
    some (.M1 (BV pis fl) (Ei pis bs m ls 0 (ls.take k1)) (Ei pis bs m ls k1 (ls.drop k1)) ((oG pis bs m ls ls.length).map (fv pis)) (AB pis) (pis.drop m))else none
  | none=>none
 else none
def Ue(P:Program)(ops:Array Oper):Option bw :=
 match zE P ops (Region.before ops).toList with
 | some c=>some c
 | none=>match OM P ops with
  | some c=>some c
  | none=>cFl P ops (Region.before ops).toList
def fN(P:Program):Code→Option bw
 | .skip=>some .skip
 | .region _ ops false=>aaN P ops
 | .region _ ops true=>Ue P ops
 | .seq a b=>match fN P a,fN P b with
  | some a,some b=>some (.seq a b)
  | _,_=>none
 | .cond c a b=>match cO c,fN P a,fN P b with
  | some c,some a,some b=>some (.ite c a b)
  | _,_,_=>none
 | .block id c=>(fN P c).map (.block id)
 | .loop c=>(fN P c).map .loop
 | .exit id=>some (.exit id)
 | .ret=>some .ret
 | _=>none
theorem jC{P:Program}{ops:Array Oper}{c:bw}(h:aaN P ops=some c):∃ pis,qH P ops ops.toList=some pis∧EN [] pis (AB pis)=true∧c=.dq (AB pis) pis:=by
 unfold aaN at h;split at h
 ·rename_i pis hp;split at h<;>simp only[aa,reduceCtorEq]at h;rename_i fD;exact⟨pis,hp,fD,h.symm⟩
 ·simp at h
theorem xZ{P:Program}{ops:Array Oper}{bs:List Nat}{c:bw}(h:zE P ops bs=some c):
  P.follows .mixedOrders=true∧∃ pis m ls,qH P ops ops.toList=some pis∧Vl ops pis bs m ls []=true∧EN (D0 pis m) (pis.drop m) (AB pis)=true ∧
   c=.kp (Ei pis bs m ls 0 ls) ((oG pis bs m ls ls.length).map (fv pis)) (AB pis) (pis.drop m):=by
 unfold zE at h;split at h
 ·rename_i hm;split at h
  ·rename_i pis hp;dsimp only at h;split at h<;>simp only[aa,reduceCtorEq]at h;rename_i fD;rw[aC]at fD;exact⟨hm,pis,_,_,hp,fD.1,fD.2,h.symm⟩
  ·simp at h
 ·simp at h
theorem D9{P:Program}{ops:Array Oper}{c:bw}(h:OM P ops=some c):∃ i j a b,i≠j∧i<ops.size∧j<ops.size∧P.follows .mixedOrders=true ∧
  (∀ x o,x≠i→x≠j→ops[x]?=some o→qM o.op=true)∧zE P (waitsFor ops j i) (Region.before (waitsFor ops j i)).toList=some a ∧
  zE P (qJ (waitsFor ops i j) i j) (Region.before (qJ (waitsFor ops i j) i j)).toList=some b∧c=.both a b:=by
 unfold OM at h;split at h
 ·rename_i i j F3;split at h
  ·rename_i hc;obtain⟨h1,h2,h3,h4,h5⟩:=hc;split at h<;>simp only[aa,reduceCtorEq]at h;rename_i a b ha hb;refine⟨i,j,a,b,h1,h2,h3,h4,fun x o tC BR ho=>?_,ha,hb,h.symm⟩;simp only[bI,dd,gm,beq_iff_eq]at h5;have:=h5 x (cg.1 ho).1;rw[ho]at this;rcases this with h | h | h
   ·exact absurd h tC
   ·exact absurd h BR
   ·exact h
  ·simp at h
 ·simp at h
theorem Lc{P:Program}{ops:Array Oper}{bs:List Nat}{c:bw}(h:cFl P ops bs=some c):
  P.follows .mixedOrders=true∧∃ pis m ls fl k1,qH P ops ops.toList=some pis∧Vl ops pis bs m ls fl=true∧okF pis bs m ls fl k1=true∧EN (D0 pis m) (pis.drop m) (AB pis)=true ∧
   c=.M1 (BV pis fl) (Ei pis bs m ls 0 (ls.take k1)) (Ei pis bs m ls k1 (ls.drop k1)) ((oG pis bs m ls ls.length).map (fv pis)) (AB pis) (pis.drop m):=by
 unfold cFl at h;split at h
 ·rename_i hm;split at h
  ·rename_i pis hp;dsimp only at h;split at h<;>simp only[aa,reduceCtorEq]at h;rename_i fD;rw[aC,aC]at fD;exact⟨hm,pis,_,_,_,_,hp,fD.1,fD.2.1,fD.2.2,h.symm⟩
  ·simp at h
 ·simp at h
theorem iy{P:Program}{ops:Array Oper}{c:bw}(h:Ue P ops=some c):
  (∃ ds last gs tail,c=.kp ds last gs tail∧zE P ops (Region.before ops).toList=some c)∨(∃ a b,c=.both a b∧OM P ops=some c) ∨
   (∃ fls ds1 ds2 last gs tail,c=.M1 fls ds1 ds2 last gs tail∧cFl P ops (Region.before ops).toList=some c):=by
 unfold Ue at h;split at h
 ·rename_i c' hc;simp only[aa]at h;subst h;obtain⟨_,pis,m,ls,_,_,_,he⟩:=xZ hc;exact .inl ⟨_,_,_,_,he,hc⟩
 ·split at h
  ·rename_i c' hc;simp only[aa]at h;subst h;obtain⟨i,j,a,b,_,_,_,_,_,_,_,he⟩:=D9 hc;exact .inr (.inl ⟨a,b,he,hc⟩)
  ·obtain⟨_,pis,m,ls,fl,k1,_,_,_,_,he⟩:=Lc h;exact .inr (.inr ⟨_,_,_,_,_,_,he,h⟩)
def bA(n:Nat)(P:Program)(c:bw)(K:Exit→St→Prop)(st:St):Prop:=∀ code,fN P code=some c→PW n P code K st
theorem bA.mono{n:Nat}{P:Program}{c:bw}{K K':Exit→St→Prop}{st:St}(h:bA n P c K st)(hk:∀ e st',K e st'→K' e st'):bA n P c K' st :=
 fun code hc=>(h code hc).mono hk
section rules
variable {n:Nat} {P:Program} {K:Exit→St→Prop} {st:St}
theorem bA.skip(h:K .normal st):bA n P .skip K st:=by
 intro code hc;cases code
 case skip=>exact PW.skip h
 all_goals first | (exfalso;revert hc;simp only[fN];try ((repeat' split)<;>simp);done) | (rename_i _ ops draw;exfalso;cases draw<;>simp only[fN]at hc<;>first | (obtain⟨_,_,_,h⟩:=jC hc;simp at h;done) | (rcases iy hc with⟨_,_,_,_,h,_⟩ | ⟨_,_,h,_⟩ | ⟨_,_,_,_,_,_,h,_⟩<;>simp at h;done))
theorem bA.dq{gs:List Nat}{is:List Pi}(h:kW P gs is (K .normal) st):bA n P (.dq gs is) K st:=by
 intro code hc;cases code
 case region id ops draw =>
  cases draw
  ·simp only[fN]at hc;obtain⟨ps,zN,fD,he⟩:=jC hc;simp only[bw.dq.injEq]at he;obtain⟨rfl,rfl⟩:=he;intro B w0 w μ a hS hF;refine wp_region ?_
   have:=wS (P:=P) (ops:=ops) (n:=n) (B:=B) (gs:=AB is) (w0:=w0) (ws:=w) (σs:=st.σ) (μs:=μ) (K:=K .normal) (Q:=afu P n B w0 w st.σ μ K)
    (fun st' w' μ' a' h1 h2 h3 h4=>⟨st',μ',h1,h2,h3,h4⟩) ops.toList 0 is [] st.fr st.σ w μ a (fun j=>by simp) zN fD h hS hF.toI (fP.refl _ _ _ _)
   simp only[aK,List.map_id',aY]at this;exact this
  ·simp only[fN]at hc;rcases iy hc with⟨_,_,_,_,h,_⟩ | ⟨_,_,h,_⟩ | ⟨_,_,_,_,_,_,h,_⟩<;>simp at h
 all_goals first | (exfalso;revert hc;simp only[fN];try ((repeat' split)<;>simp);done)
theorem bA.kp{ds:List (List Pi×Pi×List Pi)}{last:List Pi}{gs:List Nat}{tail:List Pi}(h:tG P ds last (kW P gs tail (K .normal)) st):bA n P (.kp ds last gs tail) K st:=by
 intro code hc;cases code
 case region id ops draw =>
  cases draw
  ·simp only[fN]at hc;obtain⟨_,_,_,h⟩:=jC hc;simp at h
  ·simp only[fN]at hc;rcases iy hc with⟨_,_,_,_,_,hc⟩ | ⟨_,_,h,_⟩ | ⟨_,_,_,_,_,_,h,_⟩
   rotate_left
   ·simp at h
   ·simp at h
   obtain⟨hm,pis,m,ls,zN,fD,wH,he⟩:=xZ hc;simp only[bw.kp.injEq]at he;obtain⟨rfl,rfl,rfl,rfl⟩:=he;intro B w0 w μ a hS hF;exact JB (n:=n) hm zN fD wH h hS hF fun st' w' μ' a' h1 h2 h3 h4=>⟨st',μ',h1,h2,h3,h4⟩
 all_goals first | (exfalso;revert hc;simp only[fN];try ((repeat' split)<;>simp);done)
theorem Gp{ops:Array Oper}{bs:List Nat}{c:bw}(hc:zE P ops bs=some c)(h:∃ ds last gs tail,c=.kp ds last gs tail∧tG P ds last (kW P gs tail (K .normal)) st)
  {B:Nat} {w0 w:World} {μ:Mem} {a:Act} (hS:jw P B w0 w st.σ μ) (hF:FR w st.σ μ st.fr a) :
  wpAny P .any ops (fun e a' w'=>∃ st' μ',K e st'∧jw P B w0 w' st'.σ μ'∧FR w' st'.σ μ' st'.fr a'∧fP n w st.σ μ w' st'.σ μ') ops.size (Array.replicate ops.size false) a { w with drawn:=w.drawn+1 }:=by
 obtain⟨hm,pis,m,ls,zN,fD,wH,rfl⟩:=xZ hc;obtain⟨ds,last,gs,tail,he,h⟩:=h;simp only[bw.kp.injEq]at he;obtain⟨rfl,rfl,rfl,rfl⟩:=he;exact yD (n:=n) zN fD wH h hS hF fun st' w' μ' a' h1 h2 h3 h4=>⟨st',μ',h1,h2,h3,h4⟩
theorem bA.both{x y:bw}(h1:∃ ds last gs tail,x=.kp ds last gs tail∧tG P ds last (kW P gs tail (K .normal)) st)(h2:∃ ds last gs tail,y=.kp ds last gs tail∧tG P ds last (kW P gs tail (K .normal)) st):
  bA n P (.both x y) K st:=by
 intro code hc;cases code
 case region id ops draw =>
  cases draw
  ·simp only[fN]at hc;obtain⟨_,_,_,h⟩:=jC hc;simp at h
  ·simp only[fN]at hc;rcases iy hc with⟨_,_,_,_,h,_⟩ | ⟨a,b,h,hc⟩ | ⟨_,_,_,_,_,_,h,_⟩
   ·simp at h
   rotate_left
   ·simp at h
   obtain⟨i,j,a',b',Lu,hi,hj,hm,hp,ha,hb,he⟩:=D9 hc;simp only[bw.both.injEq]at he;obtain⟨rfl,rfl⟩:=he;intro B w0 w μ a hS hF;refine GR hm Lu hi hj hp ?_ ?_
   ·have:=Gp (n:=n) ha h1 hS hF
    rwa [kh]at this
   ·have:=Gp (n:=n) hb h2 hS hF
    rwa [Cq,kh]at this
 all_goals first | (exfalso;revert hc;simp only[fN];try ((repeat' split)<;>simp);done)
theorem bA.M1{fls:List (Nat×Nat×List V)}{ds1 ds2:List (List Pi×Pi×List Pi)}{last:List Pi}{gs:List Nat}{tail:List Pi}
  (h:Aa P (Lg fls) ds1 ds2 last (kW P gs tail (K .normal)) (yr st.σ.length fls st.fr) st.σ []):bA n P (.M1 fls ds1 ds2 last gs tail) K st:=by
 intro code hc;cases code
 case region id ops draw =>
  cases draw
  ·simp only[fN]at hc;obtain⟨_,_,_,h⟩:=jC hc;simp at h
  ·simp only[fN]at hc;rcases iy hc with⟨_,_,_,_,h,_⟩ | ⟨_,_,h,_⟩ | ⟨_,_,_,_,_,_,_,hc⟩
   ·simp at h
   ·simp at h
   obtain⟨hm,pis,m,ls,fl,k1,zN,fD,ZP,wH,he⟩:=Lc hc;simp only[bw.M1.injEq]at he;obtain⟨rfl,rfl,rfl,rfl,rfl,rfl⟩:=he;intro B w0 w μ a hS hF;exact wp_region_any hm (ED (n:=n) zN fD ZP wH h hS hF fun st' w' μ' a' h1 h2 h3 h4=>⟨st',μ',h1,h2,h3,h4⟩)
 all_goals first | (exfalso;revert hc;simp only[fN];try ((repeat' split)<;>simp);done)
theorem bA.ret(h:K .ret st):bA n P .ret K st:=by
 intro code hc;cases code
 case ret=>exact PW.ret h
 all_goals first | (exfalso;revert hc;simp only[fN];try ((repeat' split)<;>simp);done) | (rename_i _ ops draw;exfalso;cases draw<;>simp only[fN]at hc<;>first | (obtain⟨_,_,_,h⟩:=jC hc;simp at h;done) | (rcases iy hc with⟨_,_,_,_,h,_⟩ | ⟨_,_,h,_⟩ | ⟨_,_,_,_,_,_,h,_⟩<;>simp at h;done))
theorem bA.exit{id:Nat}(h:K (.exit id) st):bA n P (.exit id) K st:=by
 intro code hc;cases code
 case exit id'=>simp only[fN,aa,bw.exit.injEq]at hc;subst hc;exact PW.exit h
 all_goals first | (exfalso;revert hc;simp only[fN];try ((repeat' split)<;>simp);done) | (rename_i _ ops draw;exfalso;cases draw<;>simp only[fN]at hc<;>first | (obtain⟨_,_,_,h⟩:=jC hc;simp at h;done) | (rcases iy hc with⟨_,_,_,_,h,_⟩ | ⟨_,_,h,_⟩ | ⟨_,_,_,_,_,_,h,_⟩<;>simp at h;done))
def abv(n:Nat)(P:Program)(y:bw)(K:Exit→St→Prop):Exit→St→Prop
 | .normal,st=>bA n P y K st
 | e,st=>K e st
theorem bA.seq{x y:bw}(h:bA n P x (abv n P y K) st):bA n P (.seq x y) K st:=by
 intro code hc;cases code
 case seq p q =>
  simp only[fN]at hc;split at hc<;>simp only[aa,reduceCtorEq,bw.seq.injEq]at hc;rename_i p' q' hp hq;obtain⟨rfl,rfl⟩:=hc;refine PW.seq ((h p hp).mono ?_);intro e st' hK;cases e<;>first | exact hK q hq | exact hK
 all_goals first | (exfalso;revert hc;simp only[fN];try ((repeat' split)<;>simp);done) | (rename_i _ ops draw;exfalso;cases draw<;>simp only[fN]at hc<;>first | (obtain⟨_,_,_,h⟩:=jC hc;simp at h;done) | (rcases iy hc with⟨_,_,_,_,h,_⟩ | ⟨_,_,h,_⟩ | ⟨_,_,_,_,_,_,h,_⟩<;>simp at h;done))
theorem bA.block{id:Nat}{c:bw}(h:bA n P c (AO id K) st):bA n P (.block id c) K st:=by
 intro code hc;cases code
 case block id' c' =>
  simp only[fN,ar,bw.block.injEq]at hc;obtain⟨c2,zk,rfl,rfl⟩:=hc;exact PW.block (h c' zk)
 all_goals first | (exfalso;revert hc;simp only[fN];try ((repeat' split)<;>simp);done) | (rename_i _ ops draw;exfalso;cases draw<;>simp only[fN]at hc<;>first | (obtain⟨_,_,_,h⟩:=jC hc;simp at h;done) | (rcases iy hc with⟨_,_,_,_,h,_⟩ | ⟨_,_,h,_⟩ | ⟨_,_,_,_,_,_,h,_⟩<;>simp at h;done))
theorem bA.loop{c:bw}(I:St→Prop)(m:St→Nat)(h0:I st)(h:∀ st,I st→bA n P c (XR I m (m st) K) st):bA n P (.loop c) K st:=by
 intro code hc;cases code
 case loop c' =>
  simp only[fN,ar,bw.loop.injEq]at hc;obtain⟨c2,zk,rfl⟩:=hc;exact PW.loop I m h0 fun st hI=>h st hI c' zk
 all_goals first | (exfalso;revert hc;simp only[fN];try ((repeat' split)<;>simp);done) | (rename_i _ ops draw;exfalso;cases draw<;>simp only[fN]at hc<;>first | (obtain⟨_,_,_,h⟩:=jC hc;simp at h;done) | (rcases iy hc with⟨_,_,_,_,h,_⟩ | ⟨_,_,h,_⟩ | ⟨_,_,_,_,_,_,h,_⟩<;>simp at h;done))
theorem bA.ite{c:O}{x y:bw}{b:Bool}(hb:ev st.fr c=.b b)(ht:b=true→bA n P x K st)(hf:b=false→bA n P y K st):bA n P (.ite c x y) K st:=by
 intro code hc;cases code
 case cond c' p q =>
  simp only[fN]at hc;split at hc<;>simp only[aa,reduceCtorEq,bw.ite.injEq]at hc;rename_i c2 p' q' BT hp hq;obtain⟨rfl,rfl,rfl⟩:=hc;intro B w0 w μ a hS hF;have hv:=(hb▸eQ hF BT).rT;cases b
  ·exact wp_cond_false hv (hf rfl q hq B w0 w μ a hS hF)
  ·exact wp_cond_true hv (ht rfl p hp B w0 w μ a hS hF)
 all_goals first | (exfalso;revert hc;simp only[fN];try ((repeat' split)<;>simp);done) | (rename_i _ ops draw;exfalso;cases draw<;>simp only[fN]at hc<;>first | (obtain⟨_,_,_,h⟩:=jC hc;simp at h;done) | (rcases iy hc with⟨_,_,_,_,h,_⟩ | ⟨_,_,h,_⟩ | ⟨_,_,_,_,_,_,h,_⟩<;>simp at h;done))
end rules
inductive V.Wf:V→Prop
 | s (l:List UInt8) (h:l.length≤maxLen):Wf (.s l)
 | sl (sz:Nat) (xs:List (List V)) (h:xs.length≤maxLen) (hr:∀ r∈xs,r.length=sz) (hx:∀ i j x,fe xs i j=some x→Wf x):Wf (.sl sz xs)
 | agg (xs:List V) (h:∀ (i:Nat) (x:V),xs[i]?=some x→Wf x):Wf (.agg xs)
 | b (x):Wf (.b x)
 | i (k n):Wf (.i k n)
 | u:Wf .u
 | nil:Wf .nil
 | lit (sz xs):Wf (.lit sz xs)
 | own (id g):Wf (.own id g)
 | sub (id g lo hi):Wf (.sub id g lo hi)
 | ptr (id off):Wf (.ptr id off)
 | ep (sz xs i off):Wf (.ep sz xs i off)
 | rp (id g i off):Wf (.rp id g i off)
 | mp (id):Wf (.mp id)
 | jc:Wf .jc
 | jO:Wf .jO
 | fn (f caps):Wf (.fn f caps)
 | iK (xs):Wf (.iK xs)
theorem VR.wf{w:World}{σ:ag}{μ:Mem}{x:V}{v:Value}(h:VR w σ μ x v):x.Wf:=by
 induction h with
 | u v=>exact .u
 | b x=>exact .b x
 | i k n=>exact .i k n
 | s l x hl hm=>exact .s l hm
 | nil=>exact .nil
 | yq sz=>exact .sl sz [] (by simp) (by simp) (by simp[fe])
 | sle sz a=>exact .sl sz [] (by simp) (by simp) (by simp[fe])
 | sl sz xs b o cap f hlen nI cP hc hv ih=>exact .sl sz xs (bZ hlen nI) cP ih
 | HY sz=>exact .lit sz _
 | lit sz xs b o f nI cP hc hv ih=>exact .lit sz xs
 | own id g v hid h=>exact .own id g
 | sub id g lo hi v hid h=>exact .sub id g lo hi
 | ptr id off b h hm=>exact .ptr id off
 | ep sz xs i off b o f hi cP hc hv ih=>exact .ep sz xs i off
 | rp id g i off v hid h=>exact .rp id g i off
 | mp id r h hm=>exact .mp id
 | jc=>exact .jc
 | jO=>exact .jO
 | fn f caps vs hl hv ih=>exact .fn f caps
 | agg xs vs hl hv ih=>exact .agg xs ih
 | iK xs vs hl hv ih=>exact .iK xs
def bP(σ:ag):Prop:=∀ (id T:Nat) (cs:List V),σ[id]?=some (.box T cs)→∀ (j:Nat) (x:V),cs[j]?=some x→x.Lt σ.length
theorem jw.closed{P:Program}{B:Nat}{w0 w:World}{σ:ag}{μ:Mem}(hS:jw P B w0 w σ μ):bP σ:=by
 intro id T cs h j x hx;obtain⟨b,vs,_,_,_,_,qV⟩:=hS.Li h;obtain⟨u,_,hv⟩:=qV j x hx;exact hv.lt
def Wk(P:Program)(n:Nat)(xs:List V)(σ:ag)(xs':List V)(σ':ag):Prop :=
 ∀ (B:Nat) (w0 w:World) (μ:Mem) (vs:Array Value),jw P B w0 w σ μ→CR w σ μ xs vs→∃ μ',jw P B w0 w σ' μ'∧CR w σ' μ' xs' vs∧fP n w σ μ w σ' μ'
theorem Wk.refl{P:Program}{n:Nat}(xs:List V)(σ:ag):Wk P n xs σ xs σ:=fun _ _ _ μ _ h1 h2=>⟨μ,h1,h2,fP.refl _ _ _ _⟩
theorem Wk.trans{P:Program}{n:Nat}{xs:List V}{σ:ag}{xs':List V}{σ':ag}{xs'':List V}{σ'':ag}(h:Wk P n xs σ xs' σ')(k:Wk P n xs' σ' xs'' σ''):Wk P n xs σ xs'' σ'':=by
 intro B w0 w μ vs h1 h2;obtain⟨μ1,h3,h4,h5⟩:=h B w0 w μ vs h1 h2;obtain⟨μ2,h6,h7,h8⟩:=k B w0 w μ1 vs h3 h4;exact⟨μ2,h6,h7,h5.trans h8⟩
theorem bA.wk{P:Program}{n:Nat}{c:bw}{K:Exit→St→Prop}{fr fr':List V}{σ σ':ag}(h:Wk P n fr σ fr' σ')(k:bA n P c K ⟨fr',σ'⟩):bA n P c K ⟨fr,σ⟩:=by
 intro code hc B w0 w μ a hS hF;obtain⟨μ',h1,h2,h3⟩:=h B w0 w μ a.tmps hS ⟨hF.2.1.symm,hF.2.2⟩;exact wp_mono (k code hc B w0 w μ' a h1 ⟨hF.1,h2.1.symm,h2.2⟩) fun e a' w' ⟨st',μ2,h4,h5,h6,h7⟩=>⟨st',μ2,h4,h5,h6,h3.trans h7⟩
theorem PC.wk{P:Program}{f:Nat}{args args':List V}{σ σ':ag}{Q:V→ag→Prop}(h:Wk P σ.length args σ args' σ')(k:PC P f args' σ' Q):PC P f args σ Q:=by
 intro B w0 w μ vs hS hv;obtain⟨μ',h1,h2,h3⟩:=h B w0 w μ vs hS ⟨hv.1.symm,hv.2⟩;refine(k B w0 w μ' vs h1 ⟨h2.1.symm,h2.2⟩).mono ?_;rintro e w' ⟨r,v,σ2,μ2,rfl,h4,h5,h6,h7⟩;exact⟨r,v,σ2,μ2,rfl,h4,h5,h6,fun x u hx=>h7 x u (h3 x u hx hx.lt)⟩
inductive Cv:V→V→Prop
 | refl (x):Cv x x
 | forget (x):Cv x .u
 | nil (sz):Cv .nil (.sl sz [])
 | lit (sz xs):Cv (.lit sz xs) (.sl sz xs)
 | agg (xs ys:List V) (hl:ys.length=xs.length) (h:∀ (i:Nat) (x y:V),xs[i]?=some x→ys[i]?=some y→Cv x y):Cv (.agg xs) (.agg ys)
 | iK (xs ys:List V) (hl:ys.length=xs.length) (h:∀ (i:Nat) (x y:V),xs[i]?=some x→ys[i]?=some y→Cv x y):Cv (.iK xs) (.iK ys)
theorem Cv.ok{w:World}{σ:ag}{μ:Mem}{x y:V}(h:Cv x y):∀ {v:Value},VR w σ μ x v→VR w σ μ y v:=by
 induction h with
 | refl x=>exact fun h=>h
 | forget x=>exact fun _=>.u _
 | nil sz=>intro v h;rw[h.lG];exact .yq _
 | lit sz xs =>
  intro v h;rcases h.qR with⟨rfl,rfl⟩ | ⟨b,o,f,rfl,hm,hr⟩
  ·exact .yq _
  ·exact .sl _ _ b o _ f (aB _) hm hr.1 hr.2.1 hr.2.2
 | agg xs ys hl hc ih =>
  intro v h;obtain⟨vs,rfl,h1,h2⟩:=h.qS;refine .agg ys vs (by rw[hl,h1]) fun i y hy=>?_;have hi:i<xs.length:=by rw[← hl];exact(ae.1 hy).1
  exact ih i xs[i] y (aw hi) hy (h2 i _ (aw hi))
 | iK xs ys hl hc ih =>
  intro v h;obtain⟨vs,rfl,h1,h2⟩:=h.H6;refine .iK ys vs (by rw[hl,h1]) fun i y hy=>?_;have hi:i<xs.length:=by rw[← hl];exact(ae.1 hy).1
  exact ih i xs[i] y (aw hi) hy (h2 i _ (aw hi))
inductive pH:List V→List V→Prop
 | nil:pH [] []
 | cons {x y xs ys} (h:Cv x y) (t:pH xs ys):pH (x::xs) (y::ys)
theorem pH.at{xs ys:List V}(h:pH xs ys):ys.length=xs.length∧∀ (i:Nat) (x y:V),xs[i]?=some x→ys[i]?=some y→Cv x y:=by
 induction h with
 | nil=>simp
 | cons h t ih =>
  refine⟨by simp[ih.1],fun i x y hx hy=>?_⟩;cases i with
  | zero=>simp only[ao,aa]at hx hy;subst hx;subst hy;exact h
  | succ i=>exact ih.2 i x y (by simpa using hx) (by simpa using hy)
theorem pH.refl(xs:List V):pH xs xs:=by
 induction xs with
 | nil=>exact .nil
 | cons x xs ih=>exact .cons (.refl x) ih
theorem Cv.ir{xs ys:List V}(h:pH xs ys):Cv (.agg xs) (.agg ys):=.agg xs ys h.at.1 h.at.2
theorem Wk.ej{P:Program}{n:Nat}{xs ys:List V}{σ:ag}(h:pH xs ys):Wk P n xs σ ys σ:=by
 intro B w0 w μ vs hS hC;obtain⟨h1,h2⟩:=h.at;refine⟨μ,hS,⟨by rw[h1];exact hC.1,fun i y hy=>?_⟩,fP.refl _ _ _ _⟩;have hi:i<xs.length:=by rw[← h1];exact(ae.1 hy).1
 exact(h2 i xs[i] y (aw hi) hy).ok (hC.2 i _ (aw hi))
theorem Wk.share{P:Program}{n:Nat}{xs:List V}{σ:ag}{id E sz by' g:Nat}{sh:Bool}{rows:List (List V)}(ho:σ[id]?=some (.row E sz by' g sh rows)):Wk P n xs σ xs (σ.set id (.row E sz by' g true rows)):=by
 intro B w0 w μ vs hS hC;have fk:id<σ.length:=(ae.1 ho).1
 have Q7:=hS.update (w':=w) (σ':=σ.set id (.row E sz by' g true rows)) (μ':=μ) id none (grownBy_refl w none) (by simp) (by simp) (fun j hj=>bn (fun e=>hj e.symm)) (fun _ _=>rfl)
  (fun b hb=>.inl ⟨_,ho,by simp,hb⟩)
  (fun b off u o h1 _ h2 h3 h4=>⟨h3,fun o' h5 h6=>by
   rw[ho]at h1;simp only[aa]at h1;subst h1;simp only[aF fk,aa]at h5;subst h5;intro hw;exact h4 ⟨id,_,ho,h2,fun _=>hw rfl⟩⟩)
  (fun T cs h=>by rw[ho]at h;simp at h) (fun K E es h=>by rw[ho]at h;simp at h)
  (fun E2 sz2 by2 g2 sh2 xs2 _ h=>by
   simp only[aF fk,aa,Ob.row.injEq]at h;obtain⟨rfl,rfl,rfl,rfl,rfl,rfl⟩:=h;exact⟨g,sh,rows,ho,aB _,fun _=>⟨rfl,rfl⟩⟩)
  (fun hp o h=>by
   simp only[aF fk,aa]at h;subst h;exact(hS.obj id _ ho).bY hp.bY fun _ _=>rfl)
 exact⟨μ,Q7.1,⟨hC.1,fun i x hx=>(hC.2 i x hx).mono Q7.2⟩,Q7.2.bY.Nv⟩
theorem VR.uB{P:Program}{B:Nat}{w0 w:World}{σ:ag}{μ:Mem}(hS:jw P B w0 w σ μ){id E sz by' g:Nat}{rows:List (List V)}(ho:σ[id]?=some (.row E sz by' g true rows))(lo hi:Nat)(hlh:lo≤hi)(hh:hi≤rows.length):
  VR w σ μ (.sl sz ((rows.drop lo).take (hi - lo))) (pW (μ id) lo hi sz):=by
 obtain⟨_,cP,hr⟩:=hS.rowAt ho;have hl:((rows.drop lo).take (hi - lo)).length=hi - lo:=by simp;omega
 rcases hr with⟨hm,hn⟩ | ⟨b,cap,cur,hm,_,hc,Il,_,hr⟩
 ·subst hn;simp only[ah]at hh;have h3:lo=0:=by omega
  have h4:hi=0:=by omega
  subst h3;subst h4;rw[hm];exact .yq sz
 ·rw[hm];let f:Nat→Nat→Value:=fun i j=>(w.cell? ⟨b,i*sz+j,none⟩).getD undef
  have hf:∀ i j x,fe rows i j=some x→w.cell? ⟨b,i*sz+j,none⟩=some (f i j)∧x.pure=true∧VR w σ μ x (f i j):=by
   intro i j x hx;obtain⟨h1,u,h2,h3⟩:=hr i j x hx;have:f i j=u:=by simp[f,h2]
   exact⟨by rw[this];exact h2,h1,by rw[this];exact h3⟩
  have hnw:∀ i j x,fe rows i j=some x→¬ wr σ μ b (i*sz+j):=by
   rintro i j x hx ⟨id2,o2,h1,h2,h3⟩;have hd:o2≠.dead:=by rintro rfl;exact h3
   have:=hS.sep id id2 _ o2 b ho h1 (by simp) hd (by simp[hm,lf]) h2;subst this;rw[ho]at h1;simp only[aa]at h1;subst h1;have h4:=h3 rfl;obtain⟨r,hr1,ZN⟩:=kL hx;have hi':i<rows.length:=(ae.1 hr1).1;have hj:j<sz:=by rw[← cP r (bh hr1)];exact(ae.1 ZN).1
   have:(i+1)*sz≤rows.length*sz:=cA _ hi';rw[Nat.add_mul,oh]at this;omega
  have dY:qx w σ μ rows sz b 0 f:=⟨cP,fun i j x hx=>⟨by rw[aK];exact(hf i j x hx).1,by rw[aK];exact hnw i j x hx,(hf i j x hx).2.1⟩,fun i j x hx=>(hf i j x hx).2.2⟩
  by_cases he:cap=lo
  ·have h3:hi - lo=0:=by omega
   simp only[pW,he,if_true,h3,fJ,iu];exact .sl sz [] b 0 0 f (by simp) (by simp) (by simp) (by simp[fe]) (by simp[fe])
  ·simp only[pW,he,if_false,cU,Addr.add_lit];have h5:=dY.sub lo (hi - lo);have h6:=VR.sl (w:=w) (σ:=σ) (μ:=μ) sz _ b _ (cap - lo) _ (by rw[hl];omega) (by omega) h5.1 h5.2.1 h5.2.2
   rwa [hl]at h6
theorem Cr{P:Program}{B:Nat}{w0 w:World}{σ:ag}{μ:Mem}(hS:jw P B w0 w σ μ){id E sz by' g:Nat}{sh:Bool}{rows:List (List V)}(ho:σ[id]?=some (.row E sz by' g sh rows)):pW (μ id) 0 rows.length sz=μ id:=by
 rcases(hS.rowAt ho).2.2 with⟨hm,hn⟩ | ⟨b,cap,cur,hm,_⟩
 ·subst hn;rw[hm];rfl
 ·rw[hm];simp[pW,Addr.add_lit]
theorem Wk.own{P:Program}{n:Nat}{xs:List V}{σ:ag}{k id E sz by' g:Nat}{rows:List (List V)}(ho:σ[id]?=some (.row E sz by' g true rows))(hk:xs[k]?=some (.own id g)):Wk P n xs σ (xs.set k (.sl sz rows)) σ:=by
 intro B w0 w μ vs hS hC;have fk:k<xs.length:=(ae.1 hk).1;refine⟨μ,hS,⟨by simp[hC.1],fun i y hy=>?_⟩,fP.refl _ _ _ _⟩
 by_cases hi:i=k
 ·subst hi;rw[aF fk]at hy;simp only[aa]at hy;subst hy;have h1:=hC.2 i _ hk;have h2:=h1.lX ho;rw[h2];have:=VR.uB hS ho 0 rows.length (by omega) (aB _);rw[Cr hS ho]at this;simpa using this
 ·rw[bn (fun e=>hi e.symm)]at hy;exact hC.2 i y hy
theorem Wk.sub{P:Program}{n:Nat}{xs:List V}{σ:ag}{k id E sz by' g lo hi:Nat}{rows:List (List V)}(ho:σ[id]?=some (.row E sz by' g true rows))(hk:xs[k]?=some (.sub id g lo hi)):Wk P n xs σ (xs.set k (.sl sz ((rows.drop lo).take (hi - lo)))) σ:=by
 intro B w0 w μ vs hS hC;have fk:k<xs.length:=(ae.1 hk).1;refine⟨μ,hS,⟨by simp[hC.1],fun i y hy=>?_⟩,fP.refl _ _ _ _⟩
 by_cases hi:i=k
 ·subst hi;rw[aF fk]at hy;simp only[aa]at hy;subst hy;obtain⟨h1,h2,h3⟩:=(hC.2 i _ hk).zd ho;rw[h3];exact VR.uB hS ho lo _ h1 h2
 ·rw[bn (fun e=>hi e.symm)]at hy;exact hC.2 i y hy
theorem Wk.gZ{P:Program}{n:Nat}{xs:List V}{σ:ag}{k E sz by':Nat}(hT:Ti P E sz by')(hk:xs[k]?=some .nil):Wk P n xs σ (xs.set k (.own σ.length 0)) (σ++[.row E sz by' 0 false []]):=by
 intro B w0 w μ vs hS hC;have fk:k<xs.length:=(ae.1 hk).1;have hn:=hS.uE (w':=w) (.row E sz by' 0 false []) (.slice none 0 0) (grownBy_refl w none) (by simp[lf]) (fun _=>⟨hT,[],World.ownsRow_nil w B E sz,by simp,by simp[fe]⟩);refine⟨_,hn.1,⟨by simp[hC.1],fun i y hy=>?_⟩,hn.2.bY.Nv⟩
 by_cases hi:i=k
 ·subst hi;rw[aF fk]at hy;simp only[aa]at hy;subst hy;rw[(hC.2 i _ hk).lG];have:=VR.qc (w:=w) (σ:=σ++[.row E sz by' 0 false []]) (μ:=wu μ σ.length (.slice none 0 0)) (id:=σ.length) (E:=E) (sz:=sz) (by':=by') (g:=0) (sh:=false) (xs:=[]) (by simp)
  rwa [fo]at this
 ·rw[bn (fun e=>hi e.symm)]at hy;exact(hC.2 i y hy).mono hn.2
theorem kY{x:V}(h:x.pure=true)(m:Nat):x.Lt m:=by
 cases x<;>simp[V.pure]at h
 ·exact .b _
 ·exact .i _ _
 ·exact .s _
 ·exact .sl _ _
theorem VR.take{w:World}{σ:ag}{μ:Mem}{x:V}{v:Value}(h:VR w σ μ x v){m:Nat}(hm:m≤σ.length)(hx:x.Lt m):VR w (σ.take m) μ x v:=by
 have hw:∀ b off,wr (σ.take m) μ b off→wr σ μ b off:=by
  rintro b off ⟨id,o,h1,h2,h3⟩;refine⟨id,o,?_,h2,h3⟩;rw[iz]at h1;split at h1
  ·exact h1
  ·simp at h1
 have dY:∀ {id:Nat} {o:Ob},id<m→((σ.take m)[id]?=some o↔σ[id]?=some o):=fun h=>by rw[bz h]
 have hlen:(σ.take m).length=m:=by simp;omega
 induction h with
 | u v=>exact .u v
 | b x=>exact .b x
 | i k n=>exact .i k n
 | s l x hl hm=>exact .s l x hl hm
 | nil=>exact .nil
 | yq sz=>exact .yq sz
 | sle sz a=>exact .sle sz a
 | sl sz xs b o cap f hlen nI cP hc hv ih =>
  exact .sl sz xs b o cap f hlen nI cP (fun i j x hx=>⟨(hc i j x hx).1,fun h=>(hc i j x hx).2.1 (hw _ _ h),(hc i j x hx).2.2⟩) (fun i j x hx=>ih i j x hx (kY (hc i j x hx).2.2 m))
 | HY sz=>exact .HY sz
 | lit sz xs b o f nI cP hc hv ih =>
  exact .lit sz xs b o f nI cP (fun i j x hx=>⟨(hc i j x hx).1,fun h=>(hc i j x hx).2.1 (hw _ _ h),(hc i j x hx).2.2⟩) (fun i j x hx=>ih i j x hx (kY (hc i j x hx).2.2 m))
 | own id g v hid h =>
  cases hx with
  | own _ _ hl=>exact .own id g v (by rw[hlen];exact hl) fun E sz by' g' sh xs ho=>h E sz by' g' sh xs ((dY hl).1 ho)
 | sub id g lo hi v hid h =>
  cases hx with
  | sub _ _ _ _ hl=>exact .sub id g lo hi v (by rw[hlen];exact hl) fun E sz by' g' sh xs ho=>h E sz by' g' sh xs ((dY hl).1 ho)
 | ptr id off b h hm =>
  cases hx with
  | ptr _ _ hl =>
   obtain⟨T,cs,h1⟩:=h;exact .ptr id off b ⟨T,cs,(dY hl).2 h1⟩ hm
 | ep sz xs i off b o f hi cP hc hv ih =>
  exact .ep sz xs i off b o f hi cP (fun j x hx=>⟨(hc j x hx).1,fun h=>(hc j x hx).2.1 (hw _ _ h),(hc j x hx).2.2⟩) (fun j x hx=>ih j x hx (kY (hc j x hx).2.2 m))
 | rp id g i off v hid h =>
  cases hx with
  | rp _ _ _ _ hl=>exact .rp id g i off v (by rw[hlen];exact hl) fun E sz by' g' sh xs ho=>h E sz by' g' sh xs ((dY hl).1 ho)
 | mp id r h hm =>
  cases hx with
  | mp _ hl =>
   obtain⟨K,E,es,h1⟩:=h;exact .mp id r ⟨K,E,es,(dY hl).2 h1⟩ hm
 | jc=>exact .jc
 | jO=>exact .jO
 | fn f caps vs hl hv ih =>
  cases hx with
  | fn _ _ h=>exact .fn f caps vs hl fun i x hx=>ih i x hx (h i x hx)
 | agg xs vs hl hv ih =>
  cases hx with
  | agg _ h=>exact .agg xs vs hl fun i x hx=>ih i x hx (h i x hx)
 | iK xs vs hl hv ih =>
  cases hx with
  | iK _ h=>exact .iK xs vs hl fun i x hx=>ih i x hx (h i x hx)
theorem vP{x:V}(h:x.qi=true)(m:Nat):x.Lt m:=by
 cases x<;>simp[V.qi]at h
 ·exact .b _
 ·exact .i _ _
 ·exact .s _
 ·rename_i xs;refine .agg _ fun i x hx=>?_;have:=h x (bh hx);cases x<;>simp[V.abA]at this
  ·exact .b _
  ·exact .i _ _
  ·exact .s _
theorem vO{x:V}(h:x.BQ=true)(m:Nat):x.Lt m:=by
 by_cases ha:∃ xs,x=.agg xs
 ·obtain⟨xs,rfl⟩:=ha;simp only[V.BQ,bI]at h;exact .agg _ fun i x hx=>kY (h x (bh hx)) m
 ·refine kY ?_ m;cases x<;>first | exact h | exact absurd ⟨_,rfl⟩ ha
theorem Wk.drop{P:Program}{n m:Nat}{xs:List V}{σ:ag}(hnm:n≤m)(hm:m≤σ.length)(hx:∀ (i:Nat) (x:V),xs[i]?=some x→x.Lt m)(aQ:∀ (id T:Nat) (cs:List V),id<m→σ[id]?=some (.box T cs)→∀ (j:Nat) (x:V),cs[j]?=some x→x.Lt m):Wk P n xs σ xs (σ.take m):=by
 intro B w0 w μ vs hS hC
 have dY:∀ {id:Nat} {o:Ob},(σ.take m)[id]?=some o→id<m∧σ[id]?=some o:=by
  intro id o h;rw[iz]at h;split at h
  ·exact⟨by assumption,h⟩
  ·simp at h
 refine⟨μ,⟨hS.below,hS.base,fun id o ho=>?_,fun i j oi oj b hi hj h1 h2 h3 h4=>hS.sep i j oi oj b (dY hi).2 (dY hj).2 h1 h2 h3 h4⟩,⟨hC.1,fun i x hx'=>(hC.2 i x hx').take hm (hx i x hx')⟩,fun x v hv hl=>hv.take hm (hl.mono hnm)⟩;obtain⟨hid,ho'⟩:=dY ho;have ff:=hS.obj id o ho';cases o with
 | dead=>trivial
 | box T cs =>
  obtain⟨b,us,h1,h2,h3,h4,h5⟩:=ff;exact⟨b,us,h1,h2,h3,h4,fun j x hj=>let ⟨u,h6,h7⟩:=h5 j x hj;⟨u,h6,h7.take hm (aQ id T cs hid ho' j x hj)⟩⟩
 | row E sz by' g sh rows =>
  obtain⟨h1,vals,h2,h3⟩:=ff;exact⟨h1,vals,h2,h3.1,fun i j x hj=>let ⟨h4,u,h5,h6⟩:=h3.2 i j x hj;⟨h4,u,h5,h6.take hm (kY h4 m)⟩⟩
 | map K E es =>
  obtain⟨r,ents,clock,h1,h2,h3,h4⟩:=ff;exact⟨r,ents,clock,h1,h2,h3,h4.1,fun i k x hi=>let ⟨h5,h6,e,h7,h8,h9⟩:=h4.2.1 i k x hi;⟨h5,h6,e,h7,h8.take hm (vP h5 m),h9.take hm (vO h6 m)⟩,h4.2.2⟩
theorem Wk.r3{P:Program}{n:Nat}{xs:List V}{σ loc:ag}(hn:n≤σ.length)(aQ:bP σ)(hx:∀ (i:Nat) (x:V),xs[i]?=some x→x.Lt σ.length):Wk P n xs (σ++loc) xs σ:=by
 have:=Wk.drop (P:=P) (n:=n) (m:=σ.length) (xs:=xs) (σ:=σ++loc) hn (by simp) hx (fun id T cs hid h j x hj=>aQ id T cs (by rwa [aH hid]at h) j x hj);simpa using this
inductive Rs where
 | t (n:Nat)
 | c (n:Nat) (k:Option Nat)
structure bT where
 nt:Nat
 rs:List Rs
 c:bw
def Ye(P:Program):List ResultVar→Option (List Rs)
 | []=>some []
 | .tmp t::r=>(Ye P r).map (.t t::·)
 | .cell t T::r=>match jr P T,P.info? T,Ye P r with
  | some true,some ti,some rs=>some (.c t (some ti.size)::rs)
  | some false,some _,some rs=>some (.c t none::rs)
  | _,_,_=>none
def aP(P:Program)(fn:Func):Option bT :=
 match fn.body with
 | some code=>match fN P code,Ye P fn.results.toList with
  | some c,some rs=>some ⟨fn.ntmps,rs,c⟩
  | _,_=>none
 | none=>none
def sj(st:St):Rs→Option V
 | .t n=>some (st.fr.getD n .u)
 | .c n k=>match st.fr.getD n .u with
  | .ptr id off=>match st.σ[id]? with
   | some (.box _ cs)=>match k with
    | none=>cs[off]?
    | some m=>if off+m≤cs.length then some (.agg ((cs.drop off).take m))else none
   | _=>none
  | _=>none
def kO(st:St):List Rs→Option (List V)
 | []=>some []
 | r::rs=>match sj st r,kO st rs with
  | some x,some xs=>some (x::xs)
  | _,_=>none
def one:List V→V
 | [x]=>x
 | xs=>.iK xs
def BI(P:Program)(n:Nat)(rs:List Rs)(Q:V→ag→Prop)(e:Exit)(st:St):Prop :=
 (e=.normal∨e=.ret)∧∃ xs,kO st rs=some xs∧∃ r σ',Wk P n [one xs] st.σ [r] σ'∧Q r σ'
def L0(tmps:Array Value):ResultVar→Sem Value
 | .tmp t=>pure (tmps.getD t undef)
 | .cell a t=>do loadVar t (← asAddr (tmps.getD a undef))
theorem LY(fn:Func)(tmps:Array Value):results fn tmps=(do let vs ← fn.results.mapM (L0 tmps);pure (if h:vs.size=1 then vs[0]else .tuple vs)):=rfl
theorem AY{P:Program}{B:Nat}{w0 w:World}{st:St}{μ:Mem}{a:Act}(hS:jw P B w0 w st.σ μ)(hF:FR w st.σ μ st.fr a):∀ (l:List ResultVar) (rs:List Rs) (xs:List V),Ye P l=some rs→kO st rs=some xs →
  ∃ vs:List Value,(l.mapM (L0 a.tmps)).run P w=.ok vs w∧vs.length=xs.length∧∀ (i:Nat) (x:V),xs[i]?=some x→VR w st.σ μ x (vs.getD i undef)
 | [],rs,xs,hc,hx=>by
  simp only[Ye,aa]at hc;subst hc;simp only[kO,aa]at hx;subst hx;exact⟨[],by simp,rfl,by simp⟩
 | r::l,rs,xs,hc,hx=>by
  have key:∃ r' rs',rs=r'::rs'∧Ye P l=some rs'∧∀ x,sj st r'=some x→∃ v,(L0 a.tmps r).run P w=.ok v w∧VR w st.σ μ x v:=by
   cases r with
   | tmp t =>
    simp only[Ye,ar]at hc;obtain⟨rs',h1,rfl⟩:=hc;refine⟨.t t,rs',rfl,h1,fun x h=>⟨_,rfl,?_⟩⟩;simp only[sj,aa]at h;subst h;exact hF.at t
   | cell t T =>
    simp only[Ye]at hc
    have inner:∀ (g:Bool) (ti:TypeInfo),jr P T=some g→P.info? T=some ti→∀ x,sj st (.c t (if g then some ti.size else none))=some x→∃ v,(do loadVar T (← asAddr (a.tmps.getD t undef)):Sem Value).run P w=.ok v w∧VR w st.σ μ x v:=by
     intro g ti hg hti x h;simp only[sj]at h;split at h
     ·rename_i id off hp;have h1:=hp▸hF.at t;obtain⟨b,hm,hv,_⟩:=h1.sN;split at h
      ·rename_i T' cs hb;obtain⟨b',vs,hm',hB,hh,gO,qV⟩:=hS.Li hb;rw[hm]at hm';simp only[Value.pointer.injEq,aa,Addr.mk.injEq,and_true]at hm';subst hm';have hl:=Kn (P:=P) (σ:=st.σ) (μ:=μ) (row:=cs) (k:=if g then some ti.size else none) (b:=b) (off:=off) hti (Kv hg) off (fun j z hz=>qV _ z hz)
       have he:(do loadVar T (← asAddr (a.tmps.getD t undef)):Sem Value).run P w=(Instr.loadAt T (.pointer (some ⟨b,off,none⟩))).run P w:=by
        rw[hv];rfl
       rw[he];cases g
       ·simp only[aD,if_false]at h hl;exact hl.1 trivial x h
       ·simp only[if_true]at h hl;split at h<;>simp only[aa,reduceCtorEq]at h;rename_i hle;subst h;exact hl.2 _ rfl hle
      ·simp at h
     ·simp at h
    split at hc<;>simp only[aa,reduceCtorEq]at hc
    ·rename_i ti rs' hg hti h1;exact⟨_,rs',hc.symm,h1,fun x h=>inner true ti hg hti x h⟩
    ·rename_i ti rs' hg hti h1;exact⟨_,rs',hc.symm,h1,fun x h=>inner false ti hg hti x h⟩
  obtain⟨r',rs',rfl,h1,h2⟩:=key;simp only[kO]at hx;split at hx<;>simp only[aa,reduceCtorEq]at hx;rename_i x ys tC B9;subst hx;obtain⟨v,h3,h4⟩:=h2 x tC;obtain⟨vs,h5,h6,h7⟩:=AY hS hF l rs' ys h1 B9;refine⟨v::vs,?_,by simp[h6],fun i y hy=>?_⟩
  ·simp only[List.mapM_cons,Sem.run_bind,h3,Result.andThen_ok,h5,Sem.run_pure]
  ·cases i with
   | zero=>simp only[ao,aa]at hy;subst hy;simpa using h4
   | succ i=>simpa using h7 i y (by simpa using hy)
theorem PC.intro{P:Program}{f:Nat}{fn:Func}{pf:bT}{args:List V}{σ:ag}{Q:V→ag→Prop}(hf:P.funcs[f]?=some fn)(hc:aP P fn=some pf)
  (h:bP σ→(∀ (i:Nat) (x:V),args[i]?=some x→x.Wf∧x.Lt σ.length)→bA σ.length P pf.c (BI P σ.length pf.rs Q) ⟨args++List.replicate (pf.nt - args.length) .u,σ⟩):PC P f args σ Q:=by
 unfold aP at hc;split at hc
 ·rename_i code hb;split at hc<;>simp only[aa,reduceCtorEq]at hc;rename_i c rs BT Ov;subst hc;intro B w0 w μ vs hS hv;refine calls_of_wp hf hb ?_
  have hF:FR w σ μ (args++List.replicate (fn.ntmps - args.length) .u) { tmps:=vs++Array.replicate (fn.ntmps - vs.size) undef,defers:=[] }:=by
   refine⟨rfl,by simp[hv.1],fun i x hx=>?_⟩
   by_cases hi:i<args.length
   ·rw[aH hi]at hx;have h1:=hv.2 i x hx;have Lv:i<vs.size:=by rw[hv.1];exact hi
    have e:(vs++Array.replicate (fn.ntmps - vs.size) undef).getD i undef=vs.getD i undef:=by
     simp only[bN,ot Lv]
    simp only[e];exact h1
   ·rw[aN (by omega)]at hx
    have:x=.u:=by
     have:=(ae.1 hx).2;simpa using this.symm
    subst this;exact .u _
  refine wp_mono (h hS.closed (fun i x hx=>⟨(hv.2 i x hx).wf,(hv.2 i x hx).lt⟩) code BT B w0 w μ _ hS hF) ?_;rintro e a' w' ⟨st',μ',hK,hS',hF',hk⟩;obtain⟨he,xs,Bk,r,σ',hw,hQ⟩:=hK;obtain⟨us,h1,h2,h3⟩:=AY hS' hF' fn.results.toList rs xs Ov Bk
  have ail:∃ v,(results fn a'.tmps).run P w'=.ok v w'∧VR w' st'.σ μ' (one xs) v:=by
   have hr:(results fn a'.tmps).run P w'=.ok (if h:us.toArray.size=1 then us.toArray[0]else .tuple us.toArray) w':=by
    rw[LY,Array.mapM_eq_mapM_toList];simp only[Sem.run_bind,Sem.run_map,h1,Result.andThen_ok,Sem.run_pure]
   refine⟨_,hr,?_⟩
   match xs,us,h2,h3 with
   | [x],[u],_,h3=>have:=h3 0 x rfl;exact this
   | [],[],_,_=>exact .iK [] #[] rfl (by simp)
   | x::y::xs,u::v::us,h2,h3 =>
    have iQ:¬ ((u::v::us).toArray.size=1):=by simp
    rw[dif_neg iQ]
    exact .iK _ _ (by simpa using h2.symm) fun i z hz=>by
     have:=h3 i z hz;simpa[List.getD_eq_getElem?_getD]using this
  obtain⟨v,hr,hv'⟩:=ail
  obtain⟨μ2,h4,h5,h6⟩:=hw B w0 w' μ' #[v] hS' ⟨rfl,fun i x hx=>by
   cases i with
   | zero=>simp only[ao,aa]at hx;subst hx;simpa using hv'
   | succ i=>simp at hx⟩
  have To:∃ r v_1 σ' μ',Ending.returned v=.returned v_1∧Q r σ'∧jw P B w0 w' σ' μ'∧VR w' σ' μ' r v_1∧pG w σ μ w' σ' μ' :=
   ⟨r,v,σ',μ2,rfl,hQ,h4,by have:=h5.2 0 r rfl;simpa using this,fun x u hx=>h6 x u (hk x u hx hx.lt) hx.lt⟩
  rcases he with rfl | rfl
  ·exact⟨hF'.1,v,hr,To⟩
  ·exact⟨hF'.1,v,hr,To⟩
 ·simp at hc
end Go.Pm

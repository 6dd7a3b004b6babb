/- A part of a proof; the claim's last text says of what. -/
import Derived.Test.YtlakkaamfadipaaGreatDoorL13
set_option linter.all false

namespace Go.Pm
open Go Go.RowKit
def AR(o:Oper)(j:Nat):Oper:={ o with after:=o.after.push { on:=j,ground:=.data } }
def waitsFor(ops:Array Oper)(i j:Nat):Array Oper:=ops.mapIdx fun k o=>if k=i then AR o j else o
theorem gh(ops:Array Oper)(i j:Nat):(waitsFor ops i j).size=ops.size:=by simp[waitsFor]
theorem nC(ops:Array Oper)(i j k:Nat):(waitsFor ops i j)[k]?=(ops[k]?).map fun o=>if k=i then AR o j else o:=by
 simp[waitsFor]
theorem fC{md:Region.Mode}{ops:Array Oper}{listed:Array Bool}{i j x:Nat}:x∈Region.ready md (waitsFor ops i j) listed↔x∈Region.ready md ops listed∧(x=i→listed.getD j false=true):=by
 simp only[Region.ready,cc,b7,gh,nC];rw[and_assoc];refine and_congr_right fun hx=>?_;have ho:ops[x]?=some ops[x]:=aS hx;simp only[ho,bL,eW]
 by_cases Gf:x=i
 ·subst Gf;have hb:Region.binds md { on:=j,ground:=Ground.data }=true:=rfl;simp only[aR,AR,Array.all_push,hb,gE,jE,aP,forall_const];constructor
  ·rintro⟨h1,h2,h3⟩;exact⟨⟨h1,h2⟩,h3⟩
  ·rintro⟨⟨h1,h2⟩,h3⟩;exact⟨h1,h2,h3⟩
 ·simp only[Gf,aO,tC,kD]
theorem xS(ops:Array Oper)(i j:Nat)(tmps:Array Value):yielded (waitsFor ops i j) tmps=yielded ops tmps:=by
 funext k;simp only[yielded,nC];cases ops[k]? with
 | none=>rfl
 | some o =>
  simp only[bL,ey]
  by_cases h:k=i<;>simp[h,AR]
section
variable {P:Program} {Q:Exit→Act→World→Prop}
theorem nB{ops:Array Oper}{i j x:Nat}{K:Act→World→Prop}{a:Act}{w:World}:wpOp P (waitsFor ops i j) Q x K a w↔wpOp P ops Q x K a w:=by
 simp only[wpOp,nC,xS];cases ops[x]? with
 | none=>exact Bv
 | some o =>
  simp only[bL]
  by_cases h:x=i
  ·simp only[h,aR];exact Bv
  ·simp only[h,aO]
def mw:Op→Bool
 | .move _ | .assign _ | .alloc _ | .box _ _ | .load _ _ | .store _ _ _ | .fieldAddr _ _ _=>true
 | _=>false
theorem D5{s:Sem Value}{w w':World}{n:Next}(h:(do pure (Next.value (← s)):Sem Next).run P w=.ok n w'):∃ v,n=.value v:=by
 rw[Sem.run_bind]at h;cases hs:s.run P w with
 | ok v w1 =>
  rw[hs]at h;simp only[Result.andThen_ok,Sem.run_pure,Result.ok.injEq]at h;exact⟨v,h.1.symm⟩
 | halt x w1=>rw[hs]at h;simp[Result.andThen]at h
theorem He{s:Sem Unit}{w w':World}{n:Next}(h:(do s;pure Next.skip:Sem Next).run P w=.ok n w'):n=.skip:=by
 rw[Sem.run_bind]at h;cases hs:s.run P w with
 | ok v w1 =>
  rw[hs]at h;simp only[Result.andThen_ok,Sem.run_pure,Result.ok.injEq]at h;exact h.1.symm
 | halt x w1=>rw[hs]at h;simp[Result.andThen]at h
theorem EX{o:Oper}{ρ:Operand→Value}{w w':World}{n:Next}(hp:mw o.op=true)(h:(execOp ρ o).run P w=.ok n w'):(∃ v,n=.value v)∨n=.skip:=by
 obtain⟨d,op,t,p,af,g⟩:=o;simp only at hp;cases op<;>simp only[mw,aG]at hp
 all_goals simp only[execOp]at h
 all_goals first
  | exact .inl (D5 h)
  | exact .inr (He h)
  | (simp only[Sem.run_pure,Result.ok.injEq]at h;exact .inl ⟨_,h.1.symm⟩)
theorem P5{o:Oper}(hp:mw o.op=true){a:Act}{w:World}{K1 K2:Act→World→Prop}(h1:o.wp P a w K1 Q)(h2:o.wp P a w K2 Q):o.wp P a w (fun a w=>K1 a w∧K2 a w) Q:=by
 unfold Oper.wp at *;generalize hr:(execOp a.eval o).run P w=r at *;cases r with
 | ok n w' =>
  rcases EX hp hr with⟨v,rfl⟩ | rfl
  ·exact⟨h1,h2⟩
  ·exact⟨h1,h2⟩
 | halt x w'=>cases x<;>simp only[Oper.upon]at h1 h2 ⊢<;>exact h1
theorem Jd{ops:Array Oper}{x:Nat}(hp:∀ o,ops[x]?=some o→mw o.op=true){K1 K2:Act→World→Prop}{a:Act}{w:World}(h1:wpOp P ops Q x K1 a w)(h2:wpOp P ops Q x K2 a w):
  wpOp P ops Q x (fun a w=>K1 a w∧K2 a w) a w:=by
 unfold wpOp at *;cases ho:ops[x]? with
 | none=>simp only[ho]at h1 h2 ⊢;exact⟨h1,h2⟩
 | some o =>
  simp only[ho]at h1 h2 ⊢;split
  ·rename_i hw;simp only[hw,aR]at h1 h2;rcases h1 with h1 | h1
   ·rcases h2 with h2 | h2
    ·exact .inl (P5 (hp o ho) h1 h2)
    ·exact .inr h2
   ·exact .inr h1
  ·rename_i hw;simp only[hw]at h1 h2;exact⟨h1,h2⟩
theorem og{md:Region.Mode}{ops:Array Oper}{i j:Nat}:∀ (fuel:Nat) (listed:Array Bool) (a:Act) (w:World),listed.getD j false=true→wpAny P md (waitsFor ops i j) Q fuel listed a w→wpAny P md ops Q fuel listed a w:=by
 intro fuel
 induction fuel with
 | zero =>
  intro listed a w hj h;refine⟨?_,h.2⟩;refine bD.2 fun x hx=>?_;exact bD.1 h.1 x (fC.2 ⟨hx,fun _=>hj⟩)
 | succ fuel ih =>
  intro listed a w hj h;refine⟨fun hn=>h.1 (bD.2 fun x hx=>bD.1 hn x (fC.1 hx).1),fun x hx=>?_⟩;have:=h.2 x (fC.2 ⟨hx,fun _=>hj⟩);rw[nB]at this;refine wpOp_mono (fun a w hk=>ih _ a w ?_ hk) this;simp only[aZ]at hj ⊢
  by_cases Sk:x=j
  ·subst Sk
   by_cases hs:x<listed.size
   ·simp[po,hs]
   ·rw[ju (by omega)]at hj;simp at hj
  ·rw[bS Sk];exact hj
theorem Bz{md:Region.Mode}{ops:Array Oper}{i j:Nat}(DI:i≠j)(hp:∀ x o,x≠i→x≠j→ops[x]?=some o→mw o.op=true):
  ∀ (fuel:Nat) (listed:Array Bool) (a:Act) (w:World),listed.size=ops.size→i<ops.size→j<ops.size→wpAny P md (waitsFor ops i j) Q fuel listed a w→wpAny P md (waitsFor ops j i) Q fuel listed a w→wpAny P md ops Q fuel listed a w:=by
 intro fuel
 induction fuel with
 | zero =>
  intro listed a w eI hi hj h1 h2;refine⟨?_,h1.2⟩;refine bD.2 fun x hx=>?_
  by_cases Bm:x=i
  ·exact bD.1 h2.1 x (fC.2 ⟨hx,fun e=>absurd (Bm.symm.trans e) DI⟩)
  ·exact bD.1 h1.1 x (fC.2 ⟨hx,fun e=>absurd e Bm⟩)
 | succ fuel ih =>
  intro listed a w eI hi hj h1 h2;refine⟨fun hn=>h1.1 (bD.2 fun x hx=>bD.1 hn x (fC.1 hx).1),fun x hx=>?_⟩
  by_cases Bm:x=i
  ·have:=h2.2 x (fC.2 ⟨hx,fun e=>absurd (Bm.symm.trans e) DI⟩);rw[nB]at this;refine wpOp_mono (fun a w hk=>og fuel _ a w ?_ hk) this;subst Bm;simp[aZ,po,eI,hi]
  ·by_cases ub:x=j
   ·have:=h1.2 x (fC.2 ⟨hx,fun e=>absurd e Bm⟩);rw[nB]at this;refine wpOp_mono (fun a w hk=>og fuel _ a w ?_ hk) this;subst ub;simp[aZ,po,eI,hj]
   ·have k1:=h1.2 x (fC.2 ⟨hx,fun e=>absurd e Bm⟩);have k2:=h2.2 x (fC.2 ⟨hx,fun e=>absurd e ub⟩);rw[nB]at k1 k2;refine wpOp_mono (fun a w hk=>ih _ a w (by simp[eI]) hi hj hk.1 hk.2) (Jd (fun o ho=>hp x o Bm ub ho) k1 k2)
end
def sw(i j k:Nat):Nat:=if k=i then j else if k=j then i else k
theorem vv(i j k:Nat):sw i j (sw i j k)=k:=by
 simp only[sw]
 (repeat' split)<;>omega
theorem yC{i j k n:Nat}(hi:i<n)(hj:j<n):sw i j k<n↔k<n:=by
 simp only[sw]
 (repeat' split)<;>omega
def BZ(i j:Nat)(o:Oper):Oper:={ o with after:=o.after.map fun e=>{ e with on:=sw i j e.on },guard:=o.guard.map fun g=>(sw i j g.1,g.2) }
def mm(ops:Array Oper)(i j:Nat):Array Oper:=ops.mapIdx fun k o=>BZ i j ((ops[sw i j k]?).getD o)
theorem vw(ops:Array Oper)(i j:Nat):(mm ops i j).size=ops.size:=by simp[mm]
theorem sy{ops:Array Oper}{i j:Nat}(hi:i<ops.size)(hj:j<ops.size)(k:Nat):(mm ops i j)[k]?=(ops[sw i j k]?).map (BZ i j):=by
 simp only[mm,yt]
 by_cases hk:k<ops.size
 ·have ny:=(yC (k:=k) hi hj).2 hk;simp[aS hk,aS ny]
 ·have ny:¬ sw i j k<ops.size:=fun h=>hk ((yC hi hj).1 h);rw[ju (by omega),ju (by omega)];rfl
theorem LY(md:Region.Mode)(e:Edge)(n:Nat):Region.binds md { e with on:=n }=Region.binds md e:=rfl
theorem vS{md:Region.Mode}{ops:Array Oper}{listed listed':Array Bool}{i j:Nat}(hi:i<ops.size)(hj:j<ops.size)(hL:∀ k d,listed'.getD k d=listed.getD (sw i j k) d){x:Nat}:
  x∈Region.ready md (mm ops i j) listed'↔sw i j x∈Region.ready md ops listed:=by
 simp only[Region.ready,cc,b7,vw,sy hi hj,yC hi hj,hL];refine and_congr_right fun hx=>?_;have ub:=(yC (k:=x) hi hj).2 hx;simp only[aS ub,bL,eW,BZ,Array.all_map,Function.comp_def,LY,hL,vv]
theorem DP{ops:Array Oper}{i j:Nat}(hi:i<ops.size)(hj:j<ops.size)(tmps:Array Value)(k:Nat):yielded (mm ops i j) tmps (sw i j k)=yielded ops tmps k:=by
 simp only[yielded,sy hi hj,vv];cases ops[k]?<;>rfl
section
variable {P:Program} {Q:Exit→Act→World→Prop}
theorem Mz{ops:Array Oper}{i j x:Nat}(hi:i<ops.size)(hj:j<ops.size){K:Act→World→Prop}{a:Act}{w:World}:wpOp P (mm ops i j) Q x K a w↔wpOp P ops Q (sw i j x) K a w:=by
 simp only[wpOp,sy hi hj];cases ops[sw i j x]? with
 | none=>exact Bv
 | some o =>
  simp only[bL]
  have hw:Region.wanted (BZ i j o) (yielded (mm ops i j) a.tmps)=Region.wanted o (yielded ops a.tmps):=by
   obtain⟨d,op,t,p,af,g⟩:=o;cases g with
   | none=>rfl
   | some g=>simp only[Region.wanted,BZ,bL,DP hi hj]
  rw[hw];exact Bv
theorem Je{md:Region.Mode}{ops:Array Oper}{i j:Nat}(hi:i<ops.size)(hj:j<ops.size):∀ (fuel:Nat) (listed listed':Array Bool) (a:Act) (w:World),listed.size=ops.size→listed'.size=ops.size→(∀ k d,listed'.getD k d=listed.getD (sw i j k) d) →
  wpAny P md (mm ops i j) Q fuel listed' a w→wpAny P md ops Q fuel listed a w:=by
 intro fuel
 induction fuel with
 | zero =>
  intro listed listed' a w hs hs' hL h;refine⟨?_,h.2⟩;refine bD.2 fun x hx=>?_;exact bD.1 h.1 (sw i j x) ((vS hi hj hL).2 (by rw[vv];exact hx))
 | succ fuel ih =>
  intro listed listed' a w hs hs' hL h;refine⟨fun hn=>h.1 (bD.2 fun x hx=>bD.1 hn _ ((vS hi hj hL).1 hx)),fun x hx=>?_⟩;have:=h.2 (sw i j x) ((vS hi hj hL).2 (by rw[vv];exact hx));rw[Mz hi hj,vv]at this
  have qU:x<ops.size:=by
   simp only[Region.ready,cc,b7]at hx;exact hx.1
  refine wpOp_mono (fun a w hk=>ih _ _ a w (by simp[hs]) (by simp[hs']) (fun k d=>?_) hk) this;have h1:=hL k d;simp only[aZ]at h1 ⊢;have ub:=(yC (k:=x) hi hj).2 qU
  by_cases hk:sw i j x=k
  ·subst hk;rw[vv,zH (by omega),zH (by omega)]
  ·have ny:x≠sw i j k:=fun e=>hk (by rw[e,vv]);rw[bS hk,bS ny];exact h1
theorem zW{ops:Array Oper}{id i j:Nat}{a:Act}{w:World}(hm:P.follows .mixedOrders=true)(DI:i≠j)(hi:i<ops.size)(hj:j<ops.size)(hp:∀ x o,x≠i→x≠j→ops[x]?=some o→mw o.op=true)
  (h1:wpAny P .any (waitsFor ops j i) Q ops.size (Array.replicate ops.size false) a { w with drawn:=w.drawn+1 })
  (h2:wpAny P .any (mm (waitsFor ops i j) i j) Q ops.size (Array.replicate ops.size false) a { w with drawn:=w.drawn+1 }):(Code.region id ops true).wp P Q a w:=by
 refine wp_region_any hm (Bz DI hp _ _ _ _ (by simp) hi hj ?_ h1);refine Je (by rw[gh];exact hi) (by rw[gh];exact hj) _ _ _ _ _ (by simp[gh]) (by simp[gh]) (fun k d=>?_) h2;simp only[aZ,tF,yC hi hj]
end
def Le(J J':ae):Prop:=∀ (id:Nat) (o:Ob),J[id]?=some o→o=Ob.dead∨J'[id]?=some o
section
variable {J J':ae} (h:Le J J')
include h
theorem Le.box{id T:Nat}{cs:List V}(e:J[id]?=some (.box T cs)):J'[id]?=some (.box T cs):=(h id _ e).resolve_left (by simp)
theorem Le.row{id E sz by' g:Nat}{sh:Bool}{xs:List (List V)}(e:J[id]?=some (.row E sz by' g sh xs)):J'[id]?=some (.row E sz by' g sh xs):=(h id _ e).resolve_left (by simp)
theorem Le.map{id K E:Nat}{es:List (V×V)}(e:J[id]?=some (.map K E es)):J'[id]?=some (.map K E es):=(h id _ e).resolve_left (by simp)
theorem zw{x:V}(hx:eL J x=true):eL J' x=true:=by
 unfold eL at hx ⊢
 repeat' split at hx
 all_goals first | (simp at hx;done) | skip
 all_goals first | (rename_i e;simp only[h.row e];exact hx) | rfl
theorem wh{x:V}(hx:eO J x=true):eO J' x=true:=by
 unfold eO at hx ⊢;split at hx
 ·rw[cj]at hx ⊢;exact fun y hy=>zw h (hx y hy)
 ·exact zw h hx
theorem Hj{sz:Nat}{x:V}{r:List (List V)}(hx:rowsOf J sz x=some r):rowsOf J' sz x=some r:=by
 unfold rowsOf at hx ⊢;split at hx<;>(try exact hx)<;>split at hx<;>(try (simp at hx;done))
 all_goals (rename_i e;simp only[h.row e];exact hx)
theorem Eo{kd:Nat}{m k:V}{r:Option (Nat×V)}(hx:bX J kd m k=some r):bX J' kd m k=some r:=by
 unfold bX at hx ⊢;split at hx<;>(try exact hx);split at hx<;>(try (simp at hx;done));rename_i e;simp only[h.map e];exact hx
theorem JR{fr:List V}{i:I}{ob:Prop}{r:V}(he:aJ fr J i=some (ob,r))(cK:ob):∃ ob',aJ fr J' i=some (ob',r)∧ob':=by
 cases i
 case build zs parts =>
  simp only[aJ]at he ⊢;split at he<;>simp only[aa,ao,reduceCtorEq]at he;obtain⟨rfl,rfl⟩:=he;rename_i e;exact⟨_,by simp only[e],fun p hp=>wh h (cK p hp)⟩
 case c6 sz szs xs =>
  simp only[aJ,aa,ao]at he ⊢;obtain⟨rfl,rfl⟩:=he;exact⟨_,⟨rfl,rfl⟩,fun x hx=>wh h (cK.1 x hx),cK.2⟩
 case load k a =>
  simp only[aJ]at he ⊢;split at he
  ·split at he<;>(try (simp at he;done));rename_i e;simp only[h.box e];exact⟨ob,he,cK⟩
  ·exact⟨ob,he,cK⟩
  ·split at he<;>(try (simp at he;done));rename_i e;simp only[h.row e];exact⟨ob,he,cK⟩
  ·simp at he
 case cF x =>
  simp only[aJ]at he ⊢;split at he<;>(try exact⟨ob,he,cK⟩);split at he<;>(try (simp at he;done));rename_i e;simp only[h.row e];exact⟨ob,he,cK⟩
 case gi off x =>
  simp only[aJ]at he ⊢;split at he<;>(try exact⟨ob,he,cK⟩);split at he<;>(try (simp at he;done));rename_i e;simp only[h.row e];exact⟨ob,he,cK⟩
 case Fc x =>
  simp only[aJ]at he ⊢;split at he<;>(try (simp at he;done));rename_i e;simp only[Hj h e];exact⟨ob,he,cK⟩
 case look kd z ok m k =>
  simp only[aJ]at he ⊢;split at he<;>(try (simp at he;done))
  all_goals (rename_i e;simp only[Eo h e];exact⟨ob,he,cK⟩)
 case wq x =>
  simp only[aJ]at he ⊢;split at he<;>(try exact⟨ob,he,cK⟩);split at he<;>(try (simp at he;done));rename_i e;simp only[h.map e];exact⟨ob,he,cK⟩
 case Gy x =>
  simp only[aJ]at he ⊢;split at he<;>(try (simp at he;done));split at he<;>(try (simp at he;done));rename_i e1;split at he<;>(try (simp at he;done));rename_i e2;simp only[(h _ _ e1).resolve_left (by simp),h.map e2];exact⟨ob,he,cK⟩
 case len str x =>
  cases str
  ·simp only[aJ]at he ⊢;split at he<;>(try exact⟨ob,he,cK⟩)
   all_goals
    split at he<;>(try (simp at he;done));rename_i e;simp only[h.row e];exact⟨ob,he,cK⟩
  ·exact⟨ob,he,cK⟩
 case idx sz x i =>
  simp only[aJ]at he ⊢;split at he<;>(try (simp at he;done));split at he<;>(try exact⟨ob,he,cK⟩)
  all_goals
   split at he<;>(try (simp at he;done));rename_i e;simp only[h.row e];exact⟨ob,he,cK⟩
 case slice sz x lo hi =>
  by_cases hx:∃ id g,ev fr x=.own id g
  ·obtain⟨id,g,hx⟩:=hx;simp only[aJ,hx]at he ⊢;cases hs:J[id]? with
   | none=>simp[hs]at he
   | some o =>
    rcases h id o hs with rfl | h2
    ·simp[hs]at he
    ·rw[hs]at he;rw[h2];exact⟨ob,he,cK⟩
  ·have e:aJ fr J' (.slice sz x lo hi)=aJ fr J (.slice sz x lo hi):=by
    simp only[aJ];cases hv:ev fr x<;>first | rfl | (exact absurd ⟨_,_,hv⟩ hx)
   rw[e];exact⟨ob,he,cK⟩
 all_goals exact⟨ob,he,cK⟩
end
theorem Fact.le{J J':ae}{p:Pi}{fr:List V}(hf:Fact p fr J)(h:Le J J'):Fact p fr J':=by
 obtain⟨c,h1,r,h2,h3⟩:=hf;exact⟨c,h1,r,h2,fun hc=>by obtain⟨ob,h4,h5⟩:=h3 hc;exact JR h h4 h5⟩
theorem LC{P:Program}{B:Nat}{w0 w:World}{J:ae}{μ:Mem}(hS:fe P B w0 w J μ){id:Nat}(hid:J[id]?=some .dead)(T:Nat)(cs:List V)(vs:Array Value)(h:CR w J μ cs vs):
  ∃ μ',fe P B w0 (w.alloc (.cells vs T)) (J.set id (.box T cs)) μ'∧VR (w.alloc (.cells vs T)) (J.set id (.box T cs)) μ' (.ptr id 0) (.pointer (some ⟨w.heap.size,0,none⟩))∧ky w J μ (w.alloc (.cells vs T)) (J.set id (.box T cs)) μ':=by
 have hl:id<J.length:=(ab.1 hid).1;have iS:(J.set id (.box T cs))[id]?=some (.box T cs):=ak hl
 have hn:=hS.update (w':=w.alloc (.cells vs T)) (J':=J.set id (.box T cs)) (μ':=oh μ id (.pointer (some ⟨w.heap.size,0,none⟩))) id none (World.grownBy_alloc w _ none) (by simp) (by simp)
  (fun j hj=>ay (PS hj)) (fun j hj=>ki μ _ _ j hj) (fun b hb=>by rw[cX]at hb;simp only[fR,aa]at hb;exact .inr (by omega))
  (fun b off v o ho gr=>by rw[hid]at ho;simp only[aa]at ho;exact absurd ho.symm gr)
  (fun T' cs' ho=>by rw[hid]at ho;simp at ho) (fun K E es ho=>by rw[hid]at ho;simp at ho)
  (fun E sz by' g' sh xs _ ho=>by rw[iS]at ho;simp at ho)
  (fun hp o ho=>by
   rw[iS]at ho;simp only[aa]at ho;subst ho;rw[cX];refine⟨w.heap.size,vs,rfl,hS.base,heap_alloc_new w _,h.1.symm,fun j x hx=>?_⟩;have hj:j<vs.size:=by rw[← h.1];exact(ab.1 hx).1
   exact⟨vs[j],aS hj,by have:=(h.2 j x hx).mono hp;simpa[hj]using this⟩)
 exact⟨_,hn.1,.ptr _ 0 _ ⟨T,cs,iS⟩ (cX _ _ _),hn.2⟩
theorem Ff{P:Program}{ops:Array Oper}{o:Oper}{p:Pi}{d T:Nat}{zs:List V}(hc:R4 P ops o=some p)(hp:p=⟨some d,[],.alloc T zs⟩){inf:Nat→Option (List (Nat×Bool))}{B:Nat}{w0 w:World}{fr:List V}{J:ae}{μ:Mem}{a:Act}
  (hS:fe P B w0 w J μ) (hF:yp w J μ fr inf a) (fQ:DA inf p) {id:Nat} (hid:J[id]?=some .dead) {R:Act→World→Prop} {Q:Exit→Act→World→Prop}
  (hR:∀ μ' a' w',fe P B w0 w' (J.set id (.box T zs)) μ'→yp w' (J.set id (.box T zs)) μ' (c8 fr (some d) (.ptr id 0)) (oG inf p) a'→kZ w J μ w' (J.set id (.box T zs)) μ'→R a' w') :
  if Region.wanted o (yielded ops a.tmps)then o.wp P a w R Q∨(o.asks P a w∧LetsOut Q)else R (a.put o.dst undef) w:=by
 unfold R4 at hc;split at hc<;>simp only[aa,reduceCtorEq]at hc;rename_i g hg;rw[hp]at hc;simp only[Pi.mk.injEq]at hc;obtain⟨hd,rfl,hi⟩:=hc
 have hw:Region.wanted o (yielded ops a.tmps)=true:=by
  cases Mh:o.guard with
  | none=>simp[Region.wanted,Mh]
  | some jb =>
   obtain⟨j,b⟩:=jb;rw[Mh]at hg;simp only[rW]at hg;split at hg<;>(try simp only[reduceCtorEq]at hg);split at hg<;>simp at hg
 rw[aQ hw];refine .inl ?_
 have kf:compile P o=some (.alloc T zs):=by
  cases I5:compile P o with
  | none=>rw[I5]at hi;simp at hi
  | some j=>rw[I5]at hi;simp only[eW]at hi;rw[hi]
 have du:∃ t z,o.op=.alloc T∧P.info? T=some t∧t.zero=some z∧fY z.cells.toList=some zs:=by
  cases ho:o.op
  case alloc T' =>
   simp only[compile,ho]at kf;split at kf<;>(try simp only[reduceCtorEq]at kf);rename_i t ht;split at kf<;>(try simp only[reduceCtorEq]at kf);rename_i z hz;simp only[ah,I.alloc.injEq]at kf;obtain⟨zs',lh,rfl,rfl⟩:=kf;exact⟨t,z,rfl,ht,hz,lh⟩
  case call c =>
   exfalso;simp only[compile,ho,iB]at kf;revert kf;(repeat' split)<;>simp
  case makeFunc fn first caps =>
   exfalso;cases fn<;>simp only[compile,ho,reduceCtorEq]at kf;revert kf;split<;>simp
  case next x q =>
   exfalso;cases q<;>simp[compile,ho]at kf
  case makeMap T' n =>
   exfalso;cases n<;>simp only[compile,ho,reduceCtorEq]at kf;revert kf;split<;>simp
  case slice T' x lo hi mx =>
   exfalso;cases mx<;>cases lo<;>cases hi<;>simp only[compile,ho,reduceCtorEq]at kf<;>(revert kf;(repeat' split)<;>simp)
  all_goals
   exfalso;simp only[compile,ho]at kf;revert kf
   (try (repeat' split))<;>simp
   all_goals (intro x _;split<;>simp)
 obtain⟨t,z,ho,ht,hz,lh⟩:=du
 have cx:(execOp a.eval o).run P w=.ok (.value (.pointer (some ⟨w.heap.size,0,none⟩))) (w.alloc (.cells z.cells T)):=by
  simp[execOp,ho,Instr.alloc,zeroValue,typeInfo,ht,hz,newVar,newRow]
 obtain⟨μ',h1,h2,h3⟩:=LC hS hid T _ _ (js (w:=w) (J:=J) (μ:=μ) lh);unfold Oper.wp;rw[cx];simp only[Oper.upon];rw[hp]at fQ;have hd':o.dst=some d:=hd;rw[hd'];have:=hF.oh (v:=.pointer (some ⟨w.heap.size,0,none⟩)) (r:=.ptr id 0) fQ h3.dY (fun _ _ _ _=>h2) (fun h=>by simp[chainB]at h);rw[hp]at hR;exact hR μ' _ _ h1 this h3.dY
def Fg:List Ob→(List Ob→Prop)→Prop
 | [],p=>p []
 | _::b,p=>∀ X,Fg b fun Xs=>p (X::Xs)
def gz(b:List Ob):List Ob:=b.map fun _=>.dead
theorem GJ:∀ {b:List Ob} {p:List Ob→Prop},Fg b p→∀ Xs,Xs.length=b.length→p Xs
 | [],p,h,Xs,hl=>by simp only[aK,uP]at hl;subst hl;exact h
 | _::b,p,h,Xs,hl=>by
  cases Xs with
  | nil=>simp at hl
  | cons X Xs=>exact GJ (h X) Xs (by simpa using hl)
def grown(τ:ae)(Xs:List Ob)(s:ae)(K:ae→ae→Prop):Prop:=∃ τ' ε,τ'.length=τ.length∧s=τ'++(Xs++ε)∧K τ' ε
def sF(P:Program)(bx:List Ob):List (List Pi×Pi×List Pi)→List (List Pi×Pi×List Pi)→List Pi→(St→Prop)→List V→ae→ae→Prop
 | [],[],last,K,fr,τ,ε=>ix P [] last (fun st=>K ⟨st.fr,τ++(bx++ε)⟩) ⟨fr,τ++(gz bx++ε)⟩
 | [],(Bk,L,chk)::ds,last,K,fr,τ,ε=>ix P [] Bk (fun st1=>gI P L (fun st2=>(∀ p∈chk,xm p st2)∧oz P ds last K st2) ⟨st1.fr,τ++(bx++ε)⟩) ⟨fr,τ++(gz bx++ε)⟩
 | (Bk,L,chk)::ds1,ds2,last,K,fr,τ,ε=>ix P [] Bk (fun st1=>Fg bx fun Xs=>gI P L (fun st2=>(∀ p∈chk,xm p st2)∧grown τ Xs st2.J (sF P bx ds1 ds2 last K st2.fr)) ⟨st1.fr,τ++(Xs++ε)⟩) ⟨fr,τ++(gz bx++ε)⟩
def Dp(p:Pi):Ob:=match p.i with
 | .alloc T zs=>.box T zs
 | _=>.dead
def Dm(pis:List Pi)(fl:List Nat):List Ob:=fl.map fun f=>Dp (dB pis f)
def pZ(pis:List Pi)(fl:List Nat)(listed:Array Bool):List Ob:=fl.map fun f=>bif listed.getD f false then Dp (dB pis f)else .dead
structure VZ (pis:List Pi) (bs:List Nat) (m:Nat) (ls fl:List Nat) (k1:Nat):Prop where
 Bs:∀ f∈fl,f<m∧f ∉ ls∧∃ d T zs,dB pis f=⟨some d,[],.alloc T zs⟩
 nd:fl.Nodup
 kl:k1≤ls.length
 late:∀ (k L f:Nat),k1≤k→ls[k]?=some L→f∈fl→tb bs L f=true
section
variable {P:Program} {ops:Array Oper} {pis:List Pi} {bs:List Nat} {m:Nat} {ls fl:List Nat} {k1:Nat}
theorem MZ{listed:Array Bool}(h:∀ f∈fl,il listed f):pZ pis fl listed=Dm pis fl:=by
 refine cD fun f hf=>?_;have:listed.getD f false=true:=h f hf;rw[this];rfl
theorem Le.mid{τ a b ε:ae}(h:Le a b)(hl:a.length=b.length):Le (τ++(a++ε)) (τ++(b++ε)):=by
 intro id o ho
 by_cases h1:id<τ.length
 ·rw[ag h1]at ho ⊢;exact .inr ho
 ·rw[aw (by omega)]at ho ⊢
  by_cases h2:id - τ.length<a.length
  ·rw[ag h2]at ho;rw[ag (by omega)];exact h _ _ ho
  ·rw[aw (by omega)]at ho;rw[aw (by omega),← hl];exact .inr ho
theorem Kk(τ ε:ae)(listed:Array Bool):Le (τ++(gz (Dm pis fl)++ε)) (τ++(pZ pis fl listed++ε)):=by
 refine Le.mid (fun id o ho=>?_) (by simp[gz,Dm,pZ]);simp only[gz,Dm,gB,aW,ah]at ho;obtain⟨_,_,rfl⟩:=ho;exact .inl rfl
theorem FZ(hF:VZ pis bs m ls fl k1){listed:Array Bool}{i:Nat}(hi:i<listed.size)(PF:i ∉ fl):pZ pis fl (listed.setIfInBounds i true)=pZ pis fl listed:=by
 refine cD fun f hf=>?_;have h2:=dK (listed:=listed) (j:=f) hi;have gr:f≠i:=fun e=>PF (e▸hf);simp only[gr,qL,il]at h2;have:(listed.setIfInBounds i true).getD f false=listed.getD f false:=by cases h3:listed.getD f false<;>simp_all
 rw[this]
theorem MY(hF:VZ pis bs m ls fl k1){listed:Array Bool}{j f:Nat}(hi:f<listed.size)(hj:fl[j]?=some f):pZ pis fl (listed.setIfInBounds f true)=(pZ pis fl listed).set j (Dp (dB pis f)):=by
 refine gd fun x=>?_;have jr:j<fl.length:=(ab.1 hj).1
 by_cases hx:j=x
 ·subst hx;rw[ak (by simpa[pZ]using jr)];have:(listed.setIfInBounds f true).getD f false=true:=(dK hi).2 (.inl rfl);simp only[pZ,aW,hj,bL,this,cond_true]
 ·rw[ay hx];simp only[pZ,aW];cases hy:fl[x]? with
  | none=>rfl
  | some y =>
   have gr:y≠f:=by
    rintro rfl;exact hx ((List.getElem?_inj jr hF.nd).1 (hj.trans hy.symm))
   have h2:=dK (listed:=listed) (j:=y) hi;simp only[gr,qL,il]at h2;have:(listed.setIfInBounds f true).getD y false=listed.getD y false:=by cases h3:listed.getD y false<;>simp_all
   simp only[bL,this]
def uq(P:Program)(pis:List Pi)(bs:List Nat)(m:Nat)(ls fl:List Nat)(k1:Nat)(Kt:St→Prop)(k:Nat)(fr:List V)(τ ε:ae):Prop :=
 match (ls.take k1)[k]? with
 | some L=>Fg (Dm pis fl) fun Xs=>gI P (dB pis L) (fun st2=>(∀ p∈(LO pis bs m ls k L).map (dB pis),xm p st2)∧grown τ Xs st2.J
   (sF P (Dm pis fl) (xK pis bs m ls (k+1) ((ls.take k1).drop (k+1))) (xK pis bs m ls k1 (ls.drop k1)) ((kR pis bs m ls ls.length).map (dB pis)) Kt st2.fr)) ⟨fr,τ++(Xs++ε)⟩
 | none=>qm P pis bs m ls Kt k fr (τ++(Dm pis fl++ε))
theorem vk.Pj(hX:vk ops pis bs m ls fl)(hF:VZ pis bs m ls fl k1){Kt:St→Prop}{k:Nat}(hk:k≤k1){fr:List V}{τ ε:ae}
  (h:sF P (Dm pis fl) (xK pis bs m ls k ((ls.take k1).drop k)) (xK pis bs m ls k1 (ls.drop k1)) ((kR pis bs m ls ls.length).map (dB pis)) Kt fr τ ε) :
  ∃ fr',uq P pis bs m ls fl k1 Kt k fr' τ ε∧(∀ i∈kR pis bs m ls k,Fact (dB pis i) fr' (τ++(gz (Dm pis fl)++ε)))∧(∀ t,(∀ i∈kR pis bs m ls k,(dB pis i).d≠some t)→fr'[t]?=fr[t]?)∧fr'.length=fr.length:=by
 have Gi:(kR pis bs m ls k).Pairwise (fun i j=>∀ t,(dB pis j).d=some t→t ∉ looks (dB pis i)∧(dB pis i).d≠some t):=by
  refine V7 ?_ (List.Pairwise.filter _ aao);intro i j hi hj cM t hd
  replace hi:=(cT (k:=k)).1 hi
  replace hj:=(cT (k:=k)).1 hj
  refine⟨fun ht=>?_,fun hd'=>?_⟩
  ·have:=hX.lt hi.1 hj.1 (hX.nb hi.1 hj.1 hd ht);omega
  ·have:=hX.dst i j t hi.1 hj.1 hd' hd;omega
 have rL:∀ i∈kR pis bs m ls k,∀ t,(dB pis i).d=some t→t ∉ looks (dB pis i):=fun i hi t hd ht=>by
  rw[cT]at hi;have:=hX.lt hi.1 hi.1 (hX.nb hi.1 hi.1 hd ht);omega
 have Ie:∀ i∈kR pis bs m ls k,(dB pis i).i.b9=true:=fun i hi=>(cT.1 hi).2.1;have oE:=hF.kl;have hlen:(ls.take k1).length=k1:=by rw[ba];omega
 by_cases EH:k<k1
 ·have e:(ls.take k1).drop k=(ls.take k1)[k]::(ls.take k1).drop (k+1):=eC (by omega);rw[e]at h;simp only[xK,sF]at h;obtain⟨fr',h1,h2,h3,h4⟩:=sE _ _ h Ie Gi rL;refine⟨fr',?_,h2,h3,h4⟩;simp only[uq,an (show k<(ls.take k1).length by omega)];exact h1
 ·have hk':k=k1:=by omega
  subst hk';rw[List.drop_of_length_le (by omega)]at h;have en:(ls.take k)[k]?=none:=a7 (by omega)
  by_cases hl:k<ls.length
  ·have e:ls.drop k=ls[k]::ls.drop (k+1):=eC hl;rw[e]at h;simp only[xK,sF]at h;obtain⟨fr',h1,h2,h3,h4⟩:=sE _ _ h Ie Gi rL;refine⟨fr',?_,h2,h3,h4⟩;simp only[uq,en,qm,an hl];exact h1
  ·have ny:k=ls.length:=by omega
   subst ny;rw[uS]at h;simp only[xK,sF]at h;obtain⟨fr',h1,h2,h3,h4⟩:=sE _ _ h Ie Gi rL;refine⟨fr',?_,h2,h3,h4⟩;have e:ls[ls.length]?=none:=a7 (aq _);simp only[uq,en,qm,e];exact h1
theorem x7(hX:vk ops pis bs m ls fl)(sj:VZ pis bs m ls fl k1)(hp:nU P ops ops.toList=some pis){n B n0:Nat}{gs:List Nat}{w0 ws:World}{σs:ae}{μs:Mem}{K:St→Prop}{Q:Exit→Act→World→Prop}
  (hQ:∀ st w μ a,K st→fe P B w0 w st.J μ→FR w st.J μ st.fr a→dX n ws σs μs w st.J μ→Q .normal a w) (ht:Bl (D0 pis m) (pis.drop m) gs=true) :
  ∀ (fuel k:Nat) (listed:Array Bool) (fr:List V) (τ ε:ae) (w:World) (μ:Mem) (a:Act),listed.size=ops.size →
   (∀ i j,i<pis.length→j<pis.length→il listed i→tb bs i j=true→il listed j)→(∀ i,m≤i→i<pis.length→¬ il listed i)→k≤k1 →
   (∀ j L,ls[j]?=some L→(il listed L↔j<k))→(∀ i,i<m→(dB pis i).i.b9=true→yL bs ls i≤k→¬ il listed i→Fact (dB pis i) fr (τ++(pZ pis fl listed++ε))) →
   τ.length=n0→(∀ j f d,fl[j]?=some f→(dB pis f).d=some d→c8 fr (some d) (.ptr (n0+j) 0)=fr) →
   uq P pis bs m ls fl k1 (ix P gs (pis.drop m) K) k fr τ ε→zI pis.length listed≤fuel →
   fe P B w0 w (τ++(pZ pis fl listed++ε)) μ→yp w (τ++(pZ pis fl listed++ε)) μ fr (lx pis m listed) a→dX n ws σs μs w (τ++(pZ pis fl listed++ε)) μ→wpAny P .any ops Q fuel listed a w:=by
 have hn:pis.length=ops.size:=by rw[(lE hp).1,aF]
 have hm:=hX.mn;have oE:=sj.kl;have hlen:(ls.take k1).length=k1:=by rw[ba];omega
 have done:∀ (fuel k:Nat) (listed:Array Bool) (fr:List V) (τ ε:ae) (w:World) (μ:Mem) (a:Act),listed.size=ops.size →
   (∀ i j,i<pis.length→j<pis.length→il listed i→tb bs i j=true→il listed j)→(∀ i,m≤i→i<pis.length→¬ il listed i)→k=k1→(∀ f∈fl,il listed f) →
   (∀ j L,ls[j]?=some L→(il listed L↔j<k))→(∀ i,i<m→(dB pis i).i.b9=true→yL bs ls i≤k→¬ il listed i→Fact (dB pis i) fr (τ++(pZ pis fl listed++ε))) →
   uq P pis bs m ls fl k1 (ix P gs (pis.drop m) K) k fr τ ε→zI pis.length listed≤fuel →
   fe P B w0 w (τ++(pZ pis fl listed++ε)) μ→yp w (τ++(pZ pis fl listed++ε)) μ fr (lx pis m listed) a→dX n ws σs μs w (τ++(pZ pis fl listed++ε)) μ→wpAny P .any ops Q fuel listed a w:=by
  intro fuel k listed fr τ ε w μ a eI hc xM hk si nw xO wF hu hS hF EG;subst hk;have en:(ls.take k)[k]?=none:=a7 (by omega);simp only[uq,en]at wF;rw[MZ si]at xO hS hF EG;exact rz hX hp hQ ht fuel k listed fr _ w μ a eI si hc xM oE nw xO wF hu hS hF EG
 intro fuel
 induction fuel with
 | zero =>
  intro k listed fr τ ε w μ a eI hc xM hk nw xO EC KV wF hu hS hF EG;have CP:∀ i,i<pis.length→il listed i:=fun i hi=>bc fun h=>by have:=Fv hi h;omega
  have lX:∀ i,i<m→il listed i:=fun i hi=>CP i (by omega)
  have oE:k=k1:=by
   refine bc fun gr=>?_;have cM:k<ls.length:=by omega
   have:=(nw k ls[k] (an cM)).1 (lX _ (hX.L9 _ (cg cM)).1);omega
  exact done 0 k listed fr τ ε w μ a eI hc xM oE (fun f hf=>lX f (sj.Bs f hf).1) nw xO wF hu hS hF EG
 | succ fuel ih =>
  intro k listed fr τ ε w μ a eI hc xM hk nw xO EC KV wF hu hS hF EG
  by_cases Gp:k=k1∧∀ f∈fl,il listed f
  ·exact done _ k listed fr τ ε w μ a eI hc xM Gp.1 Gp.2 nw xO wF hu hS hF EG
  have Pz:¬ ∀ i,i<m→il listed i:=by
   intro lX;refine Gp ⟨?_,fun f hf=>lX f (sj.Bs f hf).1⟩;refine bc fun gr=>?_;have cM:k<ls.length:=by omega
   have:=(nw k ls[k] (an cM)).1 (lX _ (hX.L9 _ (cg cM)).1);omega
  refine⟨fun h=>absurd (fun i hi=>hX.first eI h i (by omega)) Pz,fun i hi=>?_⟩;obtain⟨hio,Ic,o,ho,_⟩:=oN eI hi;have CV:i<pis.length:=by omega
  have zn:∀ j,j<pis.length→tb bs i j=true→il listed j:=fun j hj ht=>hX.ready hn eI hc hi hj ht
  have yg:i<m:=by
   refine bc fun h=>Pz fun j hj=>?_;exact zn j (by omega) (hX.tail i j (by omega) CV (by omega))
  obtain⟨p,Yd,I5⟩:=(lE hp).2 i o (by simpa using ho);have mi:dB pis i=p:=by simp[dB,ar,Yd]
  have fQ:DA (lx pis m listed) p:=mi▸hX.Ux hc yg Ic zn
  have hclos':∀ x j,x<pis.length→j<pis.length→il (listed.setIfInBounds i true) x→tb bs x j=true→il (listed.setIfInBounds i true) j:=by
   intro x j hx hj hl ht;rw[dK (by omega)]at hl ⊢;rcases hl with rfl | hl
   ·exact .inr (zn j hj ht)
   ·exact .inr (hc x j hx hj hl ht)
  have htl':∀ x,m≤x→x<pis.length→¬ il (listed.setIfInBounds i true) x:=by
   intro x hx XN hl;rw[dK (by omega)]at hl;rcases hl with rfl | hl
   ·omega
   ·exact xM x hx XN hl
  have hu':zI pis.length (listed.setIfInBounds i true)≤fuel:=by
   have:=Fu CV (by omega:i<listed.size) Ic;omega
  have QT:∀ x,x<m→(dB pis x).i.b9=true→(∀ j,j<pis.length→tb bs x j=true→il listed j)→yL bs ls x≤k:=by
   intro x hx hs hal';refine bc fun cM=>?_;have h1:yL bs ls x≤ls.length:=dQ _ _;have h2:k<ls.length:=by omega
   have h3:=(hX.Bk x k ls[k] hx hs (an h2)).2 (by omega);have h4:=hal' ls[k] (by have:=(hX.L9 _ (cg h2)).1;omega) h3;have:=(nw k ls[k] (an h2)).1 h4;omega
  have e:oG (lx pis m listed) p=lx pis m (listed.setIfInBounds i true):=by rw[← mi];exact hX.oG yg (by omega)
  simp only[wpOp,ho]
  by_cases hs:p.i.b9=true
  ·
   have nN:(dB pis i).i.b9=true:=by rw[mi];exact hs
   have PF:i ∉ fl:=fun h=>by
    obtain⟨d,T,zs,h2⟩:=(sj.Bs i h).2.2;rw[h2]at nN;simp[I.b9]at nN
   have hf:=xO i yg nN (QT i yg nN zn) Ic;rw[mi]at hf;refine Qh I5 hS hF fQ (Gw hf) ?_;intro r J' μ' a' w' k1 k2 k3 k4;simp only[St.mk.injEq]at k1;obtain⟨k1,rfl⟩:=k1;rw[k1,e]at k3;have eo:=FZ (pis:=pis) sj (listed:=listed) (i:=i) (by omega) PF;refine ih k _ fr τ ε w' μ' a' (by simpa using eI) hclos' htl' hk (fun j L hL=>?_) (fun x hx sf QN qU=>?_) EC KV wF hu' (by rw[eo];exact k2) (by rw[eo];exact k3) (by rw[eo];exact EG.trans k4.GZ)
   ·rw[dK (by omega),nw j L hL]
    have:L≠i:=fun e=>by
     have:=(hX.L9 L (aL hL)).2;rw[e,nN]at this;simp at this
    simp[this]
   ·rw[eo];exact xO x hx sf QN fun h=>qU ((dK (by omega)).2 (.inr h))
  ·have nN:(dB pis i).i.b9=false:=by rw[mi];simpa using hs
   rcases hX.Cp i yg nN with u5 | u5
   ·
    obtain⟨j,hj⟩:=cU.1 u5;have PF:i ∉ fl:=fun h=>(sj.Bs i h).2.1 u5;have jr:j<ls.length:=(ab.1 hj).1;have Yu:¬ j<k:=fun h=>Ic ((nw j i hj).2 h)
    have Gm:j=k:=by
     refine bc fun gr=>?_;have oE:k<ls.length:=by omega
     have h2:=hX.M8 k j i ls[k] (by omega) (an oE) hj;have h3:=zn ls[k] (by have:=(hX.L9 _ (cg oE)).1;omega) h2;have:=(nw k ls[k] (an oE)).1 h3;omega
    subst Gm
    have Yt:j<k1:=by
     refine bc fun h=>Gp ⟨by omega,fun f hf=>?_⟩;exact zn f (by have:=(sj.Bs f hf).1;omega) (sj.late j i f (by omega) hj hf)
    have hjt:(ls.take k1)[j]?=some i:=by rw[dp,aQ Yt];exact hj
    simp only[uq,hjt,mi]at wF;have X4:=GJ wF (pZ pis fl listed) (by simp[pZ,Dm]);refine We I5 hS hF fQ X4 ?_;intro r J' μ' a' w' k1 k2 k3 k4;obtain⟨Q8,τ',ε',hτ',pE,cx⟩:=k1;simp only at pE;subst pE;obtain⟨fr',h1,h2,h3,h4⟩:=hX.Pj sj (k:=j+1) (by omega) cx;rw[e]at k3;have eo:=FZ (pis:=pis) sj (listed:=listed) (i:=i) (by omega) PF
    have ik:∀ x∈kR pis bs m ls (j+1),¬ il (listed.setIfInBounds i true) x:=by
     intro x hx hl;rw[cT]at hx;rw[dK (by omega)]at hl;rcases hl with rfl | hl
     ·rw[nN]at hx;simp at hx
     ·have:=QT x hx.1 hx.2.1 fun y hy ht=>hc x y (by omega) hy hl ht;omega
    have wO:∀ t y,y<m→(dB pis y).d=some t→il (listed.setIfInBounds i true) y→fr'[t]?=(c8 fr p.d r)[t]?:=by
     intro t y hy hd hl;refine h3 t fun x hx UL=>ik x hx ?_;rw[hX.dst x y t (cT.1 hx).1 hy UL hd];exact hl
    have hF':yp w' (τ'++(pZ pis fl listed++ε')) μ' fr' (lx pis m (listed.setIfInBounds i true)) a':=by
     refine⟨k3.1,by rw[h4];exact k3.2.1,fun t x hx ch uc=>?_⟩
     have Mb:fr'[t]?=(c8 fr p.d r)[t]?:=by
      rcases jl uc with⟨_,zh⟩ | ⟨y,hy,hd,hl,_⟩
      ·exact h3 t fun x hx=>zh x (cT.1 hx).1
      ·exact wO t y hy hd hl
     have wL:chainB fr' ch=chainB (c8 fr p.d r) ch:=by
      refine jN fun q hq=>?_;rcases jl uc with⟨rfl,_⟩ | ⟨y,hy,hd,hl,rfl⟩
      ·simp at hq
      ·obtain⟨z,hz,XJ,XI⟩:=hX.chain y q hy hq;exact wO q.1 z hz XJ (hclos' y z (by omega) (by omega) hl XI)
     rw[wL];rw[Mb]at hx;exact k3.2.2 t x hx ch uc
    refine ih (j+1) _ fr' τ' ε' w' μ' a' (by simpa using eI) hclos' htl' (by omega) (fun y L hL=>?_) (fun x hx sf QN qU=>?_) (hτ'.trans EC) (fun y f d hy hd=>?_) h1 hu' (by rw[eo];exact k2) (by rw[eo];exact hF') (by rw[eo];exact EG.trans k4.GZ)
    ·rw[dK (by omega),nw y L hL];constructor
     ·rintro(rfl | h)
      ·refine bc fun gr=>?_;have h5:=hX.M8 j y L L (by omega) hj hL;have:=hX.lt yg yg h5;omega
      ·omega
     ·intro h;rcases ft y j with h5 | h5
      ·exact .inr h5
      ·have:y=j:=by omega
       subst this;rw[hL]at hj;simp only[aa]at hj;exact .inl hj
    ·rw[eo]
     by_cases Sk:yL bs ls x=j+1
     ·exact(h2 x (cT.2 ⟨hx,sf,Sk⟩)).le (Kk τ' ε' listed)
     ·have hxj':yL bs ls x≤j:=by omega
      have Kx:¬ il listed x:=fun h=>qU ((dK (by omega)).2 (.inr h));have QW:¬ tb bs i x=true:=fun h=>Kx (zn x (by omega) h)
      have AS:Fact (dB pis x) (c8 fr p.d r) (τ'++(pZ pis fl listed++ε')):=by
       by_cases hr:(dB pis x).i.reads=true
       ·exact(Q8 (dB pis x) (aT.2 ⟨x,by simp[LO,hx,sf,hr,hxj',QW],rfl⟩)).fact
       ·have hr':(dB pis x).i.reads=false:=by simpa using hr
        refine Fact.still (Fact.agree (xO x hx sf hxj' Kx) (fun t ht=>?_) (fun t ht=>?_) lR) hr'
        ·refine iw fun hd=>?_;have h5:=hX.nb hx yg (mi▸hd) ht;have:=(hX.Bk x j i hx sf hj).1 h5;omega
        ·refine iw fun hd=>?_;have:=hX.dst x i t hx yg ht (mi▸hd);subst this;rw[sf]at nN;simp at nN
      refine Fact.agree AS (fun t ht=>?_) (fun t ht=>?_) h4
      ·refine h3 t fun y hy NM=>?_;rw[cT]at hy;have:=hX.mono x y t hx sf hy.1 hy.2.1 NM ht;omega
      ·refine h3 t fun y hy NM=>?_;rw[cT]at hy;have:=hX.dst x y t hx hy.1 ht NM;subst this;omega
    ·have h5:=KV y f d hy hd;have Wz:=(sj.Bs f (aL hy)).1
     have h6:fr'[d]?=fr[d]?:=by
      rw[h3 d fun x hx UL=>?_]
      ·refine iw fun hpd=>?_;have:=hX.dst f i d Wz yg hd (mi▸hpd);exact PF (this▸aL hy)
      ·have:=hX.dst f x d Wz (cT.1 hx).1 hd UL;have h7:=(cT.1 hx).2.1;obtain⟨d',T,zs,h8⟩:=(sj.Bs f (aL hy)).2.2;rw[← this,h8]at h7;simp[I.b9]at h7
     rw[mV]at h5 ⊢;intro t ht' hl;have h7:=h5 t ht' (by rw[h4,lR]at hl;exact hl);simp only[aa]at ht';subst ht';rw[h6];exact h7
   ·
    obtain⟨j,hj⟩:=cU.1 u5;obtain⟨_,sg,d,T,zs,Wy⟩:=sj.Bs i u5;rw[mi]at Wy;have jr:j<fl.length:=(ab.1 hj).1
    have Yr:listed.getD i false=false:=by
     cases h:listed.getD i false with
     | false=>rfl
     | true=>exact absurd h Ic
    have hid:(τ++(pZ pis fl listed++ε))[n0+j]?=some .dead:=by
     rw[aw (by omega),EC,eY,ag (by simp only[pZ,aj];omega)];simp only[pZ,aW,hj,bL,Yr,cond_false]
    have eb:Dp (dB pis i)=.box T zs:=by rw[mi,Wy];rfl
    have eo:τ++(pZ pis fl (listed.setIfInBounds i true)++ε)=(τ++(pZ pis fl listed++ε)).set (n0+j) (.box T zs):=by
     rw[MY sj (by omega) hj,eb,bZ _ _ (by omega),EC,eY,dD _ _ (by simp only[pZ,aj];omega)]
    have hdd:p.d=some d:=by rw[Wy]
    have iS:=KV j i d hj (by rw[mi];exact hdd)
    have hle:Le (τ++(pZ pis fl listed++ε)) ((τ++(pZ pis fl listed++ε)).set (n0+j) (.box T zs)):=by
     intro id o ho
     by_cases he:n0+j=id
     ·subst he;rw[hid]at ho;simp only[aa]at ho;exact .inl ho.symm
     ·rw[ay he];exact .inr ho
    refine Ff I5 Wy hS hF fQ hid ?_;intro μ' a' w' k2 k3 k4;rw[iS,e]at k3;refine ih k _ fr τ ε w' μ' a' (by simpa using eI) hclos' htl' hk (fun y L hL=>?_) (fun x hx sf QN qU=>?_) EC KV wF hu' (by rw[eo];exact k2) (by rw[eo];exact k3) (by rw[eo];exact EG.trans k4.GZ)
    ·rw[dK (by omega),nw y L hL];have:L≠i:=fun e=>sg (e▸aL hL);simp[this]
    ·rw[eo];exact(xO x hx sf QN fun h=>qU ((dK (by omega)).2 (.inr h))).le hle
def uH(pis:List Pi)(fl:List Nat):List (Nat×Nat×List V):=fl.map fun f=>match dB pis f with
 | ⟨some d,_,.alloc T zs⟩=>(d,T,zs)
 | _=>(0,0,[])
def Dn(fls:List (Nat×Nat×List V)):List Ob:=fls.map fun x=>.box x.2.1 x.2.2
def rl:Nat→List (Nat×Nat×List V)→List V→List V
 | _,[],fr=>fr
 | n,x::r,fr=>rl (n+1) r (fr.set x.1 (.ptr n 0))
theorem qq{t:Nat}:∀ {l:List (Nat×Nat×List V)} {n:Nat} {fr:List V},(∀ x∈l,x.1≠t)→(rl n l fr)[t]?=fr[t]?
 | [],_,_,_=>rfl
 | x::l,n,fr,h=>by
  rw[rl,qq fun y hy=>h y (by simp[hy]),ay (h x (by simp))]
theorem vJ:∀ {l:List (Nat×Nat×List V)} {n:Nat} {fr:List V},(rl n l fr).length=fr.length
 | [],_,_=>rfl
 | x::l,n,fr=>by rw[rl,vJ];simp
theorem FF:∀ {l:List (Nat×Nat×List V)} {n j:Nat} {fr:List V} {x:Nat×Nat×List V},l.Pairwise (fun a b=>a.1≠b.1)→l[j]?=some x→x.1<fr.length→(rl n l fr)[x.1]?=some (.ptr (n+j) 0)
 | [],_,_,_,_,_,h,_=>by simp at h
 | y::l,n,0,fr,x,hp,h,hl=>by
  simp only[au,aa]at h;subst h;rw[gS]at hp;rw[rl,qq fun z hz=>PS (hp.1 z hz),ak hl,eA]
 | y::l,n,j+1,fr,x,hp,h,hl=>by
  rw[gS]at hp;rw[rl,FF (j:=j) hp.2 (by simpa using h) (by simpa using hl)];congr 2;omega
theorem fe.gz{P:Program}{B:Nat}{w0 w:World}:∀ (b:List Ob) {J:ae} {μ:Mem},fe P B w0 w J μ→∃ μ',fe P B w0 w (J++Go.Pm.gz b) μ'∧ky w J μ w (J++Go.Pm.gz b) μ'
 | [],J,μ,h=>⟨μ,by simpa[Go.Pm.gz]using h,by simpa[Go.Pm.gz]using ky.refl w J μ⟩
 | _::b,J,μ,h=>by
  obtain⟨h1,h2⟩:=h.ov (w':=w) .dead undef ⟨rfl,rfl,rfl,aq _,fun _ _ _=>rfl⟩ (by simp[fR,undef]) fun _=>trivial;obtain⟨μ',h3,h4⟩:=fe.gz b h1;have e:J++[Ob.dead]++Go.Pm.gz b=J++Go.Pm.gz (.dead::b):=by simp[Go.Pm.gz]
  rw[e]at h3 h4;exact⟨μ',h3,h2.trans h4⟩
def okF(pis:List Pi)(bs:List Nat)(m:Nat)(ls fl:List Nat)(k1:Nat):Bool :=
 (fl.all fun f=>decide (f<m)&&(!ls.contains f&&match dB pis f with
  | ⟨some _,[],.alloc _ _⟩=>true
  | _=>false))&&(decide fl.Nodup&&(decide (k1≤ls.length)&&(ls.drop k1).all fun L=>fl.all fun f=>tb bs L f))
theorem Qi(h:okF pis bs m ls fl k1=true):VZ pis bs m ls fl k1:=by
 simp only[okF,aP,cj,a8,eH]at h;obtain⟨h1,h2,h3,h4⟩:=h;refine⟨fun f hf=>?_,h2,h3,fun k L f hk hL hf=>h4 L ?_ f hf⟩
 ·obtain⟨h5,h6,h7⟩:=h1 f hf;refine⟨h5,by simpa using h6,?_⟩;split at h7
  ·rename_i d T zs e;exact⟨d,T,zs,e⟩
  ·simp at h7
 ·refine aL (i:=k - k1) ?_;rw[cv,← hL];congr 1;omega
theorem x6{n B:Nat}{gs:List Nat}{K:St→Prop}{Q:Exit→Act→World→Prop}(hp:nU P ops ops.toList=some pis)(fQ:MW ops pis bs m ls fl=true)(QV:okF pis bs m ls fl k1=true)
  (ht:Bl (D0 pis m) (pis.drop m) gs=true) {fr:List V} {J:ae} {w0 w:World} {μ:Mem} {a:Act}
  (h:sF P (Dn (uH pis fl)) (xK pis bs m ls 0 (ls.take k1)) (xK pis bs m ls k1 (ls.drop k1)) ((kR pis bs m ls ls.length).map (dB pis)) (ix P gs (pis.drop m) K) (rl J.length (uH pis fl) fr) J [])
  (hS:fe P B w0 w J μ) (hF:FR w J μ fr a)
  (hQ:∀ st' w' μ' a',K st'→fe P B w0 w' st'.J μ'→FR w' st'.J μ' st'.fr a'→dX n w J μ w' st'.J μ'→Q .normal a' w'):wpAny P .any ops Q ops.size (Array.replicate ops.size false) a { w with drawn:=w.drawn+1 }:=by
 have hn:pis.length=ops.size:=by rw[(lE hp).1,aF]
 have hX:=JX fQ hn;have sj:=Qi QV
 have Vy:Dn (uH pis fl)=Dm pis fl:=by
  simp only[Dn,uH,Dm,gB];refine cD fun f hf=>?_;obtain⟨d,T,zs,e⟩:=(sj.Bs f hf).2.2;simp[e,Dp]
 rw[Vy]at h
 have xO:∀ (j f d:Nat),fl[j]?=some f→(dB pis f).d=some d→∃ x,(uH pis fl)[j]?=some x∧x.1=d:=by
  intro j f d hj hd;obtain⟨d',T,zs,e⟩:=(sj.Bs f (aL hj)).2.2;rw[e]at hd;simp only[aa]at hd;exact⟨(d',T,zs),by simp[uH,hj,e],hd⟩
 have hof:∀ x∈uH pis fl,∃ f,f∈fl∧(dB pis f).d=some x.1:=by
  intro x hx;simp only[uH,aT]at hx;obtain⟨f,hf,rfl⟩:=hx;obtain⟨d,T,zs,e⟩:=(sj.Bs f hf).2.2;exact⟨f,hf,by simp[e]⟩
 have Gi:(uH pis fl).Pairwise (fun a b=>a.1≠b.1):=by
  rw[uH,sk];refine sj.nd.imp_of_mem ?_;intro f g hf hg gr he;obtain⟨d,T,zs,e⟩:=(sj.Bs f hf).2.2;obtain⟨d',T',zs',e'⟩:=(sj.Bs g hg).2.2;simp only[e,e']at he;subst he;exact gr (hX.dst f g d (sj.Bs f hf).1 (sj.Bs g hg).1 (by rw[e]) (by rw[e']))
 obtain⟨hS',I1⟩:=hS.grown (w':={ w with drawn:=w.drawn+1 }) ⟨rfl,rfl,rfl,aq _,fun _ _ _=>rfl⟩;obtain⟨μ1,PL,U1⟩:=hS'.gz (Dm pis fl);have e0:J++gz (Dm pis fl)=J++(gz (Dm pis fl)++[]):=by rw[bF]
 rw[e0]at PL U1;have hk:=I1.dY.trans U1.dY;have hF':=hF.dY hk;obtain⟨fr',h1,h2,h3,h4⟩:=hX.Pj sj (k:=0) (eX _) (by simpa using h)
 have sg:∀ i,¬ il (Array.replicate ops.size false) i:=by
  intro i;simp only[il,aZ,tF];split<;>simp
 have eo:pZ pis fl (Array.replicate ops.size false)=gz (Dm pis fl):=by
  simp only[pZ,gz,Dm,gB];refine cD fun f _=>?_
  have:(Array.replicate ops.size false).getD f false=false:=by
   cases hh:(Array.replicate ops.size false).getD f false with
   | false=>rfl
   | true=>exact absurd hh (sg f)
  simp[this]
 refine x7 (n:=n) hX sj hp (fun st' w' μ' a' k1 k2 k3 k4=>hQ st' w' μ' a' k1 k2 k3 (dX.trans hk.GZ k4)) ht ops.size 0 _ fr' J [] _ μ1 a (by simp) (fun i j _ _ hl=>absurd hl (sg i)) (fun i _ _=>sg i) (eX _)
  (fun j L hL=>⟨fun hl=>absurd hl (sg L),fun h=>by omega⟩) (fun i hi hs QT _=>by rw[eo];exact h2 i (cT.2 ⟨hi,hs,by omega⟩)) rfl (fun j f d hj hd=>?_) h1 (by rw[hn];unfold zI;exact bl (dQ _ _) (by simp)) (by rw[eo];exact PL) ?_ (by rw[eo];exact dX.refl _ _ _ _)
 ·have Wz:=(sj.Bs f (aL hj)).1;obtain⟨x,hx,rfl⟩:=xO j f d hj hd;rw[mV];intro t ht' hl;simp only[aa]at ht';subst ht';rw[h3 x.1 fun y hy NM=>?_]
  ·exact FF Gi hx (by rwa [h4,vJ]at hl)
  ·have:=hX.dst f y x.1 Wz (cT.1 hy).1 hd NM;have h7:=(cT.1 hy).2.1;obtain⟨d',T,zs,h8⟩:=(sj.Bs f (aL hj)).2.2;rw[← this,h8]at h7;simp[I.b9]at h7
 ·rw[eo];refine⟨hF'.1,by rw[h4,vJ];exact hF'.2.1,fun t x hx ch uc=>?_⟩;rcases jl uc with⟨rfl,zh⟩ | ⟨y,hy,hd,hl,_⟩
  ·rw[h3 t fun i hi=>zh i (cT.1 hi).1,qq fun y hy e=>?_]at hx
   ·exact⟨fun _=>hF'.2.2 t x hx,fun h=>by simp[chainB]at h⟩
   ·obtain⟨f,hf,hfd⟩:=hof y hy;exact zh f (sj.Bs f hf).1 (e▸hfd)
  ·exact absurd hl (sg y)
end
inductive bE where
 | skip
 | ax (gs:List Nat) (is:List Pi)
 | dG (ds:List (List Pi×Pi×List Pi)) (last:List Pi) (gs:List Nat) (tail:List Pi)
 | seq (a b:bE)
 | ite (c:O) (a b:bE)
 | block (id:Nat) (c:bE)
 | loop (c:bE)
 | exit (id:Nat)
 | ret
 | both (a b:bE)
 | LB (fls:List (Nat×Nat×List V)) (ds1 ds2:List (List Pi×Pi×List Pi)) (last:List Pi) (gs:List Nat) (tail:List Pi)
def td(pis:List Pi):List Nat:=pis.filterMap fun p=>if p.g.isEmpty then none else p.d
def R3(P:Program)(ops:Array Oper):Option bE :=
 match nU P ops ops.toList with
 | some pis=>if Bl [] pis (td pis)then some (.ax (td pis) pis)else none
 | none=>none
def rY(P:Program)(ops:Array Oper)(bs:List Nat):Option bE :=
 if P.follows .mixedOrders then match nU P ops ops.toList with
  | some pis =>
   let m:=mX bs pis.length;let ls:=(List.range m).filter fun i=>!(dB pis i).i.b9
   if MW ops pis bs m ls []&&Bl (D0 pis m) (pis.drop m) (td pis)then
    some (.dG (xK pis bs m ls 0 ls) ((kR pis bs m ls ls.length).map (dB pis)) (td pis) (pis.drop m))else none
  | none=>none
 else none
def NF:Op→Bool
 | .alloc _ | .box _ _=>true
 | _=>false
def OZ(ops:Array Oper):List Nat:=(List.range ops.size).filter fun i=>match ops[i]? with
 | some o=>NF o.op
 | none=>false
def GG(P:Program)(ops:Array Oper):Option bE :=
 match OZ ops with
 | [i,j]=>if i≠j∧i<ops.size∧j<ops.size∧P.follows .mixedOrders=true∧((List.range ops.size).all fun x=>x==i||(x==j||match ops[x]? with | some o=>mw o.op | none=>true))=true then
   match rY P (waitsFor ops j i) (Region.before (waitsFor ops j i)).toList,rY P (mm (waitsFor ops i j) i j) (Region.before (mm (waitsFor ops i j) i j)).toList with
   | some a,some b=>some (.both a b)
   | _,_=>none
  else none
 | _=>none
def XH(pis:List Pi)(bs:List Nat)(m i:Nat):Bool:=match dB pis i with
 | ⟨some _,[],.alloc _ _⟩=>(List.range m).any fun j=>!(dB pis j).i.b9&&(j != i&&(!tb bs i j&&!tb bs j i))
 | _=>false
def WM(P:Program)(ops:Array Oper)(bs:List Nat):Option bE :=
 if P.follows .mixedOrders then match nU P ops ops.toList with
  | some pis =>
   let m:=mX bs pis.length;let fl:=(List.range m).filter (XH pis bs m);let ls:=(List.range m).filter fun i=>!(dB pis i).i.b9&&!fl.contains i;let k1:=(ls.filter fun L=>!fl.all (tb bs L)).length
   if MW ops pis bs m ls fl&&(okF pis bs m ls fl k1&&Bl (D0 pis m) (pis.drop m) (td pis))then
    some (.LB (uH pis fl) (xK pis bs m ls 0 (ls.take k1)) (xK pis bs m ls k1 (ls.drop k1)) ((kR pis bs m ls ls.length).map (dB pis)) (td pis) (pis.drop m))else none
  | none=>none
 else none
def LR(P:Program)(ops:Array Oper):Option bE :=
 match rY P ops (Region.before ops).toList with
 | some c=>some c
 | none=>match GG P ops with
  | some c=>some c
  | none=>WM P ops (Region.before ops).toList
def dW(P:Program):Code→Option bE
 | .skip=>some .skip
 | .region _ ops false=>R3 P ops
 | .region _ ops true=>LR P ops
 | .seq a b=>match dW P a,dW P b with
  | some a,some b=>some (.seq a b)
  | _,_=>none
 | .cond c a b=>match cO c,dW P a,dW P b with
  | some c,some a,some b=>some (.ite c a b)
  | _,_,_=>none
 | .block id c=>(dW P c).map (.block id)
 | .loop c=>(dW P c).map .loop
 | .exit id=>some (.exit id)
 | .ret=>some .ret
 | _=>none
theorem fU{P:Program}{ops:Array Oper}{c:bE}(h:R3 P ops=some c):∃ pis,nU P ops ops.toList=some pis∧Bl [] pis (td pis)=true∧c=.ax (td pis) pis:=by
 unfold R3 at h;split at h
 ·rename_i pis hp;split at h<;>simp only[aa,reduceCtorEq]at h;rename_i fQ;exact⟨pis,hp,fQ,h.symm⟩
 ·simp at h
theorem qG{P:Program}{ops:Array Oper}{bs:List Nat}{c:bE}(h:rY P ops bs=some c):
  P.follows .mixedOrders=true∧∃ pis m ls,nU P ops ops.toList=some pis∧MW ops pis bs m ls []=true∧Bl (D0 pis m) (pis.drop m) (td pis)=true ∧
   c=.dG (xK pis bs m ls 0 ls) ((kR pis bs m ls ls.length).map (dB pis)) (td pis) (pis.drop m):=by
 unfold rY at h;split at h
 ·rename_i hm;split at h
  ·rename_i pis hp;dsimp only at h;split at h<;>simp only[aa,reduceCtorEq]at h;rename_i fQ;rw[aP]at fQ;exact⟨hm,pis,_,_,hp,fQ.1,fQ.2,h.symm⟩
  ·simp at h
 ·simp at h
theorem xq{P:Program}{ops:Array Oper}{c:bE}(h:GG P ops=some c):∃ i j a b,i≠j∧i<ops.size∧j<ops.size∧P.follows .mixedOrders=true ∧
  (∀ x o,x≠i→x≠j→ops[x]?=some o→mw o.op=true)∧rY P (waitsFor ops j i) (Region.before (waitsFor ops j i)).toList=some a ∧
  rY P (mm (waitsFor ops i j) i j) (Region.before (mm (waitsFor ops i j) i j)).toList=some b∧c=.both a b:=by
 unfold GG at h;split at h
 ·rename_i i j zn;split at h
  ·rename_i hc;obtain⟨h1,h2,h3,h4,h5⟩:=hc;split at h<;>simp only[aa,reduceCtorEq]at h;rename_i a b ha hb;refine⟨i,j,a,b,h1,h2,h3,h4,fun x o Bm ub ho=>?_,ha,hb,h.symm⟩;simp only[cj,b7,da,bN]at h5;have:=h5 x (aN.1 ho).1;rw[ho]at this;rcases this with h | h | h
   ·exact absurd h Bm
   ·exact absurd h ub
   ·exact h
  ·simp at h
 ·simp at h
theorem Dl{P:Program}{ops:Array Oper}{bs:List Nat}{c:bE}(h:WM P ops bs=some c):
  P.follows .mixedOrders=true∧∃ pis m ls fl k1,nU P ops ops.toList=some pis∧MW ops pis bs m ls fl=true∧okF pis bs m ls fl k1=true∧Bl (D0 pis m) (pis.drop m) (td pis)=true ∧
   c=.LB (uH pis fl) (xK pis bs m ls 0 (ls.take k1)) (xK pis bs m ls k1 (ls.drop k1)) ((kR pis bs m ls ls.length).map (dB pis)) (td pis) (pis.drop m):=by
 unfold WM at h;split at h
 ·rename_i hm;split at h
  ·rename_i pis hp;dsimp only at h;split at h<;>simp only[aa,reduceCtorEq]at h;rename_i fQ;rw[aP,aP]at fQ;exact⟨hm,pis,_,_,_,_,hp,fQ.1,fQ.2.1,fQ.2.2,h.symm⟩
  ·simp at h
 ·simp at h
theorem fq{P:Program}{ops:Array Oper}{c:bE}(h:LR P ops=some c):
  (∃ ds last gs tail,c=.dG ds last gs tail∧rY P ops (Region.before ops).toList=some c)∨(∃ a b,c=.both a b∧GG P ops=some c) ∨
   (∃ fls ds1 ds2 last gs tail,c=.LB fls ds1 ds2 last gs tail∧WM P ops (Region.before ops).toList=some c):=by
 unfold LR at h;split at h
 ·rename_i c' hc;simp only[aa]at h;subst h;obtain⟨_,pis,m,ls,_,_,_,he⟩:=qG hc;exact .inl ⟨_,_,_,_,he,hc⟩
 ·split at h
  ·rename_i c' hc;simp only[aa]at h;subst h;obtain⟨i,j,a,b,_,_,_,_,_,_,_,he⟩:=xq hc;exact .inr (.inl ⟨a,b,he,hc⟩)
  ·obtain⟨_,pis,m,ls,fl,k1,_,_,_,_,he⟩:=Dl h;exact .inr (.inr ⟨_,_,_,_,_,_,he,h⟩)
def cE(n:Nat)(P:Program)(c:bE)(K:Exit→St→Prop)(st:St):Prop:=∀ code,dW P code=some c→PW n P code K st
theorem cE.mono{n:Nat}{P:Program}{c:bE}{K K':Exit→St→Prop}{st:St}(h:cE n P c K st)(hk:∀ e st',K e st'→K' e st'):cE n P c K' st :=
 fun code hc=>(h code hc).mono hk
section rules
variable {n:Nat} {P:Program} {K:Exit→St→Prop} {st:St}
theorem cE.skip(h:K .normal st):cE n P .skip K st:=by
 intro code hc;cases code
 case skip=>exact PW.skip h
 all_goals first | (exfalso;revert hc;simp only[dW];try ((repeat' split)<;>simp);done) | (rename_i _ ops draw;exfalso;cases draw<;>simp only[dW]at hc<;>first | (obtain⟨_,_,_,h⟩:=fU hc;simp at h;done) | (rcases fq hc with⟨_,_,_,_,h,_⟩ | ⟨_,_,h,_⟩ | ⟨_,_,_,_,_,_,h,_⟩<;>simp at h;done))
theorem cE.ax{gs:List Nat}{is:List Pi}(h:ix P gs is (K .normal) st):cE n P (.ax gs is) K st:=by
 intro code hc;cases code
 case region id ops draw =>
  cases draw
  ·simp only[dW]at hc;obtain⟨ps,jV,fQ,he⟩:=fU hc;simp only[bE.ax.injEq]at he;obtain⟨rfl,rfl⟩:=he;intro B w0 w μ a hS hF;refine wp_region ?_
   have:=vP (P:=P) (ops:=ops) (n:=n) (B:=B) (gs:=td is) (w0:=w0) (ws:=w) (σs:=st.J) (μs:=μ) (K:=K .normal) (Q:=fB P n B w0 w st.J μ K)
    (fun st' w' μ' a' h1 h2 h3 h4=>⟨st',μ',h1,h2,h3,h4⟩) ops.toList 0 is [] st.fr st.J w μ a (fun j=>by simp) jV fQ h hS hF.toI (dX.refl _ _ _ _)
   simp only[bj,List.map_id',aF]at this;exact this
  ·simp only[dW]at hc;rcases fq hc with⟨_,_,_,_,h,_⟩ | ⟨_,_,h,_⟩ | ⟨_,_,_,_,_,_,h,_⟩<;>simp at h
 all_goals first | (exfalso;revert hc;simp only[dW];try ((repeat' split)<;>simp);done)
theorem cE.dG{ds:List (List Pi×Pi×List Pi)}{last:List Pi}{gs:List Nat}{tail:List Pi}(h:oz P ds last (ix P gs tail (K .normal)) st):cE n P (.dG ds last gs tail) K st:=by
 intro code hc;cases code
 case region id ops draw =>
  cases draw
  ·simp only[dW]at hc;obtain⟨_,_,_,h⟩:=fU hc;simp at h
  ·simp only[dW]at hc;rcases fq hc with⟨_,_,_,_,_,hc⟩ | ⟨_,_,h,_⟩ | ⟨_,_,_,_,_,_,h,_⟩
   rotate_left
   ·simp at h
   ·simp at h
   obtain⟨hm,pis,m,ls,jV,fQ,xM,he⟩:=qG hc;simp only[bE.dG.injEq]at he;obtain⟨rfl,rfl,rfl,rfl⟩:=he;intro B w0 w μ a hS hF;exact B0 (n:=n) hm jV fQ xM h hS hF fun st' w' μ' a' h1 h2 h3 h4=>⟨st',μ',h1,h2,h3,h4⟩
 all_goals first | (exfalso;revert hc;simp only[dW];try ((repeat' split)<;>simp);done)
theorem zy{ops:Array Oper}{bs:List Nat}{c:bE}(hc:rY P ops bs=some c)(h:∃ ds last gs tail,c=.dG ds last gs tail∧oz P ds last (ix P gs tail (K .normal)) st)
  {B:Nat} {w0 w:World} {μ:Mem} {a:Act} (hS:fe P B w0 w st.J μ) (hF:FR w st.J μ st.fr a) :
  wpAny P .any ops (fun e a' w'=>∃ st' μ',K e st'∧fe P B w0 w' st'.J μ'∧FR w' st'.J μ' st'.fr a'∧dX n w st.J μ w' st'.J μ') ops.size (Array.replicate ops.size false) a { w with drawn:=w.drawn+1 }:=by
 obtain⟨hm,pis,m,ls,jV,fQ,xM,rfl⟩:=qG hc;obtain⟨ds,last,gs,tail,he,h⟩:=h;simp only[bE.dG.injEq]at he;obtain⟨rfl,rfl,rfl,rfl⟩:=he;exact ru (n:=n) jV fQ xM h hS hF fun st' w' μ' a' h1 h2 h3 h4=>⟨st',μ',h1,h2,h3,h4⟩
theorem cE.both{x y:bE}(h1:∃ ds last gs tail,x=.dG ds last gs tail∧oz P ds last (ix P gs tail (K .normal)) st)(h2:∃ ds last gs tail,y=.dG ds last gs tail∧oz P ds last (ix P gs tail (K .normal)) st):
  cE n P (.both x y) K st:=by
 intro code hc;cases code
 case region id ops draw =>
  cases draw
  ·simp only[dW]at hc;obtain⟨_,_,_,h⟩:=fU hc;simp at h
  ·simp only[dW]at hc;rcases fq hc with⟨_,_,_,_,h,_⟩ | ⟨a,b,h,hc⟩ | ⟨_,_,_,_,_,_,h,_⟩
   ·simp at h
   rotate_left
   ·simp at h
   obtain⟨i,j,a',b',DI,hi,hj,hm,hp,ha,hb,he⟩:=xq hc;simp only[bE.both.injEq]at he;obtain⟨rfl,rfl⟩:=he;intro B w0 w μ a hS hF;refine zW hm DI hi hj hp ?_ ?_
   ·have:=zy (n:=n) ha h1 hS hF
    rwa [gh]at this
   ·have:=zy (n:=n) hb h2 hS hF
    rwa [vw,gh]at this
 all_goals first | (exfalso;revert hc;simp only[dW];try ((repeat' split)<;>simp);done)
theorem cE.LB{fls:List (Nat×Nat×List V)}{ds1 ds2:List (List Pi×Pi×List Pi)}{last:List Pi}{gs:List Nat}{tail:List Pi}
  (h:sF P (Dn fls) ds1 ds2 last (ix P gs tail (K .normal)) (rl st.J.length fls st.fr) st.J []):cE n P (.LB fls ds1 ds2 last gs tail) K st:=by
 intro code hc;cases code
 case region id ops draw =>
  cases draw
  ·simp only[dW]at hc;obtain⟨_,_,_,h⟩:=fU hc;simp at h
  ·simp only[dW]at hc;rcases fq hc with⟨_,_,_,_,h,_⟩ | ⟨_,_,h,_⟩ | ⟨_,_,_,_,_,_,_,hc⟩
   ·simp at h
   ·simp at h
   obtain⟨hm,pis,m,ls,fl,k1,jV,fQ,QV,xM,he⟩:=Dl hc;simp only[bE.LB.injEq]at he;obtain⟨rfl,rfl,rfl,rfl,rfl,rfl⟩:=he;intro B w0 w μ a hS hF;exact wp_region_any hm (x6 (n:=n) jV fQ QV xM h hS hF fun st' w' μ' a' h1 h2 h3 h4=>⟨st',μ',h1,h2,h3,h4⟩)
 all_goals first | (exfalso;revert hc;simp only[dW];try ((repeat' split)<;>simp);done)
theorem cE.ret(h:K .ret st):cE n P .ret K st:=by
 intro code hc;cases code
 case ret=>exact PW.ret h
 all_goals first | (exfalso;revert hc;simp only[dW];try ((repeat' split)<;>simp);done) | (rename_i _ ops draw;exfalso;cases draw<;>simp only[dW]at hc<;>first | (obtain⟨_,_,_,h⟩:=fU hc;simp at h;done) | (rcases fq hc with⟨_,_,_,_,h,_⟩ | ⟨_,_,h,_⟩ | ⟨_,_,_,_,_,_,h,_⟩<;>simp at h;done))
theorem cE.exit{id:Nat}(h:K (.exit id) st):cE n P (.exit id) K st:=by
 intro code hc;cases code
 case exit id'=>simp only[dW,aa,bE.exit.injEq]at hc;subst hc;exact PW.exit h
 all_goals first | (exfalso;revert hc;simp only[dW];try ((repeat' split)<;>simp);done) | (rename_i _ ops draw;exfalso;cases draw<;>simp only[dW]at hc<;>first | (obtain⟨_,_,_,h⟩:=fU hc;simp at h;done) | (rcases fq hc with⟨_,_,_,_,h,_⟩ | ⟨_,_,h,_⟩ | ⟨_,_,_,_,_,_,h,_⟩<;>simp at h;done))
def SX(n:Nat)(P:Program)(y:bE)(K:Exit→St→Prop):Exit→St→Prop
 | .normal,st=>cE n P y K st
 | e,st=>K e st
theorem cE.seq{x y:bE}(h:cE n P x (SX n P y K) st):cE n P (.seq x y) K st:=by
 intro code hc;cases code
 case seq p q =>
  simp only[dW]at hc;split at hc<;>simp only[aa,reduceCtorEq,bE.seq.injEq]at hc;rename_i p' q' hp hq;obtain⟨rfl,rfl⟩:=hc;refine PW.seq ((h p hp).mono ?_);intro e st' hK;cases e<;>first | exact hK q hq | exact hK
 all_goals first | (exfalso;revert hc;simp only[dW];try ((repeat' split)<;>simp);done) | (rename_i _ ops draw;exfalso;cases draw<;>simp only[dW]at hc<;>first | (obtain⟨_,_,_,h⟩:=fU hc;simp at h;done) | (rcases fq hc with⟨_,_,_,_,h,_⟩ | ⟨_,_,h,_⟩ | ⟨_,_,_,_,_,_,h,_⟩<;>simp at h;done))
theorem cE.block{id:Nat}{c:bE}(h:cE n P c (tu id K) st):cE n P (.block id c) K st:=by
 intro code hc;cases code
 case block id' c' =>
  simp only[dW,ah,bE.block.injEq]at hc;obtain⟨c2,DL,rfl,rfl⟩:=hc;exact PW.block (h c' DL)
 all_goals first | (exfalso;revert hc;simp only[dW];try ((repeat' split)<;>simp);done) | (rename_i _ ops draw;exfalso;cases draw<;>simp only[dW]at hc<;>first | (obtain⟨_,_,_,h⟩:=fU hc;simp at h;done) | (rcases fq hc with⟨_,_,_,_,h,_⟩ | ⟨_,_,h,_⟩ | ⟨_,_,_,_,_,_,h,_⟩<;>simp at h;done))
theorem cE.loop{c:bE}(I:St→Prop)(m:St→Nat)(h0:I st)(h:∀ st,I st→cE n P c (Pp I m (m st) K) st):cE n P (.loop c) K st:=by
 intro code hc;cases code
 case loop c' =>
  simp only[dW,ah,bE.loop.injEq]at hc;obtain⟨c2,DL,rfl⟩:=hc;exact PW.loop I m h0 fun st hI=>h st hI c' DL
 all_goals first | (exfalso;revert hc;simp only[dW];try ((repeat' split)<;>simp);done) | (rename_i _ ops draw;exfalso;cases draw<;>simp only[dW]at hc<;>first | (obtain⟨_,_,_,h⟩:=fU hc;simp at h;done) | (rcases fq hc with⟨_,_,_,_,h,_⟩ | ⟨_,_,h,_⟩ | ⟨_,_,_,_,_,_,h,_⟩<;>simp at h;done))
theorem cE.ite{c:O}{x y:bE}{b:Bool}(hb:ev st.fr c=.b b)(ht:b=true→cE n P x K st)(hf:b=false→cE n P y K st):cE n P (.ite c x y) K st:=by
 intro code hc;cases code
 case cond c' p q =>
  simp only[dW]at hc;split at hc<;>simp only[aa,reduceCtorEq,bE.ite.injEq]at hc;rename_i c2 p' q' wL hp hq;obtain⟨rfl,rfl,rfl⟩:=hc;intro B w0 w μ a hS hF;have hv:=(hb▸cn hF wL).lW;cases b
  ·exact wp_cond_false hv (hf rfl q hq B w0 w μ a hS hF)
  ·exact wp_cond_true hv (ht rfl p hp B w0 w μ a hS hF)
 all_goals first | (exfalso;revert hc;simp only[dW];try ((repeat' split)<;>simp);done) | (rename_i _ ops draw;exfalso;cases draw<;>simp only[dW]at hc<;>first | (obtain⟨_,_,_,h⟩:=fU hc;simp at h;done) | (rcases fq hc with⟨_,_,_,_,h,_⟩ | ⟨_,_,h,_⟩ | ⟨_,_,_,_,_,_,h,_⟩<;>simp at h;done))
end rules
inductive V.Wf:V→Prop
 | s (l:List UInt8) (h:l.length≤maxLen):Wf (.s l)
 | sl (sz:Nat) (xs:List (List V)) (h:xs.length≤maxLen) (hr:∀ r∈xs,r.length=sz) (hx:∀ i j x,eV xs i j=some x→Wf x):Wf (.sl sz xs)
 | agg (xs:List V) (h:∀ (i:Nat) (x:V),xs[i]?=some x→Wf x):Wf (.agg xs)
 | b (x):Wf (.b x)
 | i (k n):Wf (.i k n)
 | u:Wf .u
 | nil:Wf .nil
 | lit (sz xs):Wf (.lit sz xs)
 | own (id g):Wf (.own id g)
 | sub (id g lo hi):Wf (.sub id g lo hi)
 | ptr (id off):Wf (.ptr id off)
 | ep (sz xs i off):Wf (.ep sz xs i off)
 | rp (id g i off):Wf (.rp id g i off)
 | mp (id):Wf (.mp id)
 | it (id):Wf (.it id)
 | r7 (id n):Wf (.r7 id n)
 | cV:Wf .cV
 | fp:Wf .fp
 | fn (f caps):Wf (.fn f caps)
 | fa (xs):Wf (.fa xs)
theorem VR.wf{w:World}{J:ae}{μ:Mem}{x:V}{v:Value}(h:VR w J μ x v):x.Wf:=by
 induction h with
 | u v=>exact .u
 | b x=>exact .b x
 | i k n=>exact .i k n
 | s l x hl hm=>exact .s l hm
 | nil=>exact .nil
 | yK sz=>exact .sl sz [] (by simp) (by simp) (by simp[eV])
 | sle sz a=>exact .sl sz [] (by simp) (by simp) (by simp[eV])
 | sl sz xs b o cap f hlen jL bT hc hv ih=>exact .sl sz xs (bl hlen jL) bT ih
 | AG sz=>exact .lit sz _
 | lit sz xs b o f jL bT hc hv ih=>exact .lit sz xs
 | own id g v hid h=>exact .own id g
 | sub id g lo hi v hid h=>exact .sub id g lo hi
 | ptr id off b h hm=>exact .ptr id off
 | ep sz xs i off b o f hi bT hc hv ih=>exact .ep sz xs i off
 | rp id g i off v hid h=>exact .rp id g i off
 | mp id r h hm=>exact .mp id
 | it id v h hm=>exact .it id
 | r7 id n b h hm=>exact .r7 id n
 | cV=>exact .cV
 | fp=>exact .fp
 | fn f caps vs hl hv ih=>exact .fn f caps
 | agg xs vs hl hv ih=>exact .agg xs ih
 | fa xs vs hl hv ih=>exact .fa xs
def Ob.refs:Ob→List V
 | .box _ cs=>cs
 | .map _ _ es=>es.map (·.2)
 | .iter _ m _ _ _ _=>[.mp m]
 | _=>[]
def bG(J:ae):Prop:=∀ (id:Nat) (o:Ob),J[id]?=some o→∀ (j:Nat) (x:V),o.refs[j]?=some x→x.Lt J.length
theorem fe.closed{P:Program}{B:Nat}{w0 w:World}{J:ae}{μ:Mem}(hS:fe P B w0 w J μ):bG J:=by
 intro id o h j x hx;cases o with
 | dead=>simp[Ob.refs]at hx
 | row E sz by' g sh xs=>simp[Ob.refs]at hx
 | box T cs =>
  obtain⟨b,vs,_,_,_,_,kN⟩:=hS.GH h;obtain⟨u,_,hv⟩:=kN j x hx;exact hv.lt
 | map K E es =>
  obtain⟨r,ents,clock,_,_,_,hR⟩:=hS.obj id _ h;simp only[Ob.refs,aW,ah]at hx;obtain⟨⟨k,y⟩,h1,rfl⟩:=hx;obtain⟨_,_,e,_,_,hv⟩:=hR.2.1 j k y h1;exact hv.lt
 | iter st m E n ps c =>
  have hm:m<J.length:=by
   have:=hS.obj id _ h;cases st
   ·obtain⟨_,_,_,_,_,_,_,_,_,_,_,_,_,_,h2,_⟩:=this;exact(ab.1 h2).1
   ·obtain⟨_,_,_,_,_,_,_,_,_,h2,_⟩:=this;exact(ab.1 h2).1
  cases j with
  | zero=>simp only[Ob.refs,au,aa]at hx;subst hx;exact .mp _ hm
  | succ j=>simp[Ob.refs]at hx
def Wk(P:Program)(n:Nat)(xs:List V)(J:ae)(xs':List V)(J':ae):Prop :=
 ∀ (B:Nat) (w0 w:World) (μ:Mem) (vs:Array Value),fe P B w0 w J μ→CR w J μ xs vs→∃ μ',fe P B w0 w J' μ'∧CR w J' μ' xs' vs∧dX n w J μ w J' μ'
theorem Wk.refl{P:Program}{n:Nat}(xs:List V)(J:ae):Wk P n xs J xs J:=fun _ _ _ μ _ h1 h2=>⟨μ,h1,h2,dX.refl _ _ _ _⟩
theorem Wk.trans{P:Program}{n:Nat}{xs:List V}{J:ae}{xs':List V}{J':ae}{xs'':List V}{J'':ae}(h:Wk P n xs J xs' J')(k:Wk P n xs' J' xs'' J''):Wk P n xs J xs'' J'':=by
 intro B w0 w μ vs h1 h2;obtain⟨μ1,h3,h4,h5⟩:=h B w0 w μ vs h1 h2;obtain⟨μ2,h6,h7,h8⟩:=k B w0 w μ1 vs h3 h4;exact⟨μ2,h6,h7,h5.trans h8⟩
theorem cE.wk{P:Program}{n:Nat}{c:bE}{K:Exit→St→Prop}{fr fr':List V}{J J':ae}(h:Wk P n fr J fr' J')(k:cE n P c K ⟨fr',J'⟩):cE n P c K ⟨fr,J⟩:=by
 intro code hc B w0 w μ a hS hF;obtain⟨μ',h1,h2,h3⟩:=h B w0 w μ a.tmps hS ⟨hF.2.1.symm,hF.2.2⟩;exact wp_mono (k code hc B w0 w μ' a h1 ⟨hF.1,h2.1.symm,h2.2⟩) fun e a' w' ⟨st',μ2,h4,h5,h6,h7⟩=>⟨st',μ2,h4,h5,h6,h3.trans h7⟩
theorem PC.wk{P:Program}{f:Nat}{args args':List V}{J J':ae}{Q:V→ae→Prop}(h:Wk P J.length args J args' J')(k:PC P f args' J' Q):PC P f args J Q:=by
 intro B w0 w μ vs hS hv;obtain⟨μ',h1,h2,h3⟩:=h B w0 w μ vs hS ⟨hv.1.symm,hv.2⟩;refine(k B w0 w μ' vs h1 ⟨h2.1.symm,h2.2⟩).mono ?_;rintro e w' ⟨r,v,σ2,μ2,rfl,h4,h5,h6,h7⟩;exact⟨r,v,σ2,μ2,rfl,h4,h5,h6,fun x u hx=>h7 x u (h3 x u hx hx.lt)⟩
inductive Cv:V→V→Prop
 | refl (x):Cv x x
 | forget (x):Cv x .u
 | nil (sz):Cv .nil (.sl sz [])
 | lit (sz xs):Cv (.lit sz xs) (.sl sz xs)
 | agg (xs ys:List V) (hl:ys.length=xs.length) (h:∀ (i:Nat) (x y:V),xs[i]?=some x→ys[i]?=some y→Cv x y):Cv (.agg xs) (.agg ys)
 | fa (xs ys:List V) (hl:ys.length=xs.length) (h:∀ (i:Nat) (x y:V),xs[i]?=some x→ys[i]?=some y→Cv x y):Cv (.fa xs) (.fa ys)
theorem Cv.ok{w:World}{J:ae}{μ:Mem}{x y:V}(h:Cv x y):∀ {v:Value},VR w J μ x v→VR w J μ y v:=by
 induction h with
 | refl x=>exact fun h=>h
 | forget x=>exact fun _=>.u _
 | nil sz=>intro v h;rw[h.kM];exact .yK _
 | lit sz xs =>
  intro v h;rcases h.mH with⟨rfl,rfl⟩ | ⟨b,o,f,rfl,hm,hr⟩
  ·exact .yK _
  ·exact .sl _ _ b o _ f (aq _) hm hr.1 hr.2.1 hr.2.2
 | agg xs ys hl hc ih =>
  intro v h;obtain⟨vs,rfl,h1,h2⟩:=h.fX;refine .agg ys vs (by rw[hl,h1]) fun i y hy=>?_;have hi:i<xs.length:=by rw[← hl];exact(ab.1 hy).1
  exact ih i xs[i] y (an hi) hy (h2 i _ (an hi))
 | fa xs ys hl hc ih =>
  intro v h;obtain⟨vs,rfl,h1,h2⟩:=h.AL;refine .fa ys vs (by rw[hl,h1]) fun i y hy=>?_;have hi:i<xs.length:=by rw[← hl];exact(ab.1 hy).1
  exact ih i xs[i] y (an hi) hy (h2 i _ (an hi))
inductive qJ:List V→List V→Prop
 | nil:qJ [] []
 | cons {x y xs ys} (h:Cv x y) (t:qJ xs ys):qJ (x::xs) (y::ys)
theorem qJ.at{xs ys:List V}(h:qJ xs ys):ys.length=xs.length∧∀ (i:Nat) (x y:V),xs[i]?=some x→ys[i]?=some y→Cv x y:=by
 induction h with
 | nil=>simp
 | cons h t ih =>
  refine⟨by simp[ih.1],fun i x y hx hy=>?_⟩;cases i with
  | zero=>simp only[au,aa]at hx hy;subst hx;subst hy;exact h
  | succ i=>exact ih.2 i x y (by simpa using hx) (by simpa using hy)
theorem qJ.refl(xs:List V):qJ xs xs:=by
 induction xs with
 | nil=>exact .nil
 | cons x xs ih=>exact .cons (.refl x) ih
theorem Cv.Bd{xs ys:List V}(h:qJ xs ys):Cv (.agg xs) (.agg ys):=.agg xs ys h.at.1 h.at.2
theorem Wk.kP{P:Program}{n:Nat}{xs ys:List V}{J:ae}(h:qJ xs ys):Wk P n xs J ys J:=by
 intro B w0 w μ vs hS hC;obtain⟨h1,h2⟩:=h.at;refine⟨μ,hS,⟨by rw[h1];exact hC.1,fun i y hy=>?_⟩,dX.refl _ _ _ _⟩;have hi:i<xs.length:=by rw[← h1];exact(ab.1 hy).1
 exact(h2 i xs[i] y (an hi) hy).ok (hC.2 i _ (an hi))
theorem Wk.share{P:Program}{n:Nat}{xs:List V}{J:ae}{id E sz by' g:Nat}{sh:Bool}{rows:List (List V)}(ho:J[id]?=some (.row E sz by' g sh rows)):Wk P n xs J xs (J.set id (.row E sz by' g true rows)):=by
 intro B w0 w μ vs hS hC;have cM:id<J.length:=(ab.1 ho).1
 have mh:=hS.update (w':=w) (J':=J.set id (.row E sz by' g true rows)) (μ':=μ) id none (grownBy_refl w none) (by simp) (by simp) (fun j hj=>ay (fun e=>hj e.symm)) (fun _ _=>rfl)
  (fun b hb=>.inl ⟨_,ho,by simp,hb⟩)
  (fun b off u o h1 _ h2 h3 h4=>⟨h3,fun o' h5 h6=>by
   rw[ho]at h1;simp only[aa]at h1;subst h1;simp only[ak cM,aa]at h5;subst h5;intro hw;exact h4 ⟨id,_,ho,h2,fun _=>hw rfl⟩⟩)
  (fun T cs h=>by rw[ho]at h;simp at h) (fun K E es h=>by rw[ho]at h;simp at h)
  (fun E2 sz2 by2 g2 sh2 xs2 _ h=>by
   simp only[ak cM,aa,Ob.row.injEq]at h;obtain⟨rfl,rfl,rfl,rfl,rfl,rfl⟩:=h;exact⟨g,sh,rows,ho,aq _,fun _=>⟨rfl,rfl⟩⟩)
  (fun hp o h=>by
   simp only[ak cM,aa]at h;subst h;exact(hS.obj id _ ho).dY hp.dY fun _ _=>rfl)
 exact⟨μ,mh.1,⟨hC.1,fun i x hx=>(hC.2 i x hx).mono mh.2⟩,mh.2.dY.GZ⟩
theorem VR.rC{P:Program}{B:Nat}{w0 w:World}{J:ae}{μ:Mem}(hS:fe P B w0 w J μ){id E sz by' g:Nat}{rows:List (List V)}(ho:J[id]?=some (.row E sz by' g true rows))(lo hi:Nat)(hlh:lo≤hi)(hh:hi≤rows.length):
  VR w J μ (.sl sz ((rows.drop lo).take (hi - lo))) (iR (μ id) lo hi sz):=by
 obtain⟨_,bT,hr⟩:=hS.rowAt ho;have hl:((rows.drop lo).take (hi - lo)).length=hi - lo:=by simp;omega
 rcases hr with⟨hm,hn⟩ | ⟨b,cap,cur,hm,_,hc,wI,_,hr⟩
 ·subst hn;simp only[aK]at hh;have h3:lo=0:=by omega
  have h4:hi=0:=by omega
  subst h3;subst h4;rw[hm];exact .yK sz
 ·rw[hm];let f:Nat→Nat→Value:=fun i j=>(w.cell? ⟨b,i*sz+j,none⟩).getD undef
  have hf:∀ i j x,eV rows i j=some x→w.cell? ⟨b,i*sz+j,none⟩=some (f i j)∧x.pure=true∧VR w J μ x (f i j):=by
   intro i j x hx;obtain⟨h1,u,h2,h3⟩:=hr i j x hx;have:f i j=u:=by simp[f,h2]
   exact⟨by rw[this];exact h2,h1,by rw[this];exact h3⟩
  have hnw:∀ i j x,eV rows i j=some x→¬ wr J μ b (i*sz+j):=by
   rintro i j x hx ⟨id2,o2,h1,h2,h3⟩;have hd:o2≠.dead:=by rintro rfl;exact h3
   have:=hS.sep id id2 _ o2 b ho h1 (by simp) hd (by simp[hm,fR]) h2;subst this;rw[ho]at h1;simp only[aa]at h1;subst h1;have h4:=h3 rfl;obtain⟨r,UX,ox⟩:=eP hx;have hi':i<rows.length:=(ab.1 UX).1;have hj:j<sz:=by rw[← bT r (aL UX)];exact(ab.1 ox).1
   have:(i+1)*sz≤rows.length*sz:=aY _ hi';rw[bO,eG]at this;omega
  have eJ:mb w J μ rows sz b 0 f:=⟨bT,fun i j x hx=>⟨by rw[bj];exact(hf i j x hx).1,by rw[bj];exact hnw i j x hx,(hf i j x hx).2.1⟩,fun i j x hx=>(hf i j x hx).2.2⟩
  by_cases he:cap=lo
  ·have h3:hi - lo=0:=by omega
   simp only[iR,he,aR,h3,qO,eQ];exact .sl sz [] b 0 0 f (by simp) (by simp) (by simp) (by simp[eV]) (by simp[eV])
  ·simp only[iR,he,aO,bL,Addr.add_lit];have h5:=eJ.sub lo (hi - lo);have h6:=VR.sl (w:=w) (J:=J) (μ:=μ) sz _ b _ (cap - lo) _ (by rw[hl];omega) (by omega) h5.1 h5.2.1 h5.2.2
   rwa [hl]at h6
theorem BN{P:Program}{B:Nat}{w0 w:World}{J:ae}{μ:Mem}(hS:fe P B w0 w J μ){id E sz by' g:Nat}{sh:Bool}{rows:List (List V)}(ho:J[id]?=some (.row E sz by' g sh rows)):iR (μ id) 0 rows.length sz=μ id:=by
 rcases(hS.rowAt ho).2.2 with⟨hm,hn⟩ | ⟨b,cap,cur,hm,_⟩
 ·subst hn;rw[hm];rfl
 ·rw[hm];simp[iR,Addr.add_lit]
theorem Wk.own{P:Program}{n:Nat}{xs:List V}{J:ae}{k id E sz by' g:Nat}{rows:List (List V)}(ho:J[id]?=some (.row E sz by' g true rows))(hk:xs[k]?=some (.own id g)):Wk P n xs J (xs.set k (.sl sz rows)) J:=by
 intro B w0 w μ vs hS hC;have cM:k<xs.length:=(ab.1 hk).1;refine⟨μ,hS,⟨by simp[hC.1],fun i y hy=>?_⟩,dX.refl _ _ _ _⟩
 by_cases hi:i=k
 ·subst hi;rw[ak cM]at hy;simp only[aa]at hy;subst hy;have h1:=hC.2 i _ hk;have h2:=h1.iL ho;rw[h2];have:=VR.rC hS ho 0 rows.length (by omega) (aq _);rw[BN hS ho]at this;simpa using this
 ·rw[ay (fun e=>hi e.symm)]at hy;exact hC.2 i y hy
theorem Wk.sub{P:Program}{n:Nat}{xs:List V}{J:ae}{k id E sz by' g lo hi:Nat}{rows:List (List V)}(ho:J[id]?=some (.row E sz by' g true rows))(hk:xs[k]?=some (.sub id g lo hi)):Wk P n xs J (xs.set k (.sl sz ((rows.drop lo).take (hi - lo)))) J:=by
 intro B w0 w μ vs hS hC;have cM:k<xs.length:=(ab.1 hk).1;refine⟨μ,hS,⟨by simp[hC.1],fun i y hy=>?_⟩,dX.refl _ _ _ _⟩
 by_cases hi:i=k
 ·subst hi;rw[ak cM]at hy;simp only[aa]at hy;subst hy;obtain⟨h1,h2,h3⟩:=(hC.2 i _ hk).mF ho;rw[h3];exact VR.rC hS ho lo _ h1 h2
 ·rw[ay (fun e=>hi e.symm)]at hy;exact hC.2 i y hy
theorem Wk.pA{P:Program}{n:Nat}{xs:List V}{J:ae}{k E sz by':Nat}(hT:Ti P E sz by')(hk:xs[k]?=some .nil):Wk P n xs J (xs.set k (.own J.length 0)) (J++[.row E sz by' 0 false []]):=by
 intro B w0 w μ vs hS hC;have cM:k<xs.length:=(ab.1 hk).1;have hn:=hS.ov (w':=w) (.row E sz by' 0 false []) (.slice none 0 0) (grownBy_refl w none) (by simp[fR]) (fun _=>⟨hT,[],World.ownsRow_nil w B E sz,by simp,by simp[eV]⟩);refine⟨_,hn.1,⟨by simp[hC.1],fun i y hy=>?_⟩,hn.2.dY.GZ⟩
 by_cases hi:i=k
 ·subst hi;rw[ak cM]at hy;simp only[aa]at hy;subst hy;rw[(hC.2 i _ hk).kM];have:=VR.lk (w:=w) (J:=J++[.row E sz by' 0 false []]) (μ:=oh μ J.length (.slice none 0 0)) (id:=J.length) (E:=E) (sz:=sz) (by':=by') (g:=0) (sh:=false) (xs:=[]) (by simp)
  rwa [cX]at this
 ·rw[ay (fun e=>hi e.symm)]at hy;exact(hC.2 i y hy).mono hn.2
theorem kK{x:V}(h:x.pure=true)(m:Nat):x.Lt m:=by
 cases x<;>simp[V.pure]at h
 ·exact .b _
 ·exact .i _ _
 ·exact .s _
 ·exact .sl _ _
theorem VR.take{w:World}{J:ae}{μ:Mem}{x:V}{v:Value}(h:VR w J μ x v){m:Nat}(hm:m≤J.length)(hx:x.Lt m):VR w (J.take m) μ x v:=by
 have hw:∀ b off,wr (J.take m) μ b off→wr J μ b off:=by
  rintro b off ⟨id,o,h1,h2,h3⟩;refine⟨id,o,?_,h2,h3⟩;rw[dp]at h1;split at h1
  ·exact h1
  ·simp at h1
 have eJ:∀ {id:Nat} {o:Ob},id<m→((J.take m)[id]?=some o↔J[id]?=some o):=fun h=>by rw[aU h]
 have hlen:(J.take m).length=m:=by simp;omega
 induction h with
 | u v=>exact .u v
 | b x=>exact .b x
 | i k n=>exact .i k n
 | s l x hl hm=>exact .s l x hl hm
 | nil=>exact .nil
 | yK sz=>exact .yK sz
 | sle sz a=>exact .sle sz a
 | sl sz xs b o cap f hlen jL bT hc hv ih =>
  exact .sl sz xs b o cap f hlen jL bT (fun i j x hx=>⟨(hc i j x hx).1,fun h=>(hc i j x hx).2.1 (hw _ _ h),(hc i j x hx).2.2⟩) (fun i j x hx=>ih i j x hx (kK (hc i j x hx).2.2 m))
 | AG sz=>exact .AG sz
 | lit sz xs b o f jL bT hc hv ih =>
  exact .lit sz xs b o f jL bT (fun i j x hx=>⟨(hc i j x hx).1,fun h=>(hc i j x hx).2.1 (hw _ _ h),(hc i j x hx).2.2⟩) (fun i j x hx=>ih i j x hx (kK (hc i j x hx).2.2 m))
 | own id g v hid h =>
  cases hx with
  | own _ _ hl=>exact .own id g v (by rw[hlen];exact hl) fun E sz by' g' sh xs ho=>h E sz by' g' sh xs ((eJ hl).1 ho)
 | sub id g lo hi v hid h =>
  cases hx with
  | sub _ _ _ _ hl=>exact .sub id g lo hi v (by rw[hlen];exact hl) fun E sz by' g' sh xs ho=>h E sz by' g' sh xs ((eJ hl).1 ho)
 | ptr id off b h hm =>
  cases hx with
  | ptr _ _ hl =>
   obtain⟨T,cs,h1⟩:=h;exact .ptr id off b ⟨T,cs,(eJ hl).2 h1⟩ hm
 | ep sz xs i off b o f hi bT hc hv ih =>
  exact .ep sz xs i off b o f hi bT (fun j x hx=>⟨(hc j x hx).1,fun h=>(hc j x hx).2.1 (hw _ _ h),(hc j x hx).2.2⟩) (fun j x hx=>ih j x hx (kK (hc j x hx).2.2 m))
 | rp id g i off v hid h =>
  cases hx with
  | rp _ _ _ _ hl=>exact .rp id g i off v (by rw[hlen];exact hl) fun E sz by' g' sh xs ho=>h E sz by' g' sh xs ((eJ hl).1 ho)
 | mp id r h hm =>
  cases hx with
  | mp _ hl =>
   obtain⟨K,E,es,h1⟩:=h;exact .mp id r ⟨K,E,es,(eJ hl).2 h1⟩ hm
 | it id v h hm =>
  cases hx with
  | it _ hl =>
   obtain⟨st,m',E,n,ps,c,h1⟩:=h;exact .it id v ⟨st,m',E,n,ps,c,(eJ hl).2 h1⟩ hm
 | r7 id n b h hm =>
  cases hx with
  | r7 _ _ hl =>
   obtain⟨T,cs,h1⟩:=h;exact .r7 id n b ⟨T,cs,(eJ hl).2 h1⟩ hm
 | cV=>exact .cV
 | fp=>exact .fp
 | fn f caps vs hl hv ih =>
  cases hx with
  | fn _ _ h=>exact .fn f caps vs hl fun i x hx=>ih i x hx (h i x hx)
 | agg xs vs hl hv ih =>
  cases hx with
  | agg _ h=>exact .agg xs vs hl fun i x hx=>ih i x hx (h i x hx)
 | fa xs vs hl hv ih =>
  cases hx with
  | fa _ h=>exact .fa xs vs hl fun i x hx=>ih i x hx (h i x hx)
theorem AE{x:V}(h:x.mZ=true)(m:Nat):x.Lt m:=by
 cases x<;>simp[V.mZ]at h
 ·exact .b _
 ·exact .i _ _
 ·exact .s _
 ·rename_i xs;refine .agg _ fun i x hx=>?_;have:=h x (aL hx);cases x<;>simp[V.Hd]at this
  ·exact .b _
  ·exact .i _ _
  ·exact .s _
theorem map_lt{es:List (V×V)}{m:Nat}(h:∀ (j:Nat) (x:V),(es.map (·.2))[j]?=some x→x.Lt m){i:Nat}{k x:V}(hi:es[i]?=some (k,x)):x.Lt m :=
 h i x (by rw[aW,hi];rfl)
theorem zb{P:Program}{B:Nat}{w:World}{J:ae}{μ:Mem}{J':ae}{μ':Mem}{v:Value}{st:Bool}{m E n:Nat}{ps:List Nat}{c:Option Nat}(h:uL P B w J μ v (.iter st m E n ps c))(h1:J'[m]?=J[m]?)(h2:μ' m=μ m):uL P B w J' μ' v (.iter st m E n ps c):=by
 have hl:=sa.same (w:=w) (w':=w) h1 h2 fun _ _=>rfl;cases st
 ·obtain⟨r,bm,since,seen,q1,q2,q3,q5⟩:=h;exact⟨r,bm,since,seen,q1,q2,q3,q5.step hl⟩
 ·obtain⟨born,q1,q2⟩:=h;exact⟨born,q1,q2.step hl⟩
theorem Wk.drop{P:Program}{n m:Nat}{xs:List V}{J:ae}(QX:n≤m)(hm:m≤J.length)(hx:∀ (i:Nat) (x:V),xs[i]?=some x→x.Lt m)(bz:∀ (id:Nat) (o:Ob),id<m→J[id]?=some o→∀ (j:Nat) (x:V),o.refs[j]?=some x→x.Lt m):Wk P n xs J xs (J.take m):=by
 intro B w0 w μ vs hS hC
 have eJ:∀ {id:Nat} {o:Ob},(J.take m)[id]?=some o→id<m∧J[id]?=some o:=by
  intro id o h;rw[dp]at h;split at h
  ·exact⟨by assumption,h⟩
  ·simp at h
 refine⟨μ,⟨hS.below,hS.base,fun id o ho=>?_,fun i j oi oj b hi hj h1 h2 h3 h4=>hS.sep i j oi oj b (eJ hi).2 (eJ hj).2 h1 h2 h3 h4⟩,⟨hC.1,fun i x hx'=>(hC.2 i x hx').take hm (hx i x hx')⟩,fun x v hv hl=>hv.take hm (hl.mono QX)⟩;obtain⟨hid,ho'⟩:=eJ ho;have cK:=hS.obj id o ho';cases o with
 | dead=>trivial
 | box T cs =>
  obtain⟨b,us,h1,h2,h3,h4,h5⟩:=cK;exact⟨b,us,h1,h2,h3,h4,fun j x hj=>let ⟨u,h6,h7⟩:=h5 j x hj;⟨u,h6,h7.take hm (bz id _ hid ho' j x hj)⟩⟩
 | row E sz by' g sh rows =>
  obtain⟨h1,vals,h2,h3⟩:=cK;exact⟨h1,vals,h2,h3.1,fun i j x hj=>let ⟨h4,u,h5,h6⟩:=h3.2 i j x hj;⟨h4,u,h5,h6.take hm (kK h4 m)⟩⟩
 | map K E es =>
  obtain⟨r,ents,clock,h1,h2,h3,h4⟩:=cK;exact⟨r,ents,clock,h1,h2,h3,h4.1,fun i k x hi=>let ⟨h5,h6,e,h7,h8,h9⟩:=h4.2.1 i k x hi;⟨h5,h6,e,h7,h8.take hm (AE h5 m),h9.take hm (map_lt (bz id _ hid ho') hi)⟩,h4.2.2⟩
 | iter st m' E n ps c =>
  have cM:m'<m:=by
   have:=bz id _ hid ho' 0 (.mp m') rfl;cases this;assumption
  exact zb cK (aU cM) rfl
theorem Wk.xc{P:Program}{n:Nat}{xs:List V}{J loc:ae}(hn:n≤J.length)(bz:bG J)(hx:∀ (i:Nat) (x:V),xs[i]?=some x→x.Lt J.length):Wk P n xs (J++loc) xs J:=by
 have:=Wk.drop (P:=P) (n:=n) (m:=J.length) (xs:=xs) (J:=J++loc) hn (by simp) hx (fun id o hid h j x hj=>bz id o (by rwa [ag hid]at h) j x hj);simpa using this
inductive Rs where
 | t (n:Nat)
 | c (n:Nat) (k:Option Nat)
structure cy where
 nt:Nat
 rs:List Rs
 c:bE
def PN(P:Program):List ResultVar→Option (List Rs)
 | []=>some []
 | .tmp t::r=>(PN P r).map (.t t::·)
 | .cell t T::r=>match dO P T,P.info? T,PN P r with
  | some true,some ti,some rs=>some (.c t (some ti.size)::rs)
  | some false,some _,some rs=>some (.c t none::rs)
  | _,_,_=>none
def cA(P:Program)(fn:Func):Option cy :=
 match fn.body with
 | some code=>match dW P code,PN P fn.results.toList with
  | some c,some rs=>some ⟨fn.ntmps,rs,c⟩
  | _,_=>none
 | none=>none
def xZ(st:St):Rs→Option V
 | .t n=>some (st.fr.getD n .u)
 | .c n k=>match st.fr.getD n .u with
  | .ptr id off=>match st.J[id]? with
   | some (.box _ cs)=>match k with
    | none=>cs[off]?
    | some m=>if off+m≤cs.length then some (.agg ((cs.drop off).take m))else none
   | _=>none
  | _=>none
def kS(st:St):List Rs→Option (List V)
 | []=>some []
 | r::rs=>match xZ st r,kS st rs with
  | some x,some xs=>some (x::xs)
  | _,_=>none
def one:List V→V
 | [x]=>x
 | xs=>.fa xs
def sI(P:Program)(n:Nat)(rs:List Rs)(Q:V→ae→Prop)(e:Exit)(st:St):Prop :=
 (e=.normal∨e=.ret)∧∃ xs,kS st rs=some xs∧∃ r J',Wk P n [one xs] st.J [r] J'∧Q r J'
def D7(tmps:Array Value):ResultVar→Sem Value
 | .tmp t=>pure (tmps.getD t undef)
 | .cell a t=>do loadVar t (← asAddr (tmps.getD a undef))
theorem D6(fn:Func)(tmps:Array Value):results fn tmps=(do let vs ← fn.results.mapM (D7 tmps);pure (if h:vs.size=1 then vs[0]else .tuple vs)):=rfl
theorem tJ{P:Program}{B:Nat}{w0 w:World}{st:St}{μ:Mem}{a:Act}(hS:fe P B w0 w st.J μ)(hF:FR w st.J μ st.fr a):∀ (l:List ResultVar) (rs:List Rs) (xs:List V),PN P l=some rs→kS st rs=some xs →
  ∃ vs:List Value,(l.mapM (D7 a.tmps)).run P w=.ok vs w∧vs.length=xs.length∧∀ (i:Nat) (x:V),xs[i]?=some x→VR w st.J μ x (vs.getD i undef)
 | [],rs,xs,hc,hx=>by
  simp only[PN,aa]at hc;subst hc;simp only[kS,aa]at hx;subst hx;exact⟨[],by simp,rfl,by simp⟩
 | r::l,rs,xs,hc,hx=>by
  have key:∃ r' rs',rs=r'::rs'∧PN P l=some rs'∧∀ x,xZ st r'=some x→∃ v,(D7 a.tmps r).run P w=.ok v w∧VR w st.J μ x v:=by
   cases r with
   | tmp t =>
    simp only[PN,ah]at hc;obtain⟨rs',h1,rfl⟩:=hc;refine⟨.t t,rs',rfl,h1,fun x h=>⟨_,rfl,?_⟩⟩;simp only[xZ,aa]at h;subst h;exact hF.at t
   | cell t T =>
    simp only[PN]at hc
    have inner:∀ (g:Bool) (ti:TypeInfo),dO P T=some g→P.info? T=some ti→∀ x,xZ st (.c t (if g then some ti.size else none))=some x→∃ v,(do loadVar T (← asAddr (a.tmps.getD t undef)):Sem Value).run P w=.ok v w∧VR w st.J μ x v:=by
     intro g ti hg Pt x h;simp only[xZ]at h;split at h
     ·rename_i id off hp;have h1:=hp▸hF.at t;obtain⟨b,hm,hv,_⟩:=h1.mG;split at h
      ·rename_i T' cs hb;obtain⟨b',vs,hm',hB,hh,eI,kN⟩:=hS.GH hb;rw[hm]at hm';simp only[Value.pointer.injEq,aa,Addr.mk.injEq,kD]at hm';subst hm';have hl:=Cs (P:=P) (J:=st.J) (μ:=μ) (row:=cs) (k:=if g then some ti.size else none) (b:=b) (off:=off) Pt (CD hg) off (fun j z hz=>kN _ z hz)
       have he:(do loadVar T (← asAddr (a.tmps.getD t undef)):Sem Value).run P w=(Instr.loadAt T (.pointer (some ⟨b,off,none⟩))).run P w:=by
        rw[hv];rfl
       rw[he];cases g
       ·simp only[aG,aO]at h hl;exact hl.1 trivial x h
       ·simp only[aR]at h hl;split at h<;>simp only[aa,reduceCtorEq]at h;rename_i hle;subst h;exact hl.2 _ rfl hle
      ·simp at h
     ·simp at h
    split at hc<;>simp only[aa,reduceCtorEq]at hc
    ·rename_i ti rs' hg Pt h1;exact⟨_,rs',hc.symm,h1,fun x h=>inner true ti hg Pt x h⟩
    ·rename_i ti rs' hg Pt h1;exact⟨_,rs',hc.symm,h1,fun x h=>inner false ti hg Pt x h⟩
  obtain⟨r',rs',rfl,h1,h2⟩:=key;simp only[kS]at hx;split at hx<;>simp only[aa,reduceCtorEq]at hx;rename_i x ys Bm u3;subst hx;obtain⟨v,h3,h4⟩:=h2 x Bm;obtain⟨vs,h5,h6,h7⟩:=tJ hS hF l rs' ys h1 u3;refine⟨v::vs,?_,by simp[h6],fun i y hy=>?_⟩
  ·simp only[List.mapM_cons,Sem.run_bind,h3,Result.andThen_ok,h5,Sem.run_pure]
  ·cases i with
   | zero=>simp only[au,aa]at hy;subst hy;simpa using h4
   | succ i=>simpa using h7 i y (by simpa using hy)
theorem PC.intro{P:Program}{f:Nat}{fn:Func}{pf:cy}{args:List V}{J:ae}{Q:V→ae→Prop}(hf:P.funcs[f]?=some fn)(hc:cA P fn=some pf)
  (h:bG J→(∀ (i:Nat) (x:V),args[i]?=some x→x.Wf∧x.Lt J.length)→cE J.length P pf.c (sI P J.length pf.rs Q) ⟨args++List.replicate (pf.nt - args.length) .u,J⟩):PC P f args J Q:=by
 unfold cA at hc;split at hc
 ·rename_i code hb;split at hc<;>simp only[aa,reduceCtorEq]at hc;rename_i c rs wL Px;subst hc;intro B w0 w μ vs hS hv;refine calls_of_wp hf hb ?_
  have hF:FR w J μ (args++List.replicate (fn.ntmps - args.length) .u) { tmps:=vs++Array.replicate (fn.ntmps - vs.size) undef,defers:=[] }:=by
   refine⟨rfl,by simp[hv.1],fun i x hx=>?_⟩
   by_cases hi:i<args.length
   ·rw[ag hi]at hx;have h1:=hv.2 i x hx;have Bp:i<vs.size:=by rw[hv.1];exact hi
    have e:(vs++Array.replicate (fn.ntmps - vs.size) undef).getD i undef=vs.getD i undef:=by
     simp only[aZ,fv Bp]
    simp only[e];exact h1
   ·rw[aw (by omega)]at hx
    have:x=.u:=by
     have:=(ab.1 hx).2;simpa using this.symm
    subst this;exact .u _
  refine wp_mono (h hS.closed (fun i x hx=>⟨(hv.2 i x hx).wf,(hv.2 i x hx).lt⟩) code wL B w0 w μ _ hS hF) ?_;rintro e a' w' ⟨st',μ',hK,hS',hF',hk⟩;obtain⟨he,xs,sf,r,J',hw,hQ⟩:=hK;obtain⟨us,h1,h2,h3⟩:=tJ hS' hF' fn.results.toList rs xs Px sf
  have X0:∃ v,(results fn a'.tmps).run P w'=.ok v w'∧VR w' st'.J μ' (one xs) v:=by
   have hr:(results fn a'.tmps).run P w'=.ok (if h:us.toArray.size=1 then us.toArray[0]else .tuple us.toArray) w':=by
    rw[D6,Array.mapM_eq_mapM_toList];simp only[Sem.run_bind,Sem.run_map,h1,Result.andThen_ok,Sem.run_pure]
   refine⟨_,hr,?_⟩
   match xs,us,h2,h3 with
   | [x],[u],_,h3=>have:=h3 0 x rfl;exact this
   | [],[],_,_=>exact .fa [] #[] rfl (by simp)
   | x::y::xs,u::v::us,h2,h3 =>
    have gr:¬ ((u::v::us).toArray.size=1):=by simp
    rw[dif_neg gr]
    exact .fa _ _ (by simpa using h2.symm) fun i z hz=>by
     have:=h3 i z hz;simpa[ar]using this
  obtain⟨v,hr,hv'⟩:=X0
  obtain⟨μ2,h4,h5,h6⟩:=hw B w0 w' μ' #[v] hS' ⟨rfl,fun i x hx=>by
   cases i with
   | zero=>simp only[au,aa]at hx;subst hx;simpa using hv'
   | succ i=>simp at hx⟩
  have uF:∃ r v_1 J' μ',Ending.returned v=.returned v_1∧Q r J'∧fe P B w0 w' J' μ'∧VR w' J' μ' r v_1∧kZ w J μ w' J' μ' :=
   ⟨r,v,J',μ2,rfl,hQ,h4,by have:=h5.2 0 r rfl;simpa using this,fun x u hx=>h6 x u (hk x u hx hx.lt) hx.lt⟩
  rcases he with rfl | rfl
  ·exact⟨hF'.1,v,hr,uF⟩
  ·exact⟨hF'.1,v,hr,uF⟩
 ·simp at hc
end Go.Pm

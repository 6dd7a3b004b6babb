/- A part of a proof; the claim's last text says of what. -/
import Derived.Test.YtlakkaamfadipaaGreatDoorS12
set_option linter.all false

namespace Go.Pm
open Go Go.RowKit
def Df(o:Oper)(j:Nat):Oper:={ o with after:=o.after.push { on:=j,ground:=.data } }
def waitsFor(ops:Array Oper)(i j:Nat):Array Oper:=ops.mapIdx fun k o=>if k=i then Df o j else o
theorem gM(ops:Array Oper)(i j:Nat):(waitsFor ops i j).size=ops.size:=by simp[waitsFor]
theorem oQ(ops:Array Oper)(i j k:Nat):(waitsFor ops i j)[k]?=(ops[k]?).map fun o=>if k=i then Df o j else o:=by
 simp[waitsFor]
theorem gd{md:Region.Mode}{ops:Array Oper}{listed:Array Bool}{i j x:Nat}:x∈Region.ready md (waitsFor ops i j) listed↔x∈Region.ready md ops listed∧(x=i→listed.getD j false=true):=by
 simp only[Region.ready,cW,cC,gM,oQ];rw[and_assoc];refine and_congr_right fun hx=>?_;have ho:ops[x]?=some ops[x]:=bc hx;simp only[ho,bK,ft]
 by_cases Jf:x=i
 ·subst Jf;have hb:Region.binds md { on:=j,ground:=Ground.data }=true:=rfl;simp only[aL,Df,Array.all_push,hb,fG,im,aO,forall_const];constructor
  ·rintro⟨h1,h2,h3⟩;exact⟨⟨h1,h2⟩,h3⟩
  ·rintro⟨⟨h1,h2⟩,h3⟩;exact⟨h1,h2,h3⟩
 ·simp only[Jf,aK,vG,fq]
theorem An(ops:Array Oper)(i j:Nat)(tmps:Array Value):yielded (waitsFor ops i j) tmps=yielded ops tmps:=by
 funext k;simp only[yielded,oQ];cases ops[k]? with
 | none=>rfl
 | some o =>
  simp only[bK,gp]
  by_cases h:k=i<;>simp[h,Df]
section
variable {P:Program} {Q:Exit→Act→World→Prop}
theorem oP{ops:Array Oper}{i j x:Nat}{K:Act→World→Prop}{a:Act}{w:World}:wpOp P (waitsFor ops i j) Q x K a w↔wpOp P ops Q x K a w:=by
 simp only[wpOp,oQ,An];cases ops[x]? with
 | none=>exact DM
 | some o =>
  simp only[bK]
  by_cases h:x=i
  ·simp only[h,aL];exact DM
  ·simp only[h,aK]
def nk:Op→Bool
 | .move _ | .assign _ | .alloc _ | .box _ _ | .load _ _ | .store _ _ _ | .fieldAddr _ _ _=>true
 | _=>false
theorem GO{s:Sem Value}{w w':World}{n:Next}(h:(do pure (Next.value (← s)):Sem Next).run P w=.ok n w'):∃ v,n=.value v:=by
 rw[Sem.run_bind]at h;cases hs:s.run P w with
 | ok v w1 =>
  rw[hs]at h;simp only[Result.andThen_ok,Sem.run_pure,Result.ok.injEq]at h;exact⟨v,h.1.symm⟩
 | halt x w1=>rw[hs]at h;simp[Result.andThen]at h
theorem Kc{s:Sem Unit}{w w':World}{n:Next}(h:(do s;pure Next.skip:Sem Next).run P w=.ok n w'):n=.skip:=by
 rw[Sem.run_bind]at h;cases hs:s.run P w with
 | ok v w1 =>
  rw[hs]at h;simp only[Result.andThen_ok,Sem.run_pure,Result.ok.injEq]at h;exact h.1.symm
 | halt x w1=>rw[hs]at h;simp[Result.andThen]at h
theorem HP{o:Oper}{ρ:Operand→Value}{w w':World}{n:Next}(hp:nk o.op=true)(h:(execOp ρ o).run P w=.ok n w'):(∃ v,n=.value v)∨n=.skip:=by
 obtain⟨d,op,t,p,af,g⟩:=o;simp only at hp;cases op<;>simp only[nk,aF]at hp
 all_goals simp only[execOp]at h
 all_goals first
  | exact .inl (GO h)
  | exact .inr (Kc h)
  | (simp only[Sem.run_pure,Result.ok.injEq]at h;exact .inl ⟨_,h.1.symm⟩)
theorem TD{o:Oper}(hp:nk o.op=true){a:Act}{w:World}{K1 K2:Act→World→Prop}(h1:o.wp P a w K1 Q)(h2:o.wp P a w K2 Q):o.wp P a w (fun a w=>K1 a w∧K2 a w) Q:=by
 unfold Oper.wp at *;generalize hr:(execOp a.eval o).run P w=r at *;cases r with
 | ok n w' =>
  rcases HP hp hr with⟨v,rfl⟩ | rfl
  ·exact⟨h1,h2⟩
  ·exact⟨h1,h2⟩
 | halt x w'=>cases x<;>simp only[Oper.upon]at h1 h2 ⊢<;>exact h1
theorem Mx{ops:Array Oper}{x:Nat}(hp:∀ o,ops[x]?=some o→nk o.op=true){K1 K2:Act→World→Prop}{a:Act}{w:World}(h1:wpOp P ops Q x K1 a w)(h2:wpOp P ops Q x K2 a w):
  wpOp P ops Q x (fun a w=>K1 a w∧K2 a w) a w:=by
 unfold wpOp at *;cases ho:ops[x]? with
 | none=>simp only[ho]at h1 h2 ⊢;exact⟨h1,h2⟩
 | some o =>
  simp only[ho]at h1 h2 ⊢;split
  ·rename_i hw;simp only[hw,aL]at h1 h2;rcases h1 with h1 | h1
   ·rcases h2 with h2 | h2
    ·exact .inl (TD (hp o ho) h1 h2)
    ·exact .inr h2
   ·exact .inr h1
  ·rename_i hw;simp only[hw]at h1 h2;exact⟨h1,h2⟩
theorem py{md:Region.Mode}{ops:Array Oper}{i j:Nat}:∀ (fuel:Nat) (listed:Array Bool) (a:Act) (w:World),listed.getD j false=true→wpAny P md (waitsFor ops i j) Q fuel listed a w→wpAny P md ops Q fuel listed a w:=by
 intro fuel
 induction fuel with
 | zero =>
  intro listed a w hj h;refine⟨?_,h.2⟩;refine bP.2 fun x hx=>?_;exact bP.1 h.1 x (gd.2 ⟨hx,fun _=>hj⟩)
 | succ fuel ih =>
  intro listed a w hj h;refine⟨fun hn=>h.1 (bP.2 fun x hx=>bP.1 hn x (gd.1 hx).1),fun x hx=>?_⟩;have:=h.2 x (gd.2 ⟨hx,fun _=>hj⟩);rw[oP]at this;refine wpOp_mono (fun a w hk=>ih _ a w ?_ hk) this;simp only[bh]at hj ⊢
  by_cases VX:x=j
  ·subst VX
   by_cases hs:x<listed.size
   ·simp[qT,hs]
   ·rw[jX (by omega)]at hj;simp at hj
  ·rw[cn VX];exact hj
theorem DQ{md:Region.Mode}{ops:Array Oper}{i j:Nat}(Hw:i≠j)(hp:∀ x o,x≠i→x≠j→ops[x]?=some o→nk o.op=true):
  ∀ (fuel:Nat) (listed:Array Bool) (a:Act) (w:World),listed.size=ops.size→i<ops.size→j<ops.size→wpAny P md (waitsFor ops i j) Q fuel listed a w→wpAny P md (waitsFor ops j i) Q fuel listed a w→wpAny P md ops Q fuel listed a w:=by
 intro fuel
 induction fuel with
 | zero =>
  intro listed a w fw hi hj h1 h2;refine⟨?_,h1.2⟩;refine bP.2 fun x hx=>?_
  by_cases xa:x=i
  ·exact bP.1 h2.1 x (gd.2 ⟨hx,fun e=>absurd (xa.symm.trans e) Hw⟩)
  ·exact bP.1 h1.1 x (gd.2 ⟨hx,fun e=>absurd e xa⟩)
 | succ fuel ih =>
  intro listed a w fw hi hj h1 h2;refine⟨fun hn=>h1.1 (bP.2 fun x hx=>bP.1 hn x (gd.1 hx).1),fun x hx=>?_⟩
  by_cases xa:x=i
  ·have:=h2.2 x (gd.2 ⟨hx,fun e=>absurd (xa.symm.trans e) Hw⟩);rw[oP]at this;refine wpOp_mono (fun a w hk=>py fuel _ a w ?_ hk) this;subst xa;simp[bh,qT,fw,hi]
  ·by_cases Jg:x=j
   ·have:=h1.2 x (gd.2 ⟨hx,fun e=>absurd e xa⟩);rw[oP]at this;refine wpOp_mono (fun a w hk=>py fuel _ a w ?_ hk) this;subst Jg;simp[bh,qT,fw,hj]
   ·have k1:=h1.2 x (gd.2 ⟨hx,fun e=>absurd e xa⟩);have k2:=h2.2 x (gd.2 ⟨hx,fun e=>absurd e Jg⟩);rw[oP]at k1 k2;refine wpOp_mono (fun a w hk=>ih _ a w (by simp[fw]) hi hj hk.1 hk.2) (Mx (fun o ho=>hp x o xa Jg ho) k1 k2)
end
def sw(i j k:Nat):Nat:=if k=i then j else if k=j then i else k
theorem xZ(i j k:Nat):sw i j (sw i j k)=k:=by
 simp only[sw]
 (repeat' split)<;>omega
theorem A8{i j k n:Nat}(hi:i<n)(hj:j<n):sw i j k<n↔k<n:=by
 simp only[sw]
 (repeat' split)<;>omega
def Er(i j:Nat)(o:Oper):Oper:={ o with after:=o.after.map fun e=>{ e with on:=sw i j e.on },guard:=o.guard.map fun g=>(sw i j g.1,g.2) }
def nh(ops:Array Oper)(i j:Nat):Array Oper:=ops.mapIdx fun k o=>Er i j ((ops[sw i j k]?).getD o)
theorem x6(ops:Array Oper)(i j:Nat):(nh ops i j).size=ops.size:=by simp[nh]
theorem uG{ops:Array Oper}{i j:Nat}(hi:i<ops.size)(hj:j<ops.size)(k:Nat):(nh ops i j)[k]?=(ops[sw i j k]?).map (Er i j):=by
 simp only[nh,A0]
 by_cases hk:k<ops.size
 ·have nX:=(A8 (k:=k) hi hj).2 hk;simp[bc hk,bc nX]
 ·have nX:¬ sw i j k<ops.size:=fun h=>hk ((A8 hi hj).1 h);rw[jX (by omega),jX (by omega)];rfl
theorem Pp(md:Region.Mode)(e:Edge)(n:Nat):Region.binds md { e with on:=n }=Region.binds md e:=rfl
theorem ym{md:Region.Mode}{ops:Array Oper}{listed listed':Array Bool}{i j:Nat}(hi:i<ops.size)(hj:j<ops.size)(hL:∀ k d,listed'.getD k d=listed.getD (sw i j k) d){x:Nat}:
  x∈Region.ready md (nh ops i j) listed'↔sw i j x∈Region.ready md ops listed:=by
 simp only[Region.ready,cW,cC,x6,uG hi hj,A8 hi hj,hL];refine and_congr_right fun hx=>?_;have Jg:=(A8 (k:=x) hi hj).2 hx;simp only[bc Jg,bK,ft,Er,Array.all_map,Function.comp_def,Pp,hL,xZ]
theorem Gu{ops:Array Oper}{i j:Nat}(hi:i<ops.size)(hj:j<ops.size)(tmps:Array Value)(k:Nat):yielded (nh ops i j) tmps (sw i j k)=yielded ops tmps k:=by
 simp only[yielded,uG hi hj,xZ];cases ops[k]?<;>rfl
section
variable {P:Program} {Q:Exit→Act→World→Prop}
theorem P0{ops:Array Oper}{i j x:Nat}(hi:i<ops.size)(hj:j<ops.size){K:Act→World→Prop}{a:Act}{w:World}:wpOp P (nh ops i j) Q x K a w↔wpOp P ops Q (sw i j x) K a w:=by
 simp only[wpOp,uG hi hj];cases ops[sw i j x]? with
 | none=>exact DM
 | some o =>
  simp only[bK]
  have hw:Region.wanted (Er i j o) (yielded (nh ops i j) a.tmps)=Region.wanted o (yielded ops a.tmps):=by
   obtain⟨d,op,t,p,af,g⟩:=o;cases g with
   | none=>rfl
   | some g=>simp only[Region.wanted,Er,bK,Gu hi hj]
  rw[hw];exact DM
theorem My{md:Region.Mode}{ops:Array Oper}{i j:Nat}(hi:i<ops.size)(hj:j<ops.size):∀ (fuel:Nat) (listed listed':Array Bool) (a:Act) (w:World),listed.size=ops.size→listed'.size=ops.size→(∀ k d,listed'.getD k d=listed.getD (sw i j k) d) →
  wpAny P md (nh ops i j) Q fuel listed' a w→wpAny P md ops Q fuel listed a w:=by
 intro fuel
 induction fuel with
 | zero =>
  intro listed listed' a w hs hs' hL h;refine⟨?_,h.2⟩;refine bP.2 fun x hx=>?_;exact bP.1 h.1 (sw i j x) ((ym hi hj hL).2 (by rw[xZ];exact hx))
 | succ fuel ih =>
  intro listed listed' a w hs hs' hL h;refine⟨fun hn=>h.1 (bP.2 fun x hx=>bP.1 hn _ ((ym hi hj hL).1 hx)),fun x hx=>?_⟩;have:=h.2 (sw i j x) ((ym hi hj hL).2 (by rw[xZ];exact hx));rw[P0 hi hj,xZ]at this
  have pK:x<ops.size:=by
   simp only[Region.ready,cW,cC]at hx;exact hx.1
  refine wpOp_mono (fun a w hk=>ih _ _ a w (by simp[hs]) (by simp[hs']) (fun k d=>?_) hk) this;have h1:=hL k d;simp only[bh]at h1 ⊢;have Jg:=(A8 (k:=x) hi hj).2 pK
  by_cases hk:sw i j x=k
  ·subst hk;rw[xZ,B2 (by omega),B2 (by omega)]
  ·have nX:x≠sw i j k:=fun e=>hk (by rw[e,xZ]);rw[cn hk,cn nX];exact h1
theorem Cg{ops:Array Oper}{id i j:Nat}{a:Act}{w:World}(hm:P.follows .mixedOrders=true)(Hw:i≠j)(hi:i<ops.size)(hj:j<ops.size)(hp:∀ x o,x≠i→x≠j→ops[x]?=some o→nk o.op=true)
  (h1:wpAny P .any (waitsFor ops j i) Q ops.size (Array.replicate ops.size false) a { w with drawn:=w.drawn+1 })
  (h2:wpAny P .any (nh (waitsFor ops i j) i j) Q ops.size (Array.replicate ops.size false) a { w with drawn:=w.drawn+1 }):(Code.region id ops true).wp P Q a w:=by
 refine wp_region_any hm (DQ Hw hp _ _ _ _ (by simp) hi hj ?_ h1);refine My (by rw[gM];exact hi) (by rw[gM];exact hj) _ _ _ _ _ (by simp[gM]) (by simp[gM]) (fun k d=>?_) h2;simp only[bh,vI,A8 hi hj]
end
def Le(J J':ae):Prop:=∀ (id:Nat) (o:Ob),J[id]?=some o→o=Ob.dead∨J'[id]?=some o
section
variable {J J':ae} (h:Le J J')
include h
theorem Le.box{id T:Nat}{cs:List V}(e:J[id]?=some (.box T cs)):J'[id]?=some (.box T cs):=(h id _ e).resolve_left (by simp)
theorem Le.row{id E sz by' g:Nat}{sh:Bool}{xs:List (List V)}(e:J[id]?=some (.row E sz by' g sh xs)):J'[id]?=some (.row E sz by' g sh xs):=(h id _ e).resolve_left (by simp)
theorem Le.map{id K E:Nat}{es:List (V×V)}(e:J[id]?=some (.map K E es)):J'[id]?=some (.map K E es):=(h id _ e).resolve_left (by simp)
theorem BT{x:V}(hx:eX J x=true):eX J' x=true:=by
 unfold eX at hx ⊢
 repeat' split at hx
 all_goals first | (simp at hx;done) | skip
 all_goals first | (rename_i e;simp only[h.row e];exact hx) | rfl
theorem yG{x:V}(hx:eZ J x=true):eZ J' x=true:=by
 unfold eZ at hx ⊢;split at hx
 ·rw[cK]at hx ⊢;exact fun y hy=>BT h (hx y hy)
 ·exact BT h hx
theorem Kh{sz:Nat}{x:V}{r:List (List V)}(hx:rowsOf J sz x=some r):rowsOf J' sz x=some r:=by
 unfold rowsOf at hx ⊢;split at hx<;>(try exact hx)<;>split at hx<;>(try (simp at hx;done))
 all_goals (rename_i e;simp only[h.row e];exact hx)
theorem Hg{kd:Nat}{m k:V}{r:Option (Nat×V)}(hx:cN J kd m k=some r):cN J' kd m k=some r:=by
 unfold cN at hx ⊢;split at hx<;>(try exact hx);split at hx<;>(try (simp at hx;done));rename_i e;simp only[h.map e];exact hx
theorem Nf{fr:List V}{i:I}{ob:Prop}{r:V}(he:aM fr J i=some (ob,r))(cY:ob):∃ ob',aM fr J' i=some (ob',r)∧ob':=by
 cases i
 case build zs parts =>
  simp only[aM]at he ⊢;split at he<;>simp only[aa,ao,reduceCtorEq]at he;obtain⟨rfl,rfl⟩:=he;rename_i e;exact⟨_,by simp only[e],fun p hp=>yG h (cY p hp)⟩
 case bC sz szs xs =>
  simp only[aM,aa,ao]at he ⊢;obtain⟨rfl,rfl⟩:=he;exact⟨_,⟨rfl,rfl⟩,fun x hx=>yG h (cY.1 x hx),cY.2⟩
 case load k a =>
  simp only[aM]at he ⊢;split at he
  ·split at he<;>(try (simp at he;done));rename_i e;simp only[h.box e];exact⟨ob,he,cY⟩
  ·exact⟨ob,he,cY⟩
  ·split at he<;>(try (simp at he;done));rename_i e;simp only[h.row e];exact⟨ob,he,cY⟩
  ·simp at he
 case dn x =>
  simp only[aM]at he ⊢;split at he<;>(try exact⟨ob,he,cY⟩);split at he<;>(try (simp at he;done));rename_i e;simp only[h.row e];exact⟨ob,he,cY⟩
 case eR off x =>
  simp only[aM]at he ⊢;split at he<;>(try exact⟨ob,he,cY⟩);split at he<;>(try (simp at he;done));rename_i e;simp only[h.row e];exact⟨ob,he,cY⟩
 case JG x =>
  simp only[aM]at he ⊢;split at he<;>(try (simp at he;done));rename_i e;simp only[Kh h e];exact⟨ob,he,cY⟩
 case look kd z ok m k =>
  simp only[aM]at he ⊢;split at he<;>(try (simp at he;done))
  all_goals (rename_i e;simp only[Hg h e];exact⟨ob,he,cY⟩)
 case yL x =>
  simp only[aM]at he ⊢;split at he<;>(try exact⟨ob,he,cY⟩);split at he<;>(try (simp at he;done));rename_i e;simp only[h.map e];exact⟨ob,he,cY⟩
 case LL x =>
  simp only[aM]at he ⊢;split at he<;>(try (simp at he;done));split at he<;>(try (simp at he;done));rename_i e1;split at he<;>(try (simp at he;done));rename_i e2;simp only[(h _ _ e1).resolve_left (by simp),h.map e2];exact⟨ob,he,cY⟩
 case len str x =>
  cases str
  ·simp only[aM]at he ⊢;split at he<;>(try exact⟨ob,he,cY⟩)
   all_goals
    split at he<;>(try (simp at he;done));rename_i e;simp only[h.row e];exact⟨ob,he,cY⟩
  ·exact⟨ob,he,cY⟩
 case idx sz x i =>
  simp only[aM]at he ⊢;split at he<;>(try (simp at he;done));split at he<;>(try exact⟨ob,he,cY⟩)
  all_goals
   split at he<;>(try (simp at he;done));rename_i e;simp only[h.row e];exact⟨ob,he,cY⟩
 case slice sz x lo hi =>
  by_cases hx:∃ id g,ev fr x=.own id g
  ·obtain⟨id,g,hx⟩:=hx;simp only[aM,hx]at he ⊢;cases hs:J[id]? with
   | none=>simp[hs]at he
   | some o =>
    rcases h id o hs with rfl | h2
    ·simp[hs]at he
    ·rw[hs]at he;rw[h2];exact⟨ob,he,cY⟩
  ·have e:aM fr J' (.slice sz x lo hi)=aM fr J (.slice sz x lo hi):=by
    simp only[aM];cases hv:ev fr x<;>first | rfl | (exact absurd ⟨_,_,hv⟩ hx)
   rw[e];exact⟨ob,he,cY⟩
 all_goals exact⟨ob,he,cY⟩
end
theorem Fact.le{J J':ae}{p:Pi}{fr:List V}(hf:Fact p fr J)(h:Le J J'):Fact p fr J':=by
 obtain⟨c,h1,r,h2,h3⟩:=hf;exact⟨c,h1,r,h2,fun hc=>by obtain⟨ob,h4,h5⟩:=h3 hc;exact Nf h h4 h5⟩
theorem O0{P:Program}{B:Nat}{w0 w:World}{J:ae}{μ:Mem}(hS:fx P B w0 w J μ){id:Nat}(hid:J[id]?=some .dead)(T:Nat)(cs:List V)(vs:Array Value)(h:CR w J μ cs vs):
  ∃ μ',fx P B w0 (w.alloc (.cells vs T)) (J.set id (.box T cs)) μ'∧VR (w.alloc (.cells vs T)) (J.set id (.box T cs)) μ' (.ptr id 0) (.pointer (some ⟨w.heap.size,0,none⟩))∧lf w J μ (w.alloc (.cells vs T)) (J.set id (.box T cs)) μ':=by
 have hl:id<J.length:=(ab.1 hid).1;have mF:(J.set id (.box T cs))[id]?=some (.box T cs):=ar hl
 have hn:=hS.update (w':=w.alloc (.cells vs T)) (J':=J.set id (.box T cs)) (μ':=pT μ id (.pointer (some ⟨w.heap.size,0,none⟩))) id none (World.grownBy_alloc w _ none) (by simp) (by simp)
  (fun j hj=>aJ (Tq hj)) (fun j hj=>mg μ _ _ j hj) (fun b hb=>by rw[dU]at hb;simp only[ic,aa]at hb;exact .inr (by omega))
  (fun b off v o ho gv=>by rw[hid]at ho;simp only[aa]at ho;exact absurd ho.symm gv)
  (fun T' cs' ho=>by rw[hid]at ho;simp at ho) (fun K E es ho=>by rw[hid]at ho;simp at ho)
  (fun E sz by' g' sh xs _ ho=>by rw[mF]at ho;simp at ho)
  (fun hp o ho=>by
   rw[mF]at ho;simp only[aa]at ho;subst ho;rw[dU];refine⟨w.heap.size,vs,rfl,hS.base,heap_alloc_new w _,h.1.symm,fun j x hx=>?_⟩;have hj:j<vs.size:=by rw[← h.1];exact(ab.1 hx).1
   exact⟨vs[j],bc hj,by have:=(h.2 j x hx).mono hp;simpa[hj]using this⟩)
 exact⟨_,hn.1,.ptr _ 0 _ ⟨T,cs,mF⟩ (dU _ _ _),hn.2⟩
theorem H3{P:Program}{ops:Array Oper}{o:Oper}{p:Pi}{d T:Nat}{zs:List V}(hc:VI P ops o=some p)(hp:p=⟨some d,[],.alloc T zs⟩){inf:Nat→Option (List (Nat×Bool))}{B:Nat}{w0 w:World}{fr:List V}{J:ae}{μ:Mem}{a:Act}
  (hS:fx P B w0 w J μ) (hF:AW w J μ fr inf a) (gW:Gh inf p) {id:Nat} (hid:J[id]?=some .dead) {R:Act→World→Prop} {Q:Exit→Act→World→Prop}
  (hR:∀ μ' a' w',fx P B w0 w' (J.set id (.box T zs)) μ'→AW w' (J.set id (.box T zs)) μ' (di fr (some d) (.ptr id 0)) (pS inf p) a'→lJ w J μ w' (J.set id (.box T zs)) μ'→R a' w') :
  if Region.wanted o (yielded ops a.tmps)then o.wp P a w R Q∨(o.asks P a w∧LetsOut Q)else R (a.put o.dst undef) w:=by
 unfold VI at hc;split at hc<;>simp only[aa,reduceCtorEq]at hc;rename_i g hg;rw[hp]at hc;simp only[Pi.mk.injEq]at hc;obtain⟨hd,rfl,hi⟩:=hc
 have hw:Region.wanted o (yielded ops a.tmps)=true:=by
  cases PK:o.guard with
  | none=>simp[Region.wanted,PK]
  | some jb =>
   obtain⟨j,b⟩:=jb;rw[PK]at hg;simp only[uh]at hg;split at hg<;>(try simp only[reduceCtorEq]at hg);split at hg<;>simp at hg
 rw[bf hw];refine .inl ?_
 have kJ:compile P o=some (.alloc T zs):=by
  cases Mn:compile P o with
  | none=>rw[Mn]at hi;simp at hi
  | some j=>rw[Mn]at hi;simp only[ft]at hi;rw[hi]
 have dG:∃ t z,o.op=.alloc T∧P.info? T=some t∧t.zero=some z∧gH z.cells.toList=some zs:=by
  cases ho:o.op
  case alloc T' =>
   simp only[compile,ho]at kJ;split at kJ<;>(try simp only[reduceCtorEq]at kJ);rename_i t ht;split at kJ<;>(try simp only[reduceCtorEq]at kJ);rename_i z hz;simp only[aj,I.alloc.injEq]at kJ;obtain⟨zs',lU,rfl,rfl⟩:=kJ;exact⟨t,z,rfl,ht,hz,lU⟩
  case call c =>
   exfalso;simp only[compile,ho,jg]at kJ;revert kJ;(repeat' split)<;>simp
  case makeFunc fn first caps =>
   exfalso;cases fn<;>simp only[compile,ho,reduceCtorEq]at kJ;revert kJ;split<;>simp
  case next x q =>
   exfalso;cases q<;>simp[compile,ho]at kJ
  case makeMap T' n =>
   exfalso;cases n<;>simp only[compile,ho,reduceCtorEq]at kJ;revert kJ;split<;>simp
  case slice T' x lo hi mx =>
   exfalso;cases mx<;>cases lo<;>cases hi<;>simp only[compile,ho,reduceCtorEq]at kJ<;>(revert kJ;(repeat' split)<;>simp)
  all_goals
   exfalso;simp only[compile,ho]at kJ;revert kJ
   (try (repeat' split))<;>simp
   all_goals (intro x _;split<;>simp)
 obtain⟨t,z,ho,ht,hz,lU⟩:=dG
 have cT:(execOp a.eval o).run P w=.ok (.value (.pointer (some ⟨w.heap.size,0,none⟩))) (w.alloc (.cells z.cells T)):=by
  simp[execOp,ho,Instr.alloc,zeroValue,typeInfo,ht,hz,newVar,newRow]
 obtain⟨μ',h1,h2,h3⟩:=O0 hS hid T _ _ (jU (w:=w) (J:=J) (μ:=μ) lU);unfold Oper.wp;rw[cT];simp only[Oper.upon];rw[hp]at gW;have hd':o.dst=some d:=hd;rw[hd'];have:=hF.pT (v:=.pointer (some ⟨w.heap.size,0,none⟩)) (r:=.ptr id 0) gW h3.eH (fun _ _ _ _=>h2) (fun h=>by simp[chainB]at h);rw[hp]at hR;exact hR μ' _ _ h1 this h3.eH
def H4:List Ob→(List Ob→Prop)→Prop
 | [],p=>p []
 | _::b,p=>∀ X,H4 b fun Xs=>p (X::Xs)
def gY(b:List Ob):List Ob:=b.map fun _=>.dead
theorem JH:∀ {b:List Ob} {p:List Ob→Prop},H4 b p→∀ Xs,Xs.length=b.length→p Xs
 | [],p,h,Xs,hl=>by simp only[aC,xp]at hl;subst hl;exact h
 | _::b,p,h,Xs,hl=>by
  cases Xs with
  | nil=>simp at hl
  | cons X Xs=>exact JH (h X) Xs (by simpa using hl)
def grown(τ:ae)(Xs:List Ob)(s:ae)(K:ae→ae→Prop):Prop:=∃ τ' ε,τ'.length=τ.length∧s=τ'++(Xs++ε)∧K τ' ε
def uK(P:Program)(bx:List Ob):List (List Pi×Pi×List Pi)→List (List Pi×Pi×List Pi)→List Pi→(St→Prop)→List V→ae→ae→Prop
 | [],[],last,K,fr,τ,ε=>iW P [] last (fun st=>K ⟨st.fr,τ++(bx++ε)⟩) ⟨fr,τ++(gY bx++ε)⟩
 | [],(DH,L,chk)::ds,last,K,fr,τ,ε=>iW P [] DH (fun st1=>gI P L (fun st2=>(∀ p∈chk,zK p st2)∧pH P ds last K st2) ⟨st1.fr,τ++(bx++ε)⟩) ⟨fr,τ++(gY bx++ε)⟩
 | (DH,L,chk)::ds1,ds2,last,K,fr,τ,ε=>iW P [] DH (fun st1=>H4 bx fun Xs=>gI P L (fun st2=>(∀ p∈chk,zK p st2)∧grown τ Xs st2.J (uK P bx ds1 ds2 last K st2.fr)) ⟨st1.fr,τ++(Xs++ε)⟩) ⟨fr,τ++(gY bx++ε)⟩
def F6(p:Pi):Ob:=match p.i with
 | .alloc T zs=>.box T zs
 | _=>.dead
def F3(pis:List Pi)(fl:List Nat):List Ob:=fl.map fun f=>F6 (dQ pis f)
def rU(pis:List Pi)(fl:List Nat)(listed:Array Bool):List Ob:=fl.map fun f=>bif listed.getD f false then F6 (dQ pis f)else .dead
structure ZD (pis:List Pi) (bs:List Nat) (m:Nat) (ls fl:List Nat) (k1:Nat):Prop where
 DK:∀ f∈fl,f<m∧f ∉ ls∧∃ d T zs,dQ pis f=⟨some d,[],.alloc T zs⟩
 nd:fl.Nodup
 kl:k1≤ls.length
 late:∀ (k L f:Nat),k1≤k→ls[k]?=some L→f∈fl→tb bs L f=true
section
variable {P:Program} {ops:Array Oper} {pis:List Pi} {bs:List Nat} {m:Nat} {ls fl:List Nat} {k1:Nat}
theorem Qo{listed:Array Bool}(h:∀ f∈fl,iM listed f):rU pis fl listed=F3 pis fl:=by
 refine cS fun f hf=>?_;have:listed.getD f false=true:=h f hf;rw[this];rfl
theorem Le.mid{τ a b ε:ae}(h:Le a b)(hl:a.length=b.length):Le (τ++(a++ε)) (τ++(b++ε)):=by
 intro id o ho
 by_cases h1:id<τ.length
 ·rw[ah h1]at ho ⊢;exact .inr ho
 ·rw[aA (by omega)]at ho ⊢
  by_cases h2:id - τ.length<a.length
  ·rw[ah h2]at ho;rw[ah (by omega)];exact h _ _ ho
  ·rw[aA (by omega)]at ho;rw[aA (by omega),← hl];exact .inr ho
theorem NL(τ ε:ae)(listed:Array Bool):Le (τ++(gY (F3 pis fl)++ε)) (τ++(rU pis fl listed++ε)):=by
 refine Le.mid (fun id o ho=>?_) (by simp[gY,F3,rU]);simp only[gY,F3,ig,a8,aj]at ho;obtain⟨_,_,rfl⟩:=ho;exact .inl rfl
theorem IX(hF:ZD pis bs m ls fl k1){listed:Array Bool}{i:Nat}(hi:i<listed.size)(S8:i ∉ fl):rU pis fl (listed.setIfInBounds i true)=rU pis fl listed:=by
 refine cS fun f hf=>?_;have h2:=dY (listed:=listed) (j:=f) hi;have gv:f≠i:=fun e=>S8 (e▸hf);simp only[gv,sV,iM]at h2;have:(listed.setIfInBounds i true).getD f false=listed.getD f false:=by cases h3:listed.getD f false<;>simp_all
 rw[this]
theorem Qn(hF:ZD pis bs m ls fl k1){listed:Array Bool}{j f:Nat}(hi:f<listed.size)(hj:fl[j]?=some f):rU pis fl (listed.setIfInBounds f true)=(rU pis fl listed).set j (F6 (dQ pis f)):=by
 refine gK fun x=>?_;have kI:j<fl.length:=(ab.1 hj).1
 by_cases hx:j=x
 ·subst hx;rw[ar (by simpa[rU]using kI)];have:(listed.setIfInBounds f true).getD f false=true:=(dY hi).2 (.inl rfl);simp only[rU,a8,hj,bK,this,cond_true]
 ·rw[aJ hx];simp only[rU,a8];cases hy:fl[x]? with
  | none=>rfl
  | some y =>
   have gv:y≠f:=by
    rintro rfl;exact hx ((List.getElem?_inj kI hF.nd).1 (hj.trans hy.symm))
   have h2:=dY (listed:=listed) (j:=y) hi;simp only[gv,sV,iM]at h2;have:(listed.setIfInBounds f true).getD y false=listed.getD y false:=by cases h3:listed.getD y false<;>simp_all
   simp only[bK,this]
def wQ(P:Program)(pis:List Pi)(bs:List Nat)(m:Nat)(ls fl:List Nat)(k1:Nat)(Kt:St→Prop)(k:Nat)(fr:List V)(τ ε:ae):Prop :=
 match (ls.take k1)[k]? with
 | some L=>H4 (F3 pis fl) fun Xs=>gI P (dQ pis L) (fun st2=>(∀ p∈(Pc pis bs m ls k L).map (dQ pis),zK p st2)∧grown τ Xs st2.J
   (uK P (F3 pis fl) (Ad pis bs m ls (k+1) ((ls.take k1).drop (k+1))) (Ad pis bs m ls k1 (ls.drop k1)) ((ly pis bs m ls ls.length).map (dQ pis)) Kt st2.fr)) ⟨fr,τ++(Xs++ε)⟩
 | none=>sk P pis bs m ls Kt k fr (τ++(F3 pis fl++ε))
theorem xO.SI(hX:xO ops pis bs m ls fl)(hF:ZD pis bs m ls fl k1){Kt:St→Prop}{k:Nat}(hk:k≤k1){fr:List V}{τ ε:ae}
  (h:uK P (F3 pis fl) (Ad pis bs m ls k ((ls.take k1).drop k)) (Ad pis bs m ls k1 (ls.drop k1)) ((ly pis bs m ls ls.length).map (dQ pis)) Kt fr τ ε) :
  ∃ fr',wQ P pis bs m ls fl k1 Kt k fr' τ ε∧(∀ i∈ly pis bs m ls k,Fact (dQ pis i) fr' (τ++(gY (F3 pis fl)++ε)))∧(∀ t,(∀ i∈ly pis bs m ls k,(dQ pis i).d≠some t)→fr'[t]?=fr[t]?)∧fr'.length=fr.length:=by
 have Ji:(ly pis bs m ls k).Pairwise (fun i j=>∀ t,(dQ pis j).d=some t→t ∉ looks (dQ pis i)∧(dQ pis i).d≠some t):=by
  refine ZK ?_ (List.Pairwise.filter _ adY);intro i j hi hj dc t hd
  replace hi:=(dp (k:=k)).1 hi
  replace hj:=(dp (k:=k)).1 hj
  refine⟨fun ht=>?_,fun hd'=>?_⟩
  ·have:=hX.lt hi.1 hj.1 (hX.ox hi.1 hj.1 hd ht);omega
  ·have:=hX.dst i j t hi.1 hj.1 hd' hd;omega
 have tR:∀ i∈ly pis bs m ls k,∀ t,(dQ pis i).d=some t→t ∉ looks (dQ pis i):=fun i hi t hd ht=>by
  rw[dp]at hi;have:=hX.lt hi.1 hi.1 (hX.ox hi.1 hi.1 hd ht);omega
 have Lk:∀ i∈ly pis bs m ls k,(dQ pis i).i.cF=true:=fun i hi=>(dp.1 hi).2.1;have uy:=hF.kl;have hlen:(ls.take k1).length=k1:=by rw[cz];omega
 by_cases rZ:k<k1
 ·have e:(ls.take k1).drop k=(ls.take k1)[k]::(ls.take k1).drop (k+1):=db (by omega);rw[e]at h;simp only[Ad,uK]at h;obtain⟨fr',h1,h2,h3,h4⟩:=uJ _ _ h Lk Ji tR;refine⟨fr',?_,h2,h3,h4⟩;simp only[wQ,ak (show k<(ls.take k1).length by omega)];exact h1
 ·have hk':k=k1:=by omega
  subst hk';rw[List.drop_of_length_le (by omega)]at h;have en:(ls.take k)[k]?=none:=bl (by omega)
  by_cases hl:k<ls.length
  ·have e:ls.drop k=ls[k]::ls.drop (k+1):=db hl;rw[e]at h;simp only[Ad,uK]at h;obtain⟨fr',h1,h2,h3,h4⟩:=uJ _ _ h Lk Ji tR;refine⟨fr',?_,h2,h3,h4⟩;simp only[wQ,en,sk,ak hl];exact h1
  ·have nX:k=ls.length:=by omega
   subst nX;rw[lL]at h;simp only[Ad,uK]at h;obtain⟨fr',h1,h2,h3,h4⟩:=uJ _ _ h Lk Ji tR;refine⟨fr',?_,h2,h3,h4⟩;have e:ls[ls.length]?=none:=bl (aq _);simp only[wQ,en,sk,e];exact h1
theorem AD(hX:xO ops pis bs m ls fl)(uz:ZD pis bs m ls fl k1)(hp:pk P ops ops.toList=some pis){n B n0:Nat}{gs:List Nat}{w0 ws:World}{σs:ae}{μs:Mem}{K:St→Prop}{Q:Exit→Act→World→Prop}
  (hQ:∀ st w μ a,K st→fx P B w0 w st.J μ→FR w st.J μ st.fr a→eD n ws σs μs w st.J μ→Q .normal a w) (ht:DI (D0 pis m) (pis.drop m) gs=true) :
  ∀ (fuel k:Nat) (listed:Array Bool) (fr:List V) (τ ε:ae) (w:World) (μ:Mem) (a:Act),listed.size=ops.size →
   (∀ i j,i<pis.length→j<pis.length→iM listed i→tb bs i j=true→iM listed j)→(∀ i,m≤i→i<pis.length→¬ iM listed i)→k≤k1 →
   (∀ j L,ls[j]?=some L→(iM listed L↔j<k))→(∀ i,i<m→(dQ pis i).i.cF=true→Bg bs ls i≤k→¬ iM listed i→Fact (dQ pis i) fr (τ++(rU pis fl listed++ε))) →
   τ.length=n0→(∀ j f d,fl[j]?=some f→(dQ pis f).d=some d→di fr (some d) (.ptr (n0+j) 0)=fr) →
   wQ P pis bs m ls fl k1 (iW P gs (pis.drop m) K) k fr τ ε→B4 pis.length listed≤fuel →
   fx P B w0 w (τ++(rU pis fl listed++ε)) μ→AW w (τ++(rU pis fl listed++ε)) μ fr (lV pis m listed) a→eD n ws σs μs w (τ++(rU pis fl listed++ε)) μ→wpAny P .any ops Q fuel listed a w:=by
 have hn:pis.length=ops.size:=by rw[(l9 hp).1,a6]
 have hm:=hX.mn;have uy:=uz.kl;have hlen:(ls.take k1).length=k1:=by rw[cz];omega
 have done:∀ (fuel k:Nat) (listed:Array Bool) (fr:List V) (τ ε:ae) (w:World) (μ:Mem) (a:Act),listed.size=ops.size →
   (∀ i j,i<pis.length→j<pis.length→iM listed i→tb bs i j=true→iM listed j)→(∀ i,m≤i→i<pis.length→¬ iM listed i)→k=k1→(∀ f∈fl,iM listed f) →
   (∀ j L,ls[j]?=some L→(iM listed L↔j<k))→(∀ i,i<m→(dQ pis i).i.cF=true→Bg bs ls i≤k→¬ iM listed i→Fact (dQ pis i) fr (τ++(rU pis fl listed++ε))) →
   wQ P pis bs m ls fl k1 (iW P gs (pis.drop m) K) k fr τ ε→B4 pis.length listed≤fuel →
   fx P B w0 w (τ++(rU pis fl listed++ε)) μ→AW w (τ++(rU pis fl listed++ε)) μ fr (lV pis m listed) a→eD n ws σs μs w (τ++(rU pis fl listed++ε)) μ→wpAny P .any ops Q fuel listed a w:=by
  intro fuel k listed fr τ ε w μ a fw hc wx hk rq oM BJ yX hu hS hF Dg;subst hk;have en:(ls.take k)[k]?=none:=bl (by omega);simp only[wQ,en]at yX;rw[Qo rq]at BJ hS hF Dg;exact tz hX hp hQ ht fuel k listed fr _ w μ a fw rq hc wx uy oM BJ yX hu hS hF Dg
 intro fuel
 induction fuel with
 | zero =>
  intro k listed fr τ ε w μ a fw hc wx hk oM BJ Oc On yX hu hS hF Dg;have N9:∀ i,i<pis.length→iM listed i:=fun i hi=>bB fun h=>by have:=Ik hi h;omega
  have lF:∀ i,i<m→iM listed i:=fun i hi=>N9 i (by omega)
  have uy:k=k1:=by
   refine bB fun gv=>?_;have dc:k<ls.length:=by omega
   have:=(oM k ls[k] (ak dc)).1 (lF _ (hX.PB _ (cA dc)).1);omega
  exact done 0 k listed fr τ ε w μ a fw hc wx uy (fun f hf=>lF f (uz.DK f hf).1) oM BJ yX hu hS hF Dg
 | succ fuel ih =>
  intro k listed fr τ ε w μ a fw hc wx hk oM BJ Oc On yX hu hS hF Dg
  by_cases Jo:k=k1∧∀ f∈fl,iM listed f
  ·exact done _ k listed fr τ ε w μ a fw hc wx Jo.1 Jo.2 oM BJ yX hu hS hF Dg
  have S3:¬ ∀ i,i<m→iM listed i:=by
   intro lF;refine Jo ⟨?_,fun f hf=>lF f (uz.DK f hf).1⟩;refine bB fun gv=>?_;have dc:k<ls.length:=by omega
   have:=(oM k ls[k] (ak dc)).1 (lF _ (hX.PB _ (cA dc)).1);omega
  refine⟨fun h=>absurd (fun i hi=>hX.first fw h i (by omega)) S3,fun i hi=>?_⟩;obtain⟨hio,Li,o,ho,_⟩:=qe fw hi;have sI:i<pis.length:=by omega
  have BL:∀ j,j<pis.length→tb bs i j=true→iM listed j:=fun j hj ht=>hX.ready hn fw hc hi hj ht
  have AL:i<m:=by
   refine bB fun h=>S3 fun j hj=>?_;exact BL j (by omega) (hX.tail i j (by omega) sI (by omega))
  obtain⟨p,hpi,Mn⟩:=(l9 hp).2 i o (by simpa using ho);have mZ:dQ pis i=p:=by simp[dQ,an,hpi]
  have gW:Gh (lV pis m listed) p:=mZ▸hX.Yg hc AL Li BL
  have hclos':∀ x j,x<pis.length→j<pis.length→iM (listed.setIfInBounds i true) x→tb bs x j=true→iM (listed.setIfInBounds i true) j:=by
   intro x j hx hj hl ht;rw[dY (by omega)]at hl ⊢;rcases hl with rfl | hl
   ·exact .inr (BL j hj ht)
   ·exact .inr (hc x j hx hj hl ht)
  have htl':∀ x,m≤x→x<pis.length→¬ iM (listed.setIfInBounds i true) x:=by
   intro x hx hxn hl;rw[dY (by omega)]at hl;rcases hl with rfl | hl
   ·omega
   ·exact wx x hx hxn hl
  have hu':B4 pis.length (listed.setIfInBounds i true)≤fuel:=by
   have:=Ij sI (by omega:i<listed.size) Li;omega
  have UD:∀ x,x<m→(dQ pis x).i.cF=true→(∀ j,j<pis.length→tb bs x j=true→iM listed j)→Bg bs ls x≤k:=by
   intro x hx hs hal';refine bB fun dc=>?_;have h1:Bg bs ls x≤ls.length:=eU _ _;have h2:k<ls.length:=by omega
   have h3:=(hX.DH x k ls[k] hx hs (ak h2)).2 (by omega);have h4:=hal' ls[k] (by have:=(hX.PB _ (cA h2)).1;omega) h3;have:=(oM k ls[k] (ak h2)).1 h4;omega
  have e:pS (lV pis m listed) p=lV pis m (listed.setIfInBounds i true):=by rw[← mZ];exact hX.pS AL (by omega)
  simp only[wpOp,ho]
  by_cases hs:p.i.cF=true
  ·
   have rn:(dQ pis i).i.cF=true:=by rw[mZ];exact hs
   have S8:i ∉ fl:=fun h=>by
    obtain⟨d,T,zs,h2⟩:=(uz.DK i h).2.2;rw[h2]at rn;simp[I.cF]at rn
   have hf:=BJ i AL rn (UD i AL rn BL) Li;rw[mZ]at hf;refine TV Mn hS hF gW (Jw hf) ?_;intro r J' μ' a' w' k1 k2 k3 k4;simp only[St.mk.injEq]at k1;obtain⟨k1,rfl⟩:=k1;rw[k1,e]at k3;have eo:=IX (pis:=pis) uz (listed:=listed) (i:=i) (by omega) S8;refine ih k _ fr τ ε w' μ' a' (by simpa using fw) hclos' htl' hk (fun j L hL=>?_) (fun x hx ux UA pK=>?_) Oc On yX hu' (by rw[eo];exact k2) (by rw[eo];exact k3) (by rw[eo];exact Dg.trans k4.Ma)
   ·rw[dY (by omega),oM j L hL]
    have:L≠i:=fun e=>by
     have:=(hX.PB L (aT hL)).2;rw[e,rn]at this;simp at this
    simp[this]
   ·rw[eo];exact BJ x hx ux UA fun h=>pK ((dY (by omega)).2 (.inr h))
  ·have rn:(dQ pis i).i.cF=false:=by rw[mZ];simpa using hs
   rcases hX.EZ i AL rn with r8 | r8
   ·
    obtain⟨j,hj⟩:=eT.1 r8;have S8:i ∉ fl:=fun h=>(uz.DK i h).2.1 r8;have kI:j<ls.length:=(ab.1 hj).1;have hj1:¬ j<k:=fun h=>Li ((oM j i hj).2 h)
    have Jm:j=k:=by
     refine bB fun gv=>?_;have uy:k<ls.length:=by omega
     have h2:=hX.Qu k j i ls[k] (by omega) (ak uy) hj;have h3:=BL ls[k] (by have:=(hX.PB _ (cA uy)).1;omega) h2;have:=(oM k ls[k] (ak uy)).1 h3;omega
    subst Jm
    have abW:j<k1:=by
     refine bB fun h=>Jo ⟨by omega,fun f hf=>?_⟩;exact BL f (by have:=(uz.DK f hf).1;omega) (uz.late j i f (by omega) hj hf)
    have hjt:(ls.take k1)[j]?=some i:=by rw[sZ,bf abW];exact hj
    simp only[wQ,hjt,mZ]at yX;have abB:=JH yX (rU pis fl listed) (by simp[rU,F3]);refine ZP Mn hS hF gW abB ?_;intro r J' μ' a' w' k1 k2 k3 k4;obtain⟨UW,τ',ε',hτ',rH,cT⟩:=k1;simp only at rH;subst rH;obtain⟨fr',h1,h2,h3,h4⟩:=hX.SI uz (k:=j+1) (by omega) cT;rw[e]at k3;have eo:=IX (pis:=pis) uz (listed:=listed) (i:=i) (by omega) S8
    have jd:∀ x∈ly pis bs m ls (j+1),¬ iM (listed.setIfInBounds i true) x:=by
     intro x hx hl;rw[dp]at hx;rw[dY (by omega)]at hl;rcases hl with rfl | hl
     ·rw[rn]at hx;simp at hx
     ·have:=UD x hx.1 hx.2.1 fun y hy ht=>hc x y (by omega) hy hl ht;omega
    have zg:∀ t y,y<m→(dQ pis y).d=some t→iM (listed.setIfInBounds i true) y→fr'[t]?=(di fr p.d r)[t]?:=by
     intro t y hy hd hl;refine h3 t fun x hx Yv=>jd x hx ?_;rw[hX.dst x y t (dp.1 hx).1 hy Yv hd];exact hl
    have hF':AW w' (τ'++(rU pis fl listed++ε')) μ' fr' (lV pis m (listed.setIfInBounds i true)) a':=by
     refine⟨k3.1,by rw[h4];exact k3.2.1,fun t x hx ch wz=>?_⟩
     have SU:fr'[t]?=(di fr p.d r)[t]?:=by
      rcases jR wz with⟨_,BG⟩ | ⟨y,hy,hd,hl,_⟩
      ·exact h3 t fun x hx=>BG x (dp.1 hx).1
      ·exact zg t y hy hd hl
     have y9:chainB fr' ch=chainB (di fr p.d r) ch:=by
      refine ku fun q hq=>?_;rcases jR wz with⟨rfl,_⟩ | ⟨y,hy,hd,hl,rfl⟩
      ·simp at hq
      ·obtain⟨z,hz,hzd,hzt⟩:=hX.chain y q hy hq;exact zg q.1 z hz hzd (hclos' y z (by omega) (by omega) hl hzt)
     rw[y9];rw[SU]at hx;exact k3.2.2 t x hx ch wz
    refine ih (j+1) _ fr' τ' ε' w' μ' a' (by simpa using fw) hclos' htl' (by omega) (fun y L hL=>?_) (fun x hx ux UA pK=>?_) (hτ'.trans Oc) (fun y f d hy hd=>?_) h1 hu' (by rw[eo];exact k2) (by rw[eo];exact hF') (by rw[eo];exact Dg.trans k4.Ma)
    ·rw[dY (by omega),oM y L hL];constructor
     ·rintro(rfl | h)
      ·refine bB fun gv=>?_;have h5:=hX.Qu j y L L (by omega) hj hL;have:=hX.lt AL AL h5;omega
      ·omega
     ·intro h;rcases fb y j with h5 | h5
      ·exact .inr h5
      ·have:y=j:=by omega
       subst this;rw[hL]at hj;simp only[aa]at hj;exact .inl hj
    ·rw[eo]
     by_cases VX:Bg bs ls x=j+1
     ·exact(h2 x (dp.2 ⟨hx,ux,VX⟩)).le (NL τ' ε' listed)
     ·have hxj':Bg bs ls x≤j:=by omega
      have NV:¬ iM listed x:=fun h=>pK ((dY (by omega)).2 (.inr h));have UI:¬ tb bs i x=true:=fun h=>NV (BL x (by omega) h)
      have Fu:Fact (dQ pis x) (di fr p.d r) (τ'++(rU pis fl listed++ε')):=by
       by_cases hr:(dQ pis x).i.reads=true
       ·exact(UW (dQ pis x) (bH.2 ⟨x,by simp[Pc,hx,ux,hr,hxj',UI],rfl⟩)).fact
       ·have hr':(dQ pis x).i.reads=false:=by simpa using hr
        refine Fact.still (Fact.agree (BJ x hx ux hxj' NV) (fun t ht=>?_) (fun t ht=>?_) mr) hr'
        ·refine iV fun hd=>?_;have h5:=hX.ox hx AL (mZ▸hd) ht;have:=(hX.DH x j i hx ux hj).1 h5;omega
        ·refine iV fun hd=>?_;have:=hX.dst x i t hx AL ht (mZ▸hd);subst this;rw[ux]at rn;simp at rn
      refine Fact.agree Fu (fun t ht=>?_) (fun t ht=>?_) h4
      ·refine h3 t fun y hy Rc=>?_;rw[dp]at hy;have:=hX.mono x y t hx ux hy.1 hy.2.1 Rc ht;omega
      ·refine h3 t fun y hy Rc=>?_;rw[dp]at hy;have:=hX.dst x y t hx hy.1 ht Rc;subst this;omega
    ·have h5:=On y f d hy hd;have Z8:=(uz.DK f (aT hy)).1
     have h6:fr'[d]?=fr[d]?:=by
      rw[h3 d fun x hx Yv=>?_]
      ·refine iV fun hpd=>?_;have:=hX.dst f i d Z8 AL hd (mZ▸hpd);exact S8 (this▸aT hy)
      ·have:=hX.dst f x d Z8 (dp.1 hx).1 hd Yv;have h7:=(dp.1 hx).2.1;obtain⟨d',T,zs,h8⟩:=(uz.DK f (aT hy)).2.2;rw[← this,h8]at h7;simp[I.cF]at h7
     rw[oe]at h5 ⊢;intro t ht' hl;have h7:=h5 t ht' (by rw[h4,mr]at hl;exact hl);simp only[aa]at ht';subst ht';rw[h6];exact h7
   ·
    obtain⟨j,hj⟩:=eT.1 r8;obtain⟨_,Jl,d,T,zs,Z7⟩:=uz.DK i r8;rw[mZ]at Z7;have kI:j<fl.length:=(ab.1 hj).1
    have hlf:listed.getD i false=false:=by
     cases h:listed.getD i false with
     | false=>rfl
     | true=>exact absurd h Li
    have hid:(τ++(rU pis fl listed++ε))[n0+j]?=some .dead:=by
     rw[aA (by omega),Oc,cU,ah (by simp only[rU,ag];omega)];simp only[rU,a8,hj,bK,hlf,H8]
    have eb:F6 (dQ pis i)=.box T zs:=by rw[mZ,Z7];rfl
    have eo:τ++(rU pis fl (listed.setIfInBounds i true)++ε)=(τ++(rU pis fl listed++ε)).set (n0+j) (.box T zs):=by
     rw[Qn uz (by omega) hj,eb,cd _ _ (by omega),Oc,cU,gz _ _ (by simp only[rU,ag];omega)]
    have hdd:p.d=some d:=by rw[Z7]
    have mF:=On j i d hj (by rw[mZ];exact hdd)
    have hle:Le (τ++(rU pis fl listed++ε)) ((τ++(rU pis fl listed++ε)).set (n0+j) (.box T zs)):=by
     intro id o ho
     by_cases he:n0+j=id
     ·subst he;rw[hid]at ho;simp only[aa]at ho;exact .inl ho.symm
     ·rw[aJ he];exact .inr ho
    refine H3 Mn Z7 hS hF gW hid ?_;intro μ' a' w' k2 k3 k4;rw[mF,e]at k3;refine ih k _ fr τ ε w' μ' a' (by simpa using fw) hclos' htl' hk (fun y L hL=>?_) (fun x hx ux UA pK=>?_) Oc On yX hu' (by rw[eo];exact k2) (by rw[eo];exact k3) (by rw[eo];exact Dg.trans k4.Ma)
    ·rw[dY (by omega),oM y L hL];have:L≠i:=fun e=>Jl (e▸aT hL);simp[this]
    ·rw[eo];exact(BJ x hx ux UA fun h=>pK ((dY (by omega)).2 (.inr h))).le hle
def xh(pis:List Pi)(fl:List Nat):List (Nat×Nat×List V):=fl.map fun f=>match dQ pis f with
 | ⟨some d,_,.alloc T zs⟩=>(d,T,zs)
 | _=>(0,0,[])
def F4(fls:List (Nat×Nat×List V)):List Ob:=fls.map fun x=>.box x.2.1 x.2.2
def tk:Nat→List (Nat×Nat×List V)→List V→List V
 | _,[],fr=>fr
 | n,x::r,fr=>tk (n+1) r (fr.set x.1 (.ptr n 0))
theorem sq{t:Nat}:∀ {l:List (Nat×Nat×List V)} {n:Nat} {fr:List V},(∀ x∈l,x.1≠t)→(tk n l fr)[t]?=fr[t]?
 | [],_,_,_=>rfl
 | x::l,n,fr,h=>by
  rw[tk,sq fun y hy=>h y (by simp[hy]),aJ (h x (by simp))]
theorem yf:∀ {l:List (Nat×Nat×List V)} {n:Nat} {fr:List V},(tk n l fr).length=fr.length
 | [],_,_=>rfl
 | x::l,n,fr=>by rw[tk,yf];simp
theorem Iv:∀ {l:List (Nat×Nat×List V)} {n j:Nat} {fr:List V} {x:Nat×Nat×List V},l.Pairwise (fun a b=>a.1≠b.1)→l[j]?=some x→x.1<fr.length→(tk n l fr)[x.1]?=some (.ptr (n+j) 0)
 | [],_,_,_,_,_,h,_=>by simp at h
 | y::l,n,0,fr,x,hp,h,hl=>by
  simp only[aw,aa]at h;subst h;rw[sY]at hp;rw[tk,sq fun z hz=>Tq (hp.1 z hz),ar hl,dK]
 | y::l,n,j+1,fr,x,hp,h,hl=>by
  rw[sY]at hp;rw[tk,Iv (j:=j) hp.2 (by simpa using h) (by simpa using hl)];congr 2;omega
theorem fx.gY{P:Program}{B:Nat}{w0 w:World}:∀ (b:List Ob) {J:ae} {μ:Mem},fx P B w0 w J μ→∃ μ',fx P B w0 w (J++Go.Pm.gY b) μ'∧lf w J μ w (J++Go.Pm.gY b) μ'
 | [],J,μ,h=>⟨μ,by simpa[Go.Pm.gY]using h,by simpa[Go.Pm.gY]using lf.refl w J μ⟩
 | _::b,J,μ,h=>by
  obtain⟨h1,h2⟩:=h.pB (w':=w) .dead undef ⟨rfl,rfl,rfl,aq _,fun _ _ _=>rfl⟩ (by simp[ic,undef]) fun _=>trivial;obtain⟨μ',h3,h4⟩:=fx.gY b h1;have e:J++[Ob.dead]++Go.Pm.gY b=J++Go.Pm.gY (.dead::b):=by simp[Go.Pm.gY]
  rw[e]at h3 h4;exact⟨μ',h3,h2.trans h4⟩
def okF(pis:List Pi)(bs:List Nat)(m:Nat)(ls fl:List Nat)(k1:Nat):Bool :=
 (fl.all fun f=>decide (f<m)&&(!ls.contains f&&match dQ pis f with
  | ⟨some _,[],.alloc _ _⟩=>true
  | _=>false))&&(decide fl.Nodup&&(decide (k1≤ls.length)&&(ls.drop k1).all fun L=>fl.all fun f=>tb bs L f))
theorem TW(h:okF pis bs m ls fl k1=true):ZD pis bs m ls fl k1:=by
 simp only[okF,aO,cK,aY,dm]at h;obtain⟨h1,h2,h3,h4⟩:=h;refine⟨fun f hf=>?_,h2,h3,fun k L f hk hL hf=>h4 L ?_ f hf⟩
 ·obtain⟨h5,h6,h7⟩:=h1 f hf;refine⟨h5,by simpa using h6,?_⟩;split at h7
  ·rename_i d T zs e;exact⟨d,T,zs,e⟩
  ·simp at h7
 ·refine aT (i:=k - k1) ?_;rw[gq,← hL];congr 1;omega
theorem Av{n B:Nat}{gs:List Nat}{K:St→Prop}{Q:Exit→Act→World→Prop}(hp:pk P ops ops.toList=some pis)(gW:Ql ops pis bs m ls fl=true)(UH:okF pis bs m ls fl k1=true)
  (ht:DI (D0 pis m) (pis.drop m) gs=true) {fr:List V} {J:ae} {w0 w:World} {μ:Mem} {a:Act}
  (h:uK P (F4 (xh pis fl)) (Ad pis bs m ls 0 (ls.take k1)) (Ad pis bs m ls k1 (ls.drop k1)) ((ly pis bs m ls ls.length).map (dQ pis)) (iW P gs (pis.drop m) K) (tk J.length (xh pis fl) fr) J [])
  (hS:fx P B w0 w J μ) (hF:FR w J μ fr a)
  (hQ:∀ st' w' μ' a',K st'→fx P B w0 w' st'.J μ'→FR w' st'.J μ' st'.fr a'→eD n w J μ w' st'.J μ'→Q .normal a' w'):wpAny P .any ops Q ops.size (Array.replicate ops.size false) a { w with drawn:=w.drawn+1 }:=by
 have hn:pis.length=ops.size:=by rw[(l9 hp).1,a6]
 have hX:=Ni gW hn;have uz:=TW UH
 have Zd:F4 (xh pis fl)=F3 pis fl:=by
  simp only[F4,xh,F3,ig];refine cS fun f hf=>?_;obtain⟨d,T,zs,e⟩:=(uz.DK f hf).2.2;simp[e,F6]
 rw[Zd]at h
 have BJ:∀ (j f d:Nat),fl[j]?=some f→(dQ pis f).d=some d→∃ x,(xh pis fl)[j]?=some x∧x.1=d:=by
  intro j f d hj hd;obtain⟨d',T,zs,e⟩:=(uz.DK f (aT hj)).2.2;rw[e]at hd;simp only[aa]at hd;exact⟨(d',T,zs),by simp[xh,hj,e],hd⟩
 have hof:∀ x∈xh pis fl,∃ f,f∈fl∧(dQ pis f).d=some x.1:=by
  intro x hx;simp only[xh,bH]at hx;obtain⟨f,hf,rfl⟩:=hx;obtain⟨d,T,zs,e⟩:=(uz.DK f hf).2.2;exact⟨f,hf,by simp[e]⟩
 have Ji:(xh pis fl).Pairwise (fun a b=>a.1≠b.1):=by
  rw[xh,L7];refine uz.nd.imp_of_mem ?_;intro f g hf hg gv he;obtain⟨d,T,zs,e⟩:=(uz.DK f hf).2.2;obtain⟨d',T',zs',e'⟩:=(uz.DK g hg).2.2;simp only[e,e']at he;subst he;exact gv (hX.dst f g d (uz.DK f hf).1 (uz.DK g hg).1 (by rw[e]) (by rw[e']))
 obtain⟨hS',Mh⟩:=hS.grown (w':={ w with drawn:=w.drawn+1 }) ⟨rfl,rfl,rfl,aq _,fun _ _ _=>rfl⟩;obtain⟨μ1,Tg,YL⟩:=hS'.gY (F3 pis fl);have e0:J++gY (F3 pis fl)=J++(gY (F3 pis fl)++[]):=by rw[bV]
 rw[e0]at Tg YL;have hk:=Mh.eH.trans YL.eH;have hF':=hF.eH hk;obtain⟨fr',h1,h2,h3,h4⟩:=hX.SI uz (k:=0) (dT _) (by simpa using h)
 have Jl:∀ i,¬ iM (Array.replicate ops.size false) i:=by
  intro i;simp only[iM,bh,vI];split<;>simp
 have eo:rU pis fl (Array.replicate ops.size false)=gY (F3 pis fl):=by
  simp only[rU,gY,F3,ig];refine cS fun f _=>?_
  have:(Array.replicate ops.size false).getD f false=false:=by
   cases hh:(Array.replicate ops.size false).getD f false with
   | false=>rfl
   | true=>exact absurd hh (Jl f)
  simp[this]
 refine AD (n:=n) hX uz hp (fun st' w' μ' a' k1 k2 k3 k4=>hQ st' w' μ' a' k1 k2 k3 (eD.trans hk.Ma k4)) ht ops.size 0 _ fr' J [] _ μ1 a (by simp) (fun i j _ _ hl=>absurd hl (Jl i)) (fun i _ _=>Jl i) (dT _)
  (fun j L hL=>⟨fun hl=>absurd hl (Jl L),fun h=>by omega⟩) (fun i hi hs UD _=>by rw[eo];exact h2 i (dp.2 ⟨hi,hs,by omega⟩)) rfl (fun j f d hj hd=>?_) h1 (by rw[hn];unfold B4;exact aQ (eU _ _) (by simp)) (by rw[eo];exact Tg) ?_ (by rw[eo];exact eD.refl _ _ _ _)
 ·have Z8:=(uz.DK f (aT hj)).1;obtain⟨x,hx,rfl⟩:=BJ j f d hj hd;rw[oe];intro t ht' hl;simp only[aa]at ht';subst ht';rw[h3 x.1 fun y hy Rc=>?_]
  ·exact Iv Ji hx (by rwa [h4,yf]at hl)
  ·have:=hX.dst f y x.1 Z8 (dp.1 hy).1 hd Rc;have h7:=(dp.1 hy).2.1;obtain⟨d',T,zs,h8⟩:=(uz.DK f (aT hj)).2.2;rw[← this,h8]at h7;simp[I.cF]at h7
 ·rw[eo];refine⟨hF'.1,by rw[h4,yf];exact hF'.2.1,fun t x hx ch wz=>?_⟩;rcases jR wz with⟨rfl,BG⟩ | ⟨y,hy,hd,hl,_⟩
  ·rw[h3 t fun i hi=>BG i (dp.1 hi).1,sq fun y hy e=>?_]at hx
   ·exact⟨fun _=>hF'.2.2 t x hx,fun h=>by simp[chainB]at h⟩
   ·obtain⟨f,hf,hfd⟩:=hof y hy;exact BG f (uz.DK f hf).1 (e▸hfd)
  ·exact absurd hl (Jl y)
end
inductive bD where
 | skip
 | au (gs:List Nat) (is:List Pi)
 | df (ds:List (List Pi×Pi×List Pi)) (last:List Pi) (gs:List Nat) (tail:List Pi)
 | seq (a b:bD)
 | ite (c:O) (a b:bD)
 | block (id:Nat) (c:bD)
 | loop (c:bD)
 | exit (id:Nat)
 | ret
 | both (a b:bD)
 | Mp (fls:List (Nat×Nat×List V)) (ds1 ds2:List (List Pi×Pi×List Pi)) (last:List Pi) (gs:List Nat) (tail:List Pi)
def vh(pis:List Pi):List Nat:=pis.filterMap fun p=>if p.g.isEmpty then none else p.d
def VH(P:Program)(ops:Array Oper):Option bD :=
 match pk P ops ops.toList with
 | some pis=>if DI [] pis (vh pis)then some (.au (vh pis) pis)else none
 | none=>none
def uj(P:Program)(ops:Array Oper)(bs:List Nat):Option bD :=
 if P.follows .mixedOrders then match pk P ops ops.toList with
  | some pis =>
   let m:=mX bs pis.length;let ls:=(List.range m).filter fun i=>!(dQ pis i).i.cF
   if Ql ops pis bs m ls []&&DI (D0 pis m) (pis.drop m) (vh pis)then
    some (.df (Ad pis bs m ls 0 ls) ((ly pis bs m ls ls.length).map (dQ pis)) (vh pis) (pis.drop m))else none
  | none=>none
 else none
def Q2:Op→Bool
 | .alloc _ | .box _ _=>true
 | _=>false
def Ss(ops:Array Oper):List Nat:=(List.range ops.size).filter fun i=>match ops[i]? with
 | some o=>Q2 o.op
 | none=>false
def JD(P:Program)(ops:Array Oper):Option bD :=
 match Ss ops with
 | [i,j]=>if i≠j∧i<ops.size∧j<ops.size∧P.follows .mixedOrders=true∧((List.range ops.size).all fun x=>x==i||(x==j||match ops[x]? with | some o=>nk o.op | none=>true))=true then
   match uj P (waitsFor ops j i) (Region.before (waitsFor ops j i)).toList,uj P (nh (waitsFor ops i j) i j) (Region.before (nh (waitsFor ops i j) i j)).toList with
   | some a,some b=>some (.both a b)
   | _,_=>none
  else none
 | _=>none
def abj(pis:List Pi)(bs:List Nat)(m i:Nat):Bool:=match dQ pis i with
 | ⟨some _,[],.alloc _ _⟩=>(List.range m).any fun j=>!(dQ pis j).i.cF&&(j != i&&(!tb bs i j&&!tb bs j i))
 | _=>false
def cFl(P:Program)(ops:Array Oper)(bs:List Nat):Option bD :=
 if P.follows .mixedOrders then match pk P ops ops.toList with
  | some pis =>
   let m:=mX bs pis.length;let fl:=(List.range m).filter (abj pis bs m);let ls:=(List.range m).filter fun i=>!(dQ pis i).i.cF&&!fl.contains i;let k1:=(ls.filter fun L=>!fl.all (tb bs L)).length
   if Ql ops pis bs m ls fl&&(okF pis bs m ls fl k1&&DI (D0 pis m) (pis.drop m) (vh pis))then
    some (.Mp (xh pis fl) (Ad pis bs m ls 0 (ls.take k1)) (Ad pis bs m ls k1 (ls.drop k1)) ((ly pis bs m ls ls.length).map (dQ pis)) (vh pis) (pis.drop m))else none
  | none=>none
 else none
def Pg(P:Program)(ops:Array Oper):Option bD :=
 match uj P ops (Region.before ops).toList with
 | some c=>some c
 | none=>match JD P ops with
  | some c=>some c
  | none=>cFl P ops (Region.before ops).toList
def eC(P:Program):Code→Option bD
 | .skip=>some .skip
 | .region _ ops false=>VH P ops
 | .region _ ops true=>Pg P ops
 | .seq a b=>match eC P a,eC P b with
  | some a,some b=>some (.seq a b)
  | _,_=>none
 | .cond c a b=>match cO c,eC P a,eC P b with
  | some c,some a,some b=>some (.ite c a b)
  | _,_,_=>none
 | .block id c=>(eC P c).map (.block id)
 | .loop c=>(eC P c).map .loop
 | .exit id=>some (.exit id)
 | .ret=>some .ret
 | _=>none
theorem gB{P:Program}{ops:Array Oper}{c:bD}(h:VH P ops=some c):∃ pis,pk P ops ops.toList=some pis∧DI [] pis (vh pis)=true∧c=.au (vh pis) pis:=by
 unfold VH at h;split at h
 ·rename_i pis hp;split at h<;>simp only[aa,reduceCtorEq]at h;rename_i gW;exact⟨pis,hp,gW,h.symm⟩
 ·simp at h
theorem sS{P:Program}{ops:Array Oper}{bs:List Nat}{c:bD}(h:uj P ops bs=some c):
  P.follows .mixedOrders=true∧∃ pis m ls,pk P ops ops.toList=some pis∧Ql ops pis bs m ls []=true∧DI (D0 pis m) (pis.drop m) (vh pis)=true ∧
   c=.df (Ad pis bs m ls 0 ls) ((ly pis bs m ls ls.length).map (dQ pis)) (vh pis) (pis.drop m):=by
 unfold uj at h;split at h
 ·rename_i hm;split at h
  ·rename_i pis hp;dsimp only at h;split at h<;>simp only[aa,reduceCtorEq]at h;rename_i gW;rw[aO]at gW;exact⟨hm,pis,_,_,hp,gW.1,gW.2,h.symm⟩
  ·simp at h
 ·simp at h
theorem zN{P:Program}{ops:Array Oper}{c:bD}(h:JD P ops=some c):∃ i j a b,i≠j∧i<ops.size∧j<ops.size∧P.follows .mixedOrders=true ∧
  (∀ x o,x≠i→x≠j→ops[x]?=some o→nk o.op=true)∧uj P (waitsFor ops j i) (Region.before (waitsFor ops j i)).toList=some a ∧
  uj P (nh (waitsFor ops i j) i j) (Region.before (nh (waitsFor ops i j) i j)).toList=some b∧c=.both a b:=by
 unfold JD at h;split at h
 ·rename_i i j BL;split at h
  ·rename_i hc;obtain⟨h1,h2,h3,h4,h5⟩:=hc;split at h<;>simp only[aa,reduceCtorEq]at h;rename_i a b ha hb;refine⟨i,j,a,b,h1,h2,h3,h4,fun x o xa Jg ho=>?_,ha,hb,h.symm⟩;simp only[cK,cC,da,bT]at h5;have:=h5 x (aX.1 ho).1;rw[ho]at this;rcases this with h | h | h
   ·exact absurd h xa
   ·exact absurd h Jg
   ·exact h
  ·simp at h
 ·simp at h
theorem F2{P:Program}{ops:Array Oper}{bs:List Nat}{c:bD}(h:cFl P ops bs=some c):
  P.follows .mixedOrders=true∧∃ pis m ls fl k1,pk P ops ops.toList=some pis∧Ql ops pis bs m ls fl=true∧okF pis bs m ls fl k1=true∧DI (D0 pis m) (pis.drop m) (vh pis)=true ∧
   c=.Mp (xh pis fl) (Ad pis bs m ls 0 (ls.take k1)) (Ad pis bs m ls k1 (ls.drop k1)) ((ly pis bs m ls ls.length).map (dQ pis)) (vh pis) (pis.drop m):=by
 unfold cFl at h;split at h
 ·rename_i hm;split at h
  ·rename_i pis hp;dsimp only at h;split at h<;>simp only[aa,reduceCtorEq]at h;rename_i gW;rw[aO,aO]at gW;exact⟨hm,pis,_,_,_,_,hp,gW.1,gW.2.1,gW.2.2,h.symm⟩
  ·simp at h
 ·simp at h
theorem fN{P:Program}{ops:Array Oper}{c:bD}(h:Pg P ops=some c):
  (∃ ds last gs tail,c=.df ds last gs tail∧uj P ops (Region.before ops).toList=some c)∨(∃ a b,c=.both a b∧JD P ops=some c) ∨
   (∃ fls ds1 ds2 last gs tail,c=.Mp fls ds1 ds2 last gs tail∧cFl P ops (Region.before ops).toList=some c):=by
 unfold Pg at h;split at h
 ·rename_i c' hc;simp only[aa]at h;subst h;obtain⟨_,pis,m,ls,_,_,_,he⟩:=sS hc;exact .inl ⟨_,_,_,_,he,hc⟩
 ·split at h
  ·rename_i c' hc;simp only[aa]at h;subst h;obtain⟨i,j,a,b,_,_,_,_,_,_,_,he⟩:=zN hc;exact .inr (.inl ⟨a,b,he,hc⟩)
  ·obtain⟨_,pis,m,ls,fl,k1,_,_,_,_,he⟩:=F2 h;exact .inr (.inr ⟨_,_,_,_,_,_,he,h⟩)
def b6(n:Nat)(P:Program)(c:bD)(K:Exit→St→Prop)(st:St):Prop:=∀ code,eC P code=some c→PW n P code K st
theorem b6.mono{n:Nat}{P:Program}{c:bD}{K K':Exit→St→Prop}{st:St}(h:b6 n P c K st)(hk:∀ e st',K e st'→K' e st'):b6 n P c K' st :=
 fun code hc=>(h code hc).mono hk
section rules
variable {n:Nat} {P:Program} {K:Exit→St→Prop} {st:St}
theorem b6.skip(h:K .normal st):b6 n P .skip K st:=by
 intro code hc;cases code
 case skip=>exact PW.skip h
 all_goals first | (exfalso;revert hc;simp only[eC];try ((repeat' split)<;>simp);done) | (rename_i _ ops draw;exfalso;cases draw<;>simp only[eC]at hc<;>first | (obtain⟨_,_,_,h⟩:=gB hc;simp at h;done) | (rcases fN hc with⟨_,_,_,_,h,_⟩ | ⟨_,_,h,_⟩ | ⟨_,_,_,_,_,_,h,_⟩<;>simp at h;done))
theorem b6.au{gs:List Nat}{is:List Pi}(h:iW P gs is (K .normal) st):b6 n P (.au gs is) K st:=by
 intro code hc;cases code
 case region id ops draw =>
  cases draw
  ·simp only[eC]at hc;obtain⟨ps,lq,gW,he⟩:=gB hc;simp only[bD.au.injEq]at he;obtain⟨rfl,rfl⟩:=he;intro B w0 w μ a hS hF;refine wp_region ?_
   have:=yk (P:=P) (ops:=ops) (n:=n) (B:=B) (gs:=vh is) (w0:=w0) (ws:=w) (σs:=st.J) (μs:=μ) (K:=K .normal) (Q:=jJ P n B w0 w st.J μ K)
    (fun st' w' μ' a' h1 h2 h3 h4=>⟨st',μ',h1,h2,h3,h4⟩) ops.toList 0 is [] st.fr st.J w μ a (fun j=>by simp) lq gW h hS hF.toI (eD.refl _ _ _ _)
   simp only[bz,List.map_id',a6]at this;exact this
  ·simp only[eC]at hc;rcases fN hc with⟨_,_,_,_,h,_⟩ | ⟨_,_,h,_⟩ | ⟨_,_,_,_,_,_,h,_⟩<;>simp at h
 all_goals first | (exfalso;revert hc;simp only[eC];try ((repeat' split)<;>simp);done)
theorem b6.df{ds:List (List Pi×Pi×List Pi)}{last:List Pi}{gs:List Nat}{tail:List Pi}(h:pH P ds last (iW P gs tail (K .normal)) st):b6 n P (.df ds last gs tail) K st:=by
 intro code hc;cases code
 case region id ops draw =>
  cases draw
  ·simp only[eC]at hc;obtain⟨_,_,_,h⟩:=gB hc;simp at h
  ·simp only[eC]at hc;rcases fN hc with⟨_,_,_,_,_,hc⟩ | ⟨_,_,h,_⟩ | ⟨_,_,_,_,_,_,h,_⟩
   rotate_left
   ·simp at h
   ·simp at h
   obtain⟨hm,pis,m,ls,lq,gW,wx,he⟩:=sS hc;simp only[bD.df.injEq]at he;obtain⟨rfl,rfl,rfl,rfl⟩:=he;intro B w0 w μ a hS hF;exact Es (n:=n) hm lq gW wx h hS hF fun st' w' μ' a' h1 h2 h3 h4=>⟨st',μ',h1,h2,h3,h4⟩
 all_goals first | (exfalso;revert hc;simp only[eC];try ((repeat' split)<;>simp);done)
theorem BW{ops:Array Oper}{bs:List Nat}{c:bD}(hc:uj P ops bs=some c)(h:∃ ds last gs tail,c=.df ds last gs tail∧pH P ds last (iW P gs tail (K .normal)) st)
  {B:Nat} {w0 w:World} {μ:Mem} {a:Act} (hS:fx P B w0 w st.J μ) (hF:FR w st.J μ st.fr a) :
  wpAny P .any ops (fun e a' w'=>∃ st' μ',K e st'∧fx P B w0 w' st'.J μ'∧FR w' st'.J μ' st'.fr a'∧eD n w st.J μ w' st'.J μ') ops.size (Array.replicate ops.size false) a { w with drawn:=w.drawn+1 }:=by
 obtain⟨hm,pis,m,ls,lq,gW,wx,rfl⟩:=sS hc;obtain⟨ds,last,gs,tail,he,h⟩:=h;simp only[bD.df.injEq]at he;obtain⟨rfl,rfl,rfl,rfl⟩:=he;exact tu (n:=n) lq gW wx h hS hF fun st' w' μ' a' h1 h2 h3 h4=>⟨st',μ',h1,h2,h3,h4⟩
theorem b6.both{x y:bD}(h1:∃ ds last gs tail,x=.df ds last gs tail∧pH P ds last (iW P gs tail (K .normal)) st)(h2:∃ ds last gs tail,y=.df ds last gs tail∧pH P ds last (iW P gs tail (K .normal)) st):
  b6 n P (.both x y) K st:=by
 intro code hc;cases code
 case region id ops draw =>
  cases draw
  ·simp only[eC]at hc;obtain⟨_,_,_,h⟩:=gB hc;simp at h
  ·simp only[eC]at hc;rcases fN hc with⟨_,_,_,_,h,_⟩ | ⟨a,b,h,hc⟩ | ⟨_,_,_,_,_,_,h,_⟩
   ·simp at h
   rotate_left
   ·simp at h
   obtain⟨i,j,a',b',Hw,hi,hj,hm,hp,ha,hb,he⟩:=zN hc;simp only[bD.both.injEq]at he;obtain⟨rfl,rfl⟩:=he;intro B w0 w μ a hS hF;refine Cg hm Hw hi hj hp ?_ ?_
   ·have:=BW (n:=n) ha h1 hS hF
    rwa [gM]at this
   ·have:=BW (n:=n) hb h2 hS hF
    rwa [x6,gM]at this
 all_goals first | (exfalso;revert hc;simp only[eC];try ((repeat' split)<;>simp);done)
theorem b6.Mp{fls:List (Nat×Nat×List V)}{ds1 ds2:List (List Pi×Pi×List Pi)}{last:List Pi}{gs:List Nat}{tail:List Pi}
  (h:uK P (F4 fls) ds1 ds2 last (iW P gs tail (K .normal)) (tk st.J.length fls st.fr) st.J []):b6 n P (.Mp fls ds1 ds2 last gs tail) K st:=by
 intro code hc;cases code
 case region id ops draw =>
  cases draw
  ·simp only[eC]at hc;obtain⟨_,_,_,h⟩:=gB hc;simp at h
  ·simp only[eC]at hc;rcases fN hc with⟨_,_,_,_,h,_⟩ | ⟨_,_,h,_⟩ | ⟨_,_,_,_,_,_,_,hc⟩
   ·simp at h
   ·simp at h
   obtain⟨hm,pis,m,ls,fl,k1,lq,gW,UH,wx,he⟩:=F2 hc;simp only[bD.Mp.injEq]at he;obtain⟨rfl,rfl,rfl,rfl,rfl,rfl⟩:=he;intro B w0 w μ a hS hF;exact wp_region_any hm (Av (n:=n) lq gW UH wx h hS hF fun st' w' μ' a' h1 h2 h3 h4=>⟨st',μ',h1,h2,h3,h4⟩)
 all_goals first | (exfalso;revert hc;simp only[eC];try ((repeat' split)<;>simp);done)
theorem b6.ret(h:K .ret st):b6 n P .ret K st:=by
 intro code hc;cases code
 case ret=>exact PW.ret h
 all_goals first | (exfalso;revert hc;simp only[eC];try ((repeat' split)<;>simp);done) | (rename_i _ ops draw;exfalso;cases draw<;>simp only[eC]at hc<;>first | (obtain⟨_,_,_,h⟩:=gB hc;simp at h;done) | (rcases fN hc with⟨_,_,_,_,h,_⟩ | ⟨_,_,h,_⟩ | ⟨_,_,_,_,_,_,h,_⟩<;>simp at h;done))
theorem b6.exit{id:Nat}(h:K (.exit id) st):b6 n P (.exit id) K st:=by
 intro code hc;cases code
 case exit id'=>simp only[eC,aa,bD.exit.injEq]at hc;subst hc;exact PW.exit h
 all_goals first | (exfalso;revert hc;simp only[eC];try ((repeat' split)<;>simp);done) | (rename_i _ ops draw;exfalso;cases draw<;>simp only[eC]at hc<;>first | (obtain⟨_,_,_,h⟩:=gB hc;simp at h;done) | (rcases fN hc with⟨_,_,_,_,h,_⟩ | ⟨_,_,h,_⟩ | ⟨_,_,_,_,_,_,h,_⟩<;>simp at h;done))
def Ww(n:Nat)(P:Program)(y:bD)(K:Exit→St→Prop):Exit→St→Prop
 | .normal,st=>b6 n P y K st
 | e,st=>K e st
theorem b6.seq{x y:bD}(h:b6 n P x (Ww n P y K) st):b6 n P (.seq x y) K st:=by
 intro code hc;cases code
 case seq p q =>
  simp only[eC]at hc;split at hc<;>simp only[aa,reduceCtorEq,bD.seq.injEq]at hc;rename_i p' q' hp hq;obtain⟨rfl,rfl⟩:=hc;refine PW.seq ((h p hp).mono ?_);intro e st' hK;cases e<;>first | exact hK q hq | exact hK
 all_goals first | (exfalso;revert hc;simp only[eC];try ((repeat' split)<;>simp);done) | (rename_i _ ops draw;exfalso;cases draw<;>simp only[eC]at hc<;>first | (obtain⟨_,_,_,h⟩:=gB hc;simp at h;done) | (rcases fN hc with⟨_,_,_,_,h,_⟩ | ⟨_,_,h,_⟩ | ⟨_,_,_,_,_,_,h,_⟩<;>simp at h;done))
theorem b6.block{id:Nat}{c:bD}(h:b6 n P c (vB id K) st):b6 n P (.block id c) K st:=by
 intro code hc;cases code
 case block id' c' =>
  simp only[eC,aj,bD.block.injEq]at hc;obtain⟨c2,Lq,rfl,rfl⟩:=hc;exact PW.block (h c' Lq)
 all_goals first | (exfalso;revert hc;simp only[eC];try ((repeat' split)<;>simp);done) | (rename_i _ ops draw;exfalso;cases draw<;>simp only[eC]at hc<;>first | (obtain⟨_,_,_,h⟩:=gB hc;simp at h;done) | (rcases fN hc with⟨_,_,_,_,h,_⟩ | ⟨_,_,h,_⟩ | ⟨_,_,_,_,_,_,h,_⟩<;>simp at h;done))
theorem b6.loop{c:bD}(I:St→Prop)(m:St→Nat)(h0:I st)(h:∀ st,I st→b6 n P c (SO I m (m st) K) st):b6 n P (.loop c) K st:=by
 intro code hc;cases code
 case loop c' =>
  simp only[eC,aj,bD.loop.injEq]at hc;obtain⟨c2,Lq,rfl⟩:=hc;exact PW.loop I m h0 fun st hI=>h st hI c' Lq
 all_goals first | (exfalso;revert hc;simp only[eC];try ((repeat' split)<;>simp);done) | (rename_i _ ops draw;exfalso;cases draw<;>simp only[eC]at hc<;>first | (obtain⟨_,_,_,h⟩:=gB hc;simp at h;done) | (rcases fN hc with⟨_,_,_,_,h,_⟩ | ⟨_,_,h,_⟩ | ⟨_,_,_,_,_,_,h,_⟩<;>simp at h;done))
theorem b6.ite{c:O}{x y:bD}{b:Bool}(hb:ev st.fr c=.b b)(ht:b=true→b6 n P x K st)(hf:b=false→b6 n P y K st):b6 n P (.ite c x y) K st:=by
 intro code hc;cases code
 case cond c' p q =>
  simp only[eC]at hc;split at hc<;>simp only[aa,reduceCtorEq,bD.ite.injEq]at hc;rename_i c2 p' q' y9 hp hq;obtain⟨rfl,rfl,rfl⟩:=hc;intro B w0 w μ a hS hF;have hv:=(hb▸cP hF y9).mE;cases b
  ·exact wp_cond_false hv (hf rfl q hq B w0 w μ a hS hF)
  ·exact wp_cond_true hv (ht rfl p hp B w0 w μ a hS hF)
 all_goals first | (exfalso;revert hc;simp only[eC];try ((repeat' split)<;>simp);done) | (rename_i _ ops draw;exfalso;cases draw<;>simp only[eC]at hc<;>first | (obtain⟨_,_,_,h⟩:=gB hc;simp at h;done) | (rcases fN hc with⟨_,_,_,_,h,_⟩ | ⟨_,_,h,_⟩ | ⟨_,_,_,_,_,_,h,_⟩<;>simp at h;done))
end rules
inductive V.Wf:V→Prop
 | s (l:List UInt8) (h:l.length≤maxLen):Wf (.s l)
 | sl (sz:Nat) (xs:List (List V)) (h:xs.length≤maxLen) (hr:∀ r∈xs,r.length=sz) (hx:∀ i j x,eS xs i j=some x→Wf x):Wf (.sl sz xs)
 | agg (xs:List V) (h:∀ (i:Nat) (x:V),xs[i]?=some x→Wf x):Wf (.agg xs)
 | b (x):Wf (.b x)
 | i (k n):Wf (.i k n)
 | u:Wf .u
 | nil:Wf .nil
 | lit (sz xs):Wf (.lit sz xs)
 | own (id g):Wf (.own id g)
 | sub (id g lo hi):Wf (.sub id g lo hi)
 | ptr (id off):Wf (.ptr id off)
 | ep (sz xs i off):Wf (.ep sz xs i off)
 | rp (id g i off):Wf (.rp id g i off)
 | mp (id):Wf (.mp id)
 | it (id):Wf (.it id)
 | pM (id n):Wf (.pM id n)
 | dC:Wf .dC
 | fL:Wf .fL
 | fn (f caps):Wf (.fn f caps)
 | fi (xs):Wf (.fi xs)
theorem VR.wf{w:World}{J:ae}{μ:Mem}{x:V}{v:Value}(h:VR w J μ x v):x.Wf:=by
 induction h with
 | u v=>exact .u
 | b x=>exact .b x
 | i k n=>exact .i k n
 | s l x hl hm=>exact .s l hm
 | nil=>exact .nil
 | Ae sz=>exact .sl sz [] (by simp) (by simp) (by simp[eS])
 | sle sz a=>exact .sl sz [] (by simp) (by simp) (by simp[eS])
 | sl sz xs b o cap f hlen kV cq hc hv ih=>exact .sl sz xs (aQ hlen kV) cq ih
 | C5 sz=>exact .lit sz _
 | lit sz xs b o f kV cq hc hv ih=>exact .lit sz xs
 | own id g v hid h=>exact .own id g
 | sub id g lo hi v hid h=>exact .sub id g lo hi
 | ptr id off b h hm=>exact .ptr id off
 | ep sz xs i off b o f hi cq hc hv ih=>exact .ep sz xs i off
 | rp id g i off v hid h=>exact .rp id g i off
 | mp id r h hm=>exact .mp id
 | it id v h hm=>exact .it id
 | pM id n b h hm=>exact .pM id n
 | dC=>exact .dC
 | fL=>exact .fL
 | fn f caps vs hl hv ih=>exact .fn f caps
 | agg xs vs hl hv ih=>exact .agg xs ih
 | fi xs vs hl hv ih=>exact .fi xs
def Ob.refs:Ob→List V
 | .box _ cs=>cs
 | .map _ _ es=>es.map (·.2)
 | .iter _ m _ _ _ _=>[.mp m]
 | _=>[]
def bG(J:ae):Prop:=∀ (id:Nat) (o:Ob),J[id]?=some o→∀ (j:Nat) (x:V),o.refs[j]?=some x→x.Lt J.length
theorem fx.closed{P:Program}{B:Nat}{w0 w:World}{J:ae}{μ:Mem}(hS:fx P B w0 w J μ):bG J:=by
 intro id o h j x hx;cases o with
 | dead=>simp[Ob.refs]at hx
 | row E sz by' g sh xs=>simp[Ob.refs]at hx
 | box T cs =>
  obtain⟨b,vs,_,_,_,_,mi⟩:=hS.JF h;obtain⟨u,_,hv⟩:=mi j x hx;exact hv.lt
 | map K E es =>
  obtain⟨r,ents,clock,_,_,_,hR⟩:=hS.obj id _ h;simp only[Ob.refs,a8,aj]at hx;obtain⟨⟨k,y⟩,h1,rfl⟩:=hx;obtain⟨_,_,e,_,_,hv⟩:=hR.2.1 j k y h1;exact hv.lt
 | iter st m E n ps c =>
  have hm:m<J.length:=by
   have:=hS.obj id _ h;cases st
   ·obtain⟨_,_,_,_,_,_,_,_,_,_,_,_,_,_,h2,_⟩:=this;exact(ab.1 h2).1
   ·obtain⟨_,_,_,_,_,_,_,_,_,h2,_⟩:=this;exact(ab.1 h2).1
  cases j with
  | zero=>simp only[Ob.refs,aw,aa]at hx;subst hx;exact .mp _ hm
  | succ j=>simp[Ob.refs]at hx
def Wk(P:Program)(n:Nat)(xs:List V)(J:ae)(xs':List V)(J':ae):Prop :=
 ∀ (B:Nat) (w0 w:World) (μ:Mem) (vs:Array Value),fx P B w0 w J μ→CR w J μ xs vs→∃ μ',fx P B w0 w J' μ'∧CR w J' μ' xs' vs∧eD n w J μ w J' μ'
theorem Wk.refl{P:Program}{n:Nat}(xs:List V)(J:ae):Wk P n xs J xs J:=fun _ _ _ μ _ h1 h2=>⟨μ,h1,h2,eD.refl _ _ _ _⟩
theorem Wk.trans{P:Program}{n:Nat}{xs:List V}{J:ae}{xs':List V}{J':ae}{xs'':List V}{J'':ae}(h:Wk P n xs J xs' J')(k:Wk P n xs' J' xs'' J''):Wk P n xs J xs'' J'':=by
 intro B w0 w μ vs h1 h2;obtain⟨μ1,h3,h4,h5⟩:=h B w0 w μ vs h1 h2;obtain⟨μ2,h6,h7,h8⟩:=k B w0 w μ1 vs h3 h4;exact⟨μ2,h6,h7,h5.trans h8⟩
theorem b6.wk{P:Program}{n:Nat}{c:bD}{K:Exit→St→Prop}{fr fr':List V}{J J':ae}(h:Wk P n fr J fr' J')(k:b6 n P c K ⟨fr',J'⟩):b6 n P c K ⟨fr,J⟩:=by
 intro code hc B w0 w μ a hS hF;obtain⟨μ',h1,h2,h3⟩:=h B w0 w μ a.tmps hS ⟨hF.2.1.symm,hF.2.2⟩;exact wp_mono (k code hc B w0 w μ' a h1 ⟨hF.1,h2.1.symm,h2.2⟩) fun e a' w' ⟨st',μ2,h4,h5,h6,h7⟩=>⟨st',μ2,h4,h5,h6,h3.trans h7⟩
theorem PC.wk{P:Program}{f:Nat}{args args':List V}{J J':ae}{Q:V→ae→Prop}(h:Wk P J.length args J args' J')(k:PC P f args' J' Q):PC P f args J Q:=by
 intro B w0 w μ vs hS hv;obtain⟨μ',h1,h2,h3⟩:=h B w0 w μ vs hS ⟨hv.1.symm,hv.2⟩;refine(k B w0 w μ' vs h1 ⟨h2.1.symm,h2.2⟩).mono ?_;rintro e w' ⟨r,v,σ2,μ2,rfl,h4,h5,h6,h7⟩;exact⟨r,v,σ2,μ2,rfl,h4,h5,h6,fun x u hx=>h7 x u (h3 x u hx hx.lt)⟩
inductive Cv:V→V→Prop
 | refl (x):Cv x x
 | forget (x):Cv x .u
 | nil (sz):Cv .nil (.sl sz [])
 | lit (sz xs):Cv (.lit sz xs) (.sl sz xs)
 | agg (xs ys:List V) (hl:ys.length=xs.length) (h:∀ (i:Nat) (x y:V),xs[i]?=some x→ys[i]?=some y→Cv x y):Cv (.agg xs) (.agg ys)
 | fi (xs ys:List V) (hl:ys.length=xs.length) (h:∀ (i:Nat) (x y:V),xs[i]?=some x→ys[i]?=some y→Cv x y):Cv (.fi xs) (.fi ys)
theorem Cv.ok{w:World}{J:ae}{μ:Mem}{x y:V}(h:Cv x y):∀ {v:Value},VR w J μ x v→VR w J μ y v:=by
 induction h with
 | refl x=>exact fun h=>h
 | forget x=>exact fun _=>.u _
 | nil sz=>intro v h;rw[h.lp];exact .Ae _
 | lit sz xs =>
  intro v h;rcases h.ny with⟨rfl,rfl⟩ | ⟨b,o,f,rfl,hm,hr⟩
  ·exact .Ae _
  ·exact .sl _ _ b o _ f (aq _) hm hr.1 hr.2.1 hr.2.2
 | agg xs ys hl hc ih =>
  intro v h;obtain⟨vs,rfl,h1,h2⟩:=h.gr;refine .agg ys vs (by rw[hl,h1]) fun i y hy=>?_;have hi:i<xs.length:=by rw[← hl];exact(ab.1 hy).1
  exact ih i xs[i] y (ak hi) hy (h2 i _ (ak hi))
 | fi xs ys hl hc ih =>
  intro v h;obtain⟨vs,rfl,h1,h2⟩:=h.Db;refine .fi ys vs (by rw[hl,h1]) fun i y hy=>?_;have hi:i<xs.length:=by rw[← hl];exact(ab.1 hy).1
  exact ih i xs[i] y (ak hi) hy (h2 i _ (ak hi))
inductive nU:List V→List V→Prop
 | nil:nU [] []
 | cons {x y xs ys} (h:Cv x y) (t:nU xs ys):nU (x::xs) (y::ys)
theorem nU.at{xs ys:List V}(h:nU xs ys):ys.length=xs.length∧∀ (i:Nat) (x y:V),xs[i]?=some x→ys[i]?=some y→Cv x y:=by
 induction h with
 | nil=>simp
 | cons h t ih =>
  refine⟨by simp[ih.1],fun i x y hx hy=>?_⟩;cases i with
  | zero=>simp only[aw,aa]at hx hy;subst hx;subst hy;exact h
  | succ i=>exact ih.2 i x y (by simpa using hx) (by simpa using hy)
theorem nU.refl(xs:List V):nU xs xs:=by
 induction xs with
 | nil=>exact .nil
 | cons x xs ih=>exact .cons (.refl x) ih
theorem Cv.Pw{xs ys:List V}(h:nU xs ys):Cv (.agg xs) (.agg ys):=.agg xs ys h.at.1 h.at.2
theorem Wk.gA{P:Program}{n:Nat}{xs ys:List V}{J:ae}(h:nU xs ys):Wk P n xs J ys J:=by
 intro B w0 w μ vs hS hC;obtain⟨h1,h2⟩:=h.at;refine⟨μ,hS,⟨by rw[h1];exact hC.1,fun i y hy=>?_⟩,eD.refl _ _ _ _⟩;have hi:i<xs.length:=by rw[← h1];exact(ab.1 hy).1
 exact(h2 i xs[i] y (ak hi) hy).ok (hC.2 i _ (ak hi))
theorem Wk.share{P:Program}{n:Nat}{xs:List V}{J:ae}{id E sz by' g:Nat}{sh:Bool}{rows:List (List V)}(ho:J[id]?=some (.row E sz by' g sh rows)):Wk P n xs J xs (J.set id (.row E sz by' g true rows)):=by
 intro B w0 w μ vs hS hC;have dc:id<J.length:=(ab.1 ho).1
 have nW:=hS.update (w':=w) (J':=J.set id (.row E sz by' g true rows)) (μ':=μ) id none (grownBy_refl w none) (by simp) (by simp) (fun j hj=>aJ (fun e=>hj e.symm)) (fun _ _=>rfl)
  (fun b hb=>.inl ⟨_,ho,by simp,hb⟩)
  (fun b off u o h1 _ h2 h3 h4=>⟨h3,fun o' h5 h6=>by
   rw[ho]at h1;simp only[aa]at h1;subst h1;simp only[ar dc,aa]at h5;subst h5;intro hw;exact h4 ⟨id,_,ho,h2,fun _=>hw rfl⟩⟩)
  (fun T cs h=>by rw[ho]at h;simp at h) (fun K E es h=>by rw[ho]at h;simp at h)
  (fun E2 sz2 by2 g2 sh2 xs2 _ h=>by
   simp only[ar dc,aa,Ob.row.injEq]at h;obtain⟨rfl,rfl,rfl,rfl,rfl,rfl⟩:=h;exact⟨g,sh,rows,ho,aq _,fun _=>⟨rfl,rfl⟩⟩)
  (fun hp o h=>by
   simp only[ar dc,aa]at h;subst h;exact(hS.obj id _ ho).eH hp.eH fun _ _=>rfl)
 exact⟨μ,nW.1,⟨hC.1,fun i x hx=>(hC.2 i x hx).mono nW.2⟩,nW.2.eH.Ma⟩
theorem VR.tD{P:Program}{B:Nat}{w0 w:World}{J:ae}{μ:Mem}(hS:fx P B w0 w J μ){id E sz by' g:Nat}{rows:List (List V)}(ho:J[id]?=some (.row E sz by' g true rows))(lo hi:Nat)(hlh:lo≤hi)(hh:hi≤rows.length):
  VR w J μ (.sl sz ((rows.drop lo).take (hi - lo))) (kO (μ id) lo hi sz):=by
 obtain⟨_,cq,hr⟩:=hS.rowAt ho;have hl:((rows.drop lo).take (hi - lo)).length=hi - lo:=by simp;omega
 rcases hr with⟨hm,hn⟩ | ⟨b,cap,cur,hm,_,hc,DJ,_,hr⟩
 ·subst hn;simp only[aC]at hh;have h3:lo=0:=by omega
  have h4:hi=0:=by omega
  subst h3;subst h4;rw[hm];exact .Ae sz
 ·rw[hm];let f:Nat→Nat→Value:=fun i j=>(w.cell? ⟨b,i*sz+j,none⟩).getD undef
  have hf:∀ i j x,eS rows i j=some x→w.cell? ⟨b,i*sz+j,none⟩=some (f i j)∧x.pure=true∧VR w J μ x (f i j):=by
   intro i j x hx;obtain⟨h1,u,h2,h3⟩:=hr i j x hx;have:f i j=u:=by simp[f,h2]
   exact⟨by rw[this];exact h2,h1,by rw[this];exact h3⟩
  have hnw:∀ i j x,eS rows i j=some x→¬ wr J μ b (i*sz+j):=by
   rintro i j x hx ⟨id2,o2,h1,h2,h3⟩;have hd:o2≠.dead:=by rintro rfl;exact h3
   have:=hS.sep id id2 _ o2 b ho h1 (by simp) hd (by simp[hm,ic]) h2;subst this;rw[ho]at h1;simp only[aa]at h1;subst h1;have h4:=h3 rfl;obtain⟨r,S2,s6⟩:=ie hx;have hi':i<rows.length:=(ab.1 S2).1;have hj:j<sz:=by rw[← cq r (aT S2)];exact(ab.1 s6).1
   have:(i+1)*sz≤rows.length*sz:=bM _ hi';rw[cD,gy]at this;omega
  have eA:mQ w J μ rows sz b 0 f:=⟨cq,fun i j x hx=>⟨by rw[bz];exact(hf i j x hx).1,by rw[bz];exact hnw i j x hx,(hf i j x hx).2.1⟩,fun i j x hx=>(hf i j x hx).2.2⟩
  by_cases he:cap=lo
  ·have h3:hi - lo=0:=by omega
   simp only[kO,he,aL,h3,lj,eJ];exact .sl sz [] b 0 0 f (by simp) (by simp) (by simp) (by simp[eS]) (by simp[eS])
  ·simp only[kO,he,aK,bK,Addr.add_lit];have h5:=eA.sub lo (hi - lo);have h6:=VR.sl (w:=w) (J:=J) (μ:=μ) sz _ b _ (cap - lo) _ (by rw[hl];omega) (by omega) h5.1 h5.2.1 h5.2.2
   rwa [hl]at h6
theorem D9{P:Program}{B:Nat}{w0 w:World}{J:ae}{μ:Mem}(hS:fx P B w0 w J μ){id E sz by' g:Nat}{sh:Bool}{rows:List (List V)}(ho:J[id]?=some (.row E sz by' g sh rows)):kO (μ id) 0 rows.length sz=μ id:=by
 rcases(hS.rowAt ho).2.2 with⟨hm,hn⟩ | ⟨b,cap,cur,hm,_⟩
 ·subst hn;rw[hm];rfl
 ·rw[hm];simp[kO,Addr.add_lit]
theorem Wk.own{P:Program}{n:Nat}{xs:List V}{J:ae}{k id E sz by' g:Nat}{rows:List (List V)}(ho:J[id]?=some (.row E sz by' g true rows))(hk:xs[k]?=some (.own id g)):Wk P n xs J (xs.set k (.sl sz rows)) J:=by
 intro B w0 w μ vs hS hC;have dc:k<xs.length:=(ab.1 hk).1;refine⟨μ,hS,⟨by simp[hC.1],fun i y hy=>?_⟩,eD.refl _ _ _ _⟩
 by_cases hi:i=k
 ·subst hi;rw[ar dc]at hy;simp only[aa]at hy;subst hy;have h1:=hC.2 i _ hk;have h2:=h1.jP ho;rw[h2];have:=VR.tD hS ho 0 rows.length (by omega) (aq _);rw[D9 hS ho]at this;simpa using this
 ·rw[aJ (fun e=>hi e.symm)]at hy;exact hC.2 i y hy
theorem Wk.sub{P:Program}{n:Nat}{xs:List V}{J:ae}{k id E sz by' g lo hi:Nat}{rows:List (List V)}(ho:J[id]?=some (.row E sz by' g true rows))(hk:xs[k]?=some (.sub id g lo hi)):Wk P n xs J (xs.set k (.sl sz ((rows.drop lo).take (hi - lo)))) J:=by
 intro B w0 w μ vs hS hC;have dc:k<xs.length:=(ab.1 hk).1;refine⟨μ,hS,⟨by simp[hC.1],fun i y hy=>?_⟩,eD.refl _ _ _ _⟩
 by_cases hi:i=k
 ·subst hi;rw[ar dc]at hy;simp only[aa]at hy;subst hy;obtain⟨h1,h2,h3⟩:=(hC.2 i _ hk).pc ho;rw[h3];exact VR.tD hS ho lo _ h1 h2
 ·rw[aJ (fun e=>hi e.symm)]at hy;exact hC.2 i y hy
theorem Wk.iy{P:Program}{n:Nat}{xs:List V}{J:ae}{k E sz by':Nat}(hT:Ti P E sz by')(hk:xs[k]?=some .nil):Wk P n xs J (xs.set k (.own J.length 0)) (J++[.row E sz by' 0 false []]):=by
 intro B w0 w μ vs hS hC;have dc:k<xs.length:=(ab.1 hk).1;have hn:=hS.pB (w':=w) (.row E sz by' 0 false []) (.slice none 0 0) (grownBy_refl w none) (by simp[ic]) (fun _=>⟨hT,[],World.ownsRow_nil w B E sz,by simp,by simp[eS]⟩);refine⟨_,hn.1,⟨by simp[hC.1],fun i y hy=>?_⟩,hn.2.eH.Ma⟩
 by_cases hi:i=k
 ·subst hi;rw[ar dc]at hy;simp only[aa]at hy;subst hy;rw[(hC.2 i _ hk).lp];have:=VR.nN (w:=w) (J:=J++[.row E sz by' 0 false []]) (μ:=pT μ J.length (.slice none 0 0)) (id:=J.length) (E:=E) (sz:=sz) (by':=by') (g:=0) (sh:=false) (xs:=[]) (by simp)
  rwa [dU]at this
 ·rw[aJ (fun e=>hi e.symm)]at hy;exact(hC.2 i y hy).mono hn.2
theorem jL{x:V}(h:x.pure=true)(m:Nat):x.Lt m:=by
 cases x<;>simp[V.pure]at h
 ·exact .b _
 ·exact .i _ _
 ·exact .s _
 ·exact .sl _ _
theorem VR.take{w:World}{J:ae}{μ:Mem}{x:V}{v:Value}(h:VR w J μ x v){m:Nat}(hm:m≤J.length)(hx:x.Lt m):VR w (J.take m) μ x v:=by
 have hw:∀ b off,wr (J.take m) μ b off→wr J μ b off:=by
  rintro b off ⟨id,o,h1,h2,h3⟩;refine⟨id,o,?_,h2,h3⟩;rw[sZ]at h1;split at h1
  ·exact h1
  ·simp at h1
 have eA:∀ {id:Nat} {o:Ob},id<m→((J.take m)[id]?=some o↔J[id]?=some o):=fun h=>by rw[bg h]
 have hlen:(J.take m).length=m:=by simp;omega
 induction h with
 | u v=>exact .u v
 | b x=>exact .b x
 | i k n=>exact .i k n
 | s l x hl hm=>exact .s l x hl hm
 | nil=>exact .nil
 | Ae sz=>exact .Ae sz
 | sle sz a=>exact .sle sz a
 | sl sz xs b o cap f hlen kV cq hc hv ih =>
  exact .sl sz xs b o cap f hlen kV cq (fun i j x hx=>⟨(hc i j x hx).1,fun h=>(hc i j x hx).2.1 (hw _ _ h),(hc i j x hx).2.2⟩) (fun i j x hx=>ih i j x hx (jL (hc i j x hx).2.2 m))
 | C5 sz=>exact .C5 sz
 | lit sz xs b o f kV cq hc hv ih =>
  exact .lit sz xs b o f kV cq (fun i j x hx=>⟨(hc i j x hx).1,fun h=>(hc i j x hx).2.1 (hw _ _ h),(hc i j x hx).2.2⟩) (fun i j x hx=>ih i j x hx (jL (hc i j x hx).2.2 m))
 | own id g v hid h =>
  cases hx with
  | own _ _ hl=>exact .own id g v (by rw[hlen];exact hl) fun E sz by' g' sh xs ho=>h E sz by' g' sh xs ((eA hl).1 ho)
 | sub id g lo hi v hid h =>
  cases hx with
  | sub _ _ _ _ hl=>exact .sub id g lo hi v (by rw[hlen];exact hl) fun E sz by' g' sh xs ho=>h E sz by' g' sh xs ((eA hl).1 ho)
 | ptr id off b h hm =>
  cases hx with
  | ptr _ _ hl =>
   obtain⟨T,cs,h1⟩:=h;exact .ptr id off b ⟨T,cs,(eA hl).2 h1⟩ hm
 | ep sz xs i off b o f hi cq hc hv ih =>
  exact .ep sz xs i off b o f hi cq (fun j x hx=>⟨(hc j x hx).1,fun h=>(hc j x hx).2.1 (hw _ _ h),(hc j x hx).2.2⟩) (fun j x hx=>ih j x hx (jL (hc j x hx).2.2 m))
 | rp id g i off v hid h =>
  cases hx with
  | rp _ _ _ _ hl=>exact .rp id g i off v (by rw[hlen];exact hl) fun E sz by' g' sh xs ho=>h E sz by' g' sh xs ((eA hl).1 ho)
 | mp id r h hm =>
  cases hx with
  | mp _ hl =>
   obtain⟨K,E,es,h1⟩:=h;exact .mp id r ⟨K,E,es,(eA hl).2 h1⟩ hm
 | it id v h hm =>
  cases hx with
  | it _ hl =>
   obtain⟨st,m',E,n,ps,c,h1⟩:=h;exact .it id v ⟨st,m',E,n,ps,c,(eA hl).2 h1⟩ hm
 | pM id n b h hm =>
  cases hx with
  | pM _ _ hl =>
   obtain⟨T,cs,h1⟩:=h;exact .pM id n b ⟨T,cs,(eA hl).2 h1⟩ hm
 | dC=>exact .dC
 | fL=>exact .fL
 | fn f caps vs hl hv ih =>
  cases hx with
  | fn _ _ h=>exact .fn f caps vs hl fun i x hx=>ih i x hx (h i x hx)
 | agg xs vs hl hv ih =>
  cases hx with
  | agg _ h=>exact .agg xs vs hl fun i x hx=>ih i x hx (h i x hx)
 | fi xs vs hl hv ih =>
  cases hx with
  | fi _ h=>exact .fi xs vs hl fun i x hx=>ih i x hx (h i x hx)
theorem tF{x:V}(h:x.ov=true)(m:Nat):x.Lt m:=by
 cases x<;>simp[V.ov]at h
 ·exact .b _
 ·exact .i _ _
 ·exact .s _
 ·rename_i xs;refine .agg _ fun i x hx=>?_;have:=h x (aT hx);cases x<;>simp[V.Kb]at this
  ·exact .b _
  ·exact .i _ _
  ·exact .s _
theorem map_lt{es:List (V×V)}{m:Nat}(h:∀ (j:Nat) (x:V),(es.map (·.2))[j]?=some x→x.Lt m){i:Nat}{k x:V}(hi:es[i]?=some (k,x)):x.Lt m :=
 h i x (by rw[a8,hi];rfl)
theorem u7{P:Program}{B:Nat}{w:World}{J:ae}{μ:Mem}{J':ae}{μ':Mem}{v:Value}{st:Bool}{m E n:Nat}{ps:List Nat}{c:Option Nat}(h:xk P B w J μ v (.iter st m E n ps c))(h1:J'[m]?=J[m]?)(h2:μ' m=μ m):xk P B w J' μ' v (.iter st m E n ps c):=by
 have hl:=ur.same (w:=w) (w':=w) h1 h2 fun _ _=>rfl;cases st
 ·obtain⟨r,bm,since,seen,q1,q2,q3,q5⟩:=h;exact⟨r,bm,since,seen,q1,q2,q3,q5.step hl⟩
 ·obtain⟨born,q1,q2⟩:=h;exact⟨born,q1,q2.step hl⟩
theorem Wk.drop{P:Program}{n m:Nat}{xs:List V}{J:ae}(UJ:n≤m)(hm:m≤J.length)(hx:∀ (i:Nat) (x:V),xs[i]?=some x→x.Lt m)(bj:∀ (id:Nat) (o:Ob),id<m→J[id]?=some o→∀ (j:Nat) (x:V),o.refs[j]?=some x→x.Lt m):Wk P n xs J xs (J.take m):=by
 intro B w0 w μ vs hS hC
 have eA:∀ {id:Nat} {o:Ob},(J.take m)[id]?=some o→id<m∧J[id]?=some o:=by
  intro id o h;rw[sZ]at h;split at h
  ·exact⟨by assumption,h⟩
  ·simp at h
 refine⟨μ,⟨hS.below,hS.base,fun id o ho=>?_,fun i j oi oj b hi hj h1 h2 h3 h4=>hS.sep i j oi oj b (eA hi).2 (eA hj).2 h1 h2 h3 h4⟩,⟨hC.1,fun i x hx'=>(hC.2 i x hx').take hm (hx i x hx')⟩,fun x v hv hl=>hv.take hm (hl.mono UJ)⟩;obtain⟨hid,ho'⟩:=eA ho;have cY:=hS.obj id o ho';cases o with
 | dead=>trivial
 | box T cs =>
  obtain⟨b,us,h1,h2,h3,h4,h5⟩:=cY;exact⟨b,us,h1,h2,h3,h4,fun j x hj=>let ⟨u,h6,h7⟩:=h5 j x hj;⟨u,h6,h7.take hm (bj id _ hid ho' j x hj)⟩⟩
 | row E sz by' g sh rows =>
  obtain⟨h1,vals,h2,h3⟩:=cY;exact⟨h1,vals,h2,h3.1,fun i j x hj=>let ⟨h4,u,h5,h6⟩:=h3.2 i j x hj;⟨h4,u,h5,h6.take hm (jL h4 m)⟩⟩
 | map K E es =>
  obtain⟨r,ents,clock,h1,h2,h3,h4⟩:=cY;exact⟨r,ents,clock,h1,h2,h3,h4.1,fun i k x hi=>let ⟨h5,h6,e,h7,h8,h9⟩:=h4.2.1 i k x hi;⟨h5,h6,e,h7,h8.take hm (tF h5 m),h9.take hm (map_lt (bj id _ hid ho') hi)⟩,h4.2.2⟩
 | iter st m' E n ps c =>
  have dc:m'<m:=by
   have:=bj id _ hid ho' 0 (.mp m') rfl;cases this;assumption
  exact u7 cY (bg dc) rfl
theorem Wk.wF{P:Program}{n:Nat}{xs:List V}{J loc:ae}(hn:n≤J.length)(bj:bG J)(hx:∀ (i:Nat) (x:V),xs[i]?=some x→x.Lt J.length):Wk P n xs (J++loc) xs J:=by
 have:=Wk.drop (P:=P) (n:=n) (m:=J.length) (xs:=xs) (J:=J++loc) hn (by simp) hx (fun id o hid h j x hj=>bj id o (by rwa [ah hid]at h) j x hj);simpa using this
inductive Rs where
 | t (n:Nat)
 | c (n:Nat) (k:Option Nat)
structure b9 where
 nt:Nat
 rs:List Rs
 c:bD
def Tk(P:Program):List ResultVar→Option (List Rs)
 | []=>some []
 | .tmp t::r=>(Tk P r).map (.t t::·)
 | .cell t T::r=>match er P T,P.info? T,Tk P r with
  | some true,some ti,some rs=>some (.c t (some ti.size)::rs)
  | some false,some _,some rs=>some (.c t none::rs)
  | _,_,_=>none
def ca(P:Program)(fn:Func):Option b9 :=
 match fn.body with
 | some code=>match eC P code,Tk P fn.results.toList with
  | some c,some rs=>some ⟨fn.ntmps,rs,c⟩
  | _,_=>none
 | none=>none
def sA(st:St):Rs→Option V
 | .t n=>some (st.fr.getD n .u)
 | .c n k=>match st.fr.getD n .u with
  | .ptr id off=>match st.J[id]? with
   | some (.box _ cs)=>match k with
    | none=>cs[off]?
    | some m=>if off+m≤cs.length then some (.agg ((cs.drop off).take m))else none
   | _=>none
  | _=>none
def jt(st:St):List Rs→Option (List V)
 | []=>some []
 | r::rs=>match sA st r,jt st rs with
  | some x,some xs=>some (x::xs)
  | _,_=>none
def one:List V→V
 | [x]=>x
 | xs=>.fi xs
def qd(P:Program)(n:Nat)(rs:List Rs)(Q:V→ae→Prop)(e:Exit)(st:St):Prop :=
 (e=.normal∨e=.ret)∧∃ xs,jt st rs=some xs∧∃ r J',Wk P n [one xs] st.J [r] J'∧Q r J'
def GQ(tmps:Array Value):ResultVar→Sem Value
 | .tmp t=>pure (tmps.getD t undef)
 | .cell a t=>do loadVar t (← asAddr (tmps.getD a undef))
theorem GP(fn:Func)(tmps:Array Value):results fn tmps=(do let vs ← fn.results.mapM (GQ tmps);pure (if h:vs.size=1 then vs[0]else .tuple vs)):=rfl
theorem vN{P:Program}{B:Nat}{w0 w:World}{st:St}{μ:Mem}{a:Act}(hS:fx P B w0 w st.J μ)(hF:FR w st.J μ st.fr a):∀ (l:List ResultVar) (rs:List Rs) (xs:List V),Tk P l=some rs→jt st rs=some xs →
  ∃ vs:List Value,(l.mapM (GQ a.tmps)).run P w=.ok vs w∧vs.length=xs.length∧∀ (i:Nat) (x:V),xs[i]?=some x→VR w st.J μ x (vs.getD i undef)
 | [],rs,xs,hc,hx=>by
  simp only[Tk,aa]at hc;subst hc;simp only[jt,aa]at hx;subst hx;exact⟨[],by simp,rfl,by simp⟩
 | r::l,rs,xs,hc,hx=>by
  have key:∃ r' rs',rs=r'::rs'∧Tk P l=some rs'∧∀ x,sA st r'=some x→∃ v,(GQ a.tmps r).run P w=.ok v w∧VR w st.J μ x v:=by
   cases r with
   | tmp t =>
    simp only[Tk,aj]at hc;obtain⟨rs',h1,rfl⟩:=hc;refine⟨.t t,rs',rfl,h1,fun x h=>⟨_,rfl,?_⟩⟩;simp only[sA,aa]at h;subst h;exact hF.at t
   | cell t T =>
    simp only[Tk]at hc
    have inner:∀ (g:Bool) (ti:TypeInfo),er P T=some g→P.info? T=some ti→∀ x,sA st (.c t (if g then some ti.size else none))=some x→∃ v,(do loadVar T (← asAddr (a.tmps.getD t undef)):Sem Value).run P w=.ok v w∧VR w st.J μ x v:=by
     intro g ti hg SV x h;simp only[sA]at h;split at h
     ·rename_i id off hp;have h1:=hp▸hF.at t;obtain⟨b,hm,hv,_⟩:=h1.nw;split at h
      ·rename_i T' cs hb;obtain⟨b',vs,hm',hB,hh,fw,mi⟩:=hS.JF hb;rw[hm]at hm';simp only[Value.pointer.injEq,aa,Addr.mk.injEq,fq]at hm';subst hm';have hl:=E5 (P:=P) (J:=st.J) (μ:=μ) (row:=cs) (k:=if g then some ti.size else none) (b:=b) (off:=off) SV (Fg hg) off (fun j z hz=>mi _ z hz)
       have he:(do loadVar T (← asAddr (a.tmps.getD t undef)):Sem Value).run P w=(Instr.loadAt T (.pointer (some ⟨b,off,none⟩))).run P w:=by
        rw[hv];rfl
       rw[he];cases g
       ·simp only[aF,aK]at h hl;exact hl.1 trivial x h
       ·simp only[aL]at h hl;split at h<;>simp only[aa,reduceCtorEq]at h;rename_i hle;subst h;exact hl.2 _ rfl hle
      ·simp at h
     ·simp at h
    split at hc<;>simp only[aa,reduceCtorEq]at hc
    ·rename_i ti rs' hg SV h1;exact⟨_,rs',hc.symm,h1,fun x h=>inner true ti hg SV x h⟩
    ·rename_i ti rs' hg SV h1;exact⟨_,rs',hc.symm,h1,fun x h=>inner false ti hg SV x h⟩
  obtain⟨r',rs',rfl,h1,h2⟩:=key;simp only[jt]at hx;split at hx<;>simp only[aa,reduceCtorEq]at hx;rename_i x ys xa xF;subst hx;obtain⟨v,h3,h4⟩:=h2 x xa;obtain⟨vs,h5,h6,h7⟩:=vN hS hF l rs' ys h1 xF;refine⟨v::vs,?_,by simp[h6],fun i y hy=>?_⟩
  ·simp only[List.mapM_cons,Sem.run_bind,h3,Result.andThen_ok,h5,Sem.run_pure]
  ·cases i with
   | zero=>simp only[aw,aa]at hy;subst hy;simpa using h4
   | succ i=>simpa using h7 i y (by simpa using hy)
theorem PC.intro{P:Program}{f:Nat}{fn:Func}{pf:b9}{args:List V}{J:ae}{Q:V→ae→Prop}(hf:P.funcs[f]?=some fn)(hc:ca P fn=some pf)
  (h:bG J→(∀ (i:Nat) (x:V),args[i]?=some x→x.Wf∧x.Lt J.length)→b6 J.length P pf.c (qd P J.length pf.rs Q) ⟨args++List.replicate (pf.nt - args.length) .u,J⟩):PC P f args J Q:=by
 unfold ca at hc;split at hc
 ·rename_i code hb;split at hc<;>simp only[aa,reduceCtorEq]at hc;rename_i c rs y9 SZ;subst hc;intro B w0 w μ vs hS hv;refine calls_of_wp hf hb ?_
  have hF:FR w J μ (args++List.replicate (fn.ntmps - args.length) .u) { tmps:=vs++Array.replicate (fn.ntmps - vs.size) undef,defers:=[] }:=by
   refine⟨rfl,by simp[hv.1],fun i x hx=>?_⟩
   by_cases hi:i<args.length
   ·rw[ah hi]at hx;have h1:=hv.2 i x hx;have Hz:i<vs.size:=by rw[hv.1];exact hi
    have e:(vs++Array.replicate (fn.ntmps - vs.size) undef).getD i undef=vs.getD i undef:=by
     simp only[bh,fQ Hz]
    simp only[e];exact h1
   ·rw[aA (by omega)]at hx
    have:x=.u:=by
     have:=(ab.1 hx).2;simpa using this.symm
    subst this;exact .u _
  refine wp_mono (h hS.closed (fun i x hx=>⟨(hv.2 i x hx).wf,(hv.2 i x hx).lt⟩) code y9 B w0 w μ _ hS hF) ?_;rintro e a' w' ⟨st',μ',hK,hS',hF',hk⟩;obtain⟨he,xs,ux,r,J',hw,hQ⟩:=hK;obtain⟨us,h1,h2,h3⟩:=vN hS' hF' fn.results.toList rs xs SZ ux
  have abz:∃ v,(results fn a'.tmps).run P w'=.ok v w'∧VR w' st'.J μ' (one xs) v:=by
   have hr:(results fn a'.tmps).run P w'=.ok (if h:us.toArray.size=1 then us.toArray[0]else .tuple us.toArray) w':=by
    rw[GP,Array.mapM_eq_mapM_toList];simp only[Sem.run_bind,Sem.run_map,h1,Result.andThen_ok,Sem.run_pure]
   refine⟨_,hr,?_⟩
   match xs,us,h2,h3 with
   | [x],[u],_,h3=>have:=h3 0 x rfl;exact this
   | [],[],_,_=>exact .fi [] #[] rfl (by simp)
   | x::y::xs,u::v::us,h2,h3 =>
    have gv:¬ ((u::v::us).toArray.size=1):=by simp
    rw[dif_neg gv]
    exact .fi _ _ (by simpa using h2.symm) fun i z hz=>by
     have:=h3 i z hz;simpa[an]using this
  obtain⟨v,hr,hv'⟩:=abz
  obtain⟨μ2,h4,h5,h6⟩:=hw B w0 w' μ' #[v] hS' ⟨rfl,fun i x hx=>by
   cases i with
   | zero=>simp only[aw,aa]at hx;subst hx;simpa using hv'
   | succ i=>simp at hx⟩
  have xf:∃ r v_1 J' μ',Ending.returned v=.returned v_1∧Q r J'∧fx P B w0 w' J' μ'∧VR w' J' μ' r v_1∧lJ w J μ w' J' μ' :=
   ⟨r,v,J',μ2,rfl,hQ,h4,by have:=h5.2 0 r rfl;simpa using this,fun x u hx=>h6 x u (hk x u hx hx.lt) hx.lt⟩
  rcases he with rfl | rfl
  ·exact⟨hF'.1,v,hr,xf⟩
  ·exact⟨hF'.1,v,hr,xf⟩
 ·simp at hc
end Go.Pm

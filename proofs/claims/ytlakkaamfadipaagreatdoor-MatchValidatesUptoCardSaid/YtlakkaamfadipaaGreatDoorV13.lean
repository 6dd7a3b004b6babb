/- A part of a proof; the claim's last text says of what. -/
import Derived.Test.YtlakkaamfadipaaGreatDoorV12
set_option linter.all false

namespace Go.Pm
open Go Go.RowKit
def Cx(o:Oper)(j:Nat):Oper:={ o with after:=o.after.push { on:=j,ground:=.data } }
def waitsFor(ops:Array Oper)(i j:Nat):Array Oper:=ops.mapIdx fun k o=>if k=i then Cx o j else o
theorem gP(ops:Array Oper)(i j:Nat):(waitsFor ops i j).size=ops.size:=by simp[waitsFor]
theorem oz(ops:Array Oper)(i j k:Nat):(waitsFor ops i j)[k]?=(ops[k]?).map fun o=>if k=i then Cx o j else o:=by
 simp[waitsFor]
theorem gi{md:Region.Mode}{ops:Array Oper}{listed:Array Bool}{i j x:Nat}:x∈Region.ready md (waitsFor ops i j) listed↔x∈Region.ready md ops listed∧(x=i→listed.getD j false=true):=by
 simp only[Region.ready,cU,cA,gP,oz];rw[and_assoc];refine and_congr_right fun hx=>?_;have ho:ops[x]?=some ops[x]:=bc hx;simp only[ho,bY,fB]
 by_cases Gu:x=i
 ·subst Gu;have hb:Region.binds md { on:=j,ground:=Ground.data }=true:=rfl;simp only[aO,Cx,Array.all_push,hb,eB,im,aG,forall_const];constructor
  ·rintro⟨h1,h2,h3⟩;exact⟨⟨h1,h2⟩,h3⟩
  ·rintro⟨⟨h1,h2⟩,h3⟩;exact⟨h1,h2,h3⟩
 ·simp only[Gu,aJ,uY,fA]
theorem zx(ops:Array Oper)(i j:Nat)(tmps:Array Value):yielded (waitsFor ops i j) tmps=yielded ops tmps:=by
 funext k;simp only[yielded,oz];cases ops[k]? with
 | none=>rfl
 | some o =>
  simp only[bY,gv]
  by_cases h:k=i<;>simp[h,Cx]
section
variable {P:Program} {Q:Exit→Act→World→Prop}
theorem oy{ops:Array Oper}{i j x:Nat}{K:Act→World→Prop}{a:Act}{w:World}:wpOp P (waitsFor ops i j) Q x K a w↔wpOp P ops Q x K a w:=by
 simp only[wpOp,oz,zx];cases ops[x]? with
 | none=>exact C4
 | some o =>
  simp only[bY]
  by_cases h:x=i
  ·simp only[h,aO];exact C4
  ·simp only[h,aJ]
def na:Op→Bool
 | .move _ | .assign _ | .alloc _ | .box _ _ | .load _ _ | .store _ _ _ | .fieldAddr _ _ _=>true
 | _=>false
theorem FJ{s:Sem Value}{w w':World}{n:Next}(h:(do pure (Next.value (← s)):Sem Next).run P w=.ok n w'):∃ v,n=.value v:=by
 rw[Sem.run_bind]at h;cases hs:s.run P w with
 | ok v w1 =>
  rw[hs]at h;simp only[Result.andThen_ok,Sem.run_pure,Result.ok.injEq]at h;exact⟨v,h.1.symm⟩
 | halt x w1=>rw[hs]at h;simp[Result.andThen]at h
theorem Ji{s:Sem Unit}{w w':World}{n:Next}(h:(do s;pure Next.skip:Sem Next).run P w=.ok n w'):n=.skip:=by
 rw[Sem.run_bind]at h;cases hs:s.run P w with
 | ok v w1 =>
  rw[hs]at h;simp only[Result.andThen_ok,Sem.run_pure,Result.ok.injEq]at h;exact h.1.symm
 | halt x w1=>rw[hs]at h;simp[Result.andThen]at h
theorem GX{o:Oper}{ρ:Operand→Value}{w w':World}{n:Next}(hp:na o.op=true)(h:(execOp ρ o).run P w=.ok n w'):(∃ v,n=.value v)∨n=.skip:=by
 obtain⟨d,op,t,p,af,g⟩:=o;simp only at hp;cases op<;>simp only[na,aA]at hp
 all_goals simp only[execOp]at h
 all_goals first
  | exact .inl (FJ h)
  | exact .inr (Ji h)
  | (simp only[Sem.run_pure,Result.ok.injEq]at h;exact .inl ⟨_,h.1.symm⟩)
theorem SZ{o:Oper}(hp:na o.op=true){a:Act}{w:World}{K1 K2:Act→World→Prop}(h1:o.wp P a w K1 Q)(h2:o.wp P a w K2 Q):o.wp P a w (fun a w=>K1 a w∧K2 a w) Q:=by
 unfold Oper.wp at *;generalize hr:(execOp a.eval o).run P w=r at *;cases r with
 | ok n w' =>
  rcases GX hp hr with⟨v,rfl⟩ | rfl
  ·exact⟨h1,h2⟩
  ·exact⟨h1,h2⟩
 | halt x w'=>cases x<;>simp only[Oper.upon]at h1 h2 ⊢<;>exact h1
theorem LK{ops:Array Oper}{x:Nat}(hp:∀ o,ops[x]?=some o→na o.op=true){K1 K2:Act→World→Prop}{a:Act}{w:World}(h1:wpOp P ops Q x K1 a w)(h2:wpOp P ops Q x K2 a w):
  wpOp P ops Q x (fun a w=>K1 a w∧K2 a w) a w:=by
 unfold wpOp at *;cases ho:ops[x]? with
 | none=>simp only[ho]at h1 h2 ⊢;exact⟨h1,h2⟩
 | some o =>
  simp only[ho]at h1 h2 ⊢;split
  ·rename_i hw;simp only[hw,aO]at h1 h2;rcases h1 with h1 | h1
   ·rcases h2 with h2 | h2
    ·exact .inl (SZ (hp o ho) h1 h2)
    ·exact .inr h2
   ·exact .inr h1
  ·rename_i hw;simp only[hw]at h1 h2;exact⟨h1,h2⟩
theorem pc{md:Region.Mode}{ops:Array Oper}{i j:Nat}:∀ (fuel:Nat) (listed:Array Bool) (a:Act) (w:World),listed.getD j false=true→wpAny P md (waitsFor ops i j) Q fuel listed a w→wpAny P md ops Q fuel listed a w:=by
 intro fuel
 induction fuel with
 | zero =>
  intro listed a w hj h;refine⟨?_,h.2⟩;refine bQ.2 fun x hx=>?_;exact bQ.1 h.1 x (gi.2 ⟨hx,fun _=>hj⟩)
 | succ fuel ih =>
  intro listed a w hj h;refine⟨fun hn=>h.1 (bQ.2 fun x hx=>bQ.1 hn x (gi.1 hx).1),fun x hx=>?_⟩;have:=h.2 x (gi.2 ⟨hx,fun _=>hj⟩);rw[oy]at this;refine wpOp_mono (fun a w hk=>ih _ a w ?_ hk) this;simp only[bl]at hj ⊢
  by_cases Vm:x=j
  ·subst Vm
   by_cases hs:x<listed.size
   ·simp[qz,hs]
   ·rw[ka (by omega)]at hj;simp at hj
  ·rw[cd Vm];exact hj
theorem C8{md:Region.Mode}{ops:Array Oper}{i j:Nat}(GC:i≠j)(hp:∀ x o,x≠i→x≠j→ops[x]?=some o→na o.op=true):
  ∀ (fuel:Nat) (listed:Array Bool) (a:Act) (w:World),listed.size=ops.size→i<ops.size→j<ops.size→wpAny P md (waitsFor ops i j) Q fuel listed a w→wpAny P md (waitsFor ops j i) Q fuel listed a w→wpAny P md ops Q fuel listed a w:=by
 intro fuel
 induction fuel with
 | zero =>
  intro listed a w fE hi hj h1 h2;refine⟨?_,h1.2⟩;refine bQ.2 fun x hx=>?_
  by_cases vV:x=i
  ·exact bQ.1 h2.1 x (gi.2 ⟨hx,fun e=>absurd (vV.symm.trans e) GC⟩)
  ·exact bQ.1 h1.1 x (gi.2 ⟨hx,fun e=>absurd e vV⟩)
 | succ fuel ih =>
  intro listed a w fE hi hj h1 h2;refine⟨fun hn=>h1.1 (bQ.2 fun x hx=>bQ.1 hn x (gi.1 hx).1),fun x hx=>?_⟩
  by_cases vV:x=i
  ·have:=h2.2 x (gi.2 ⟨hx,fun e=>absurd (vV.symm.trans e) GC⟩);rw[oy]at this;refine wpOp_mono (fun a w hk=>pc fuel _ a w ?_ hk) this;subst vV;simp[bl,qz,fE,hi]
  ·by_cases Il:x=j
   ·have:=h1.2 x (gi.2 ⟨hx,fun e=>absurd e vV⟩);rw[oy]at this;refine wpOp_mono (fun a w hk=>pc fuel _ a w ?_ hk) this;subst Il;simp[bl,qz,fE,hj]
   ·have k1:=h1.2 x (gi.2 ⟨hx,fun e=>absurd e vV⟩);have k2:=h2.2 x (gi.2 ⟨hx,fun e=>absurd e Il⟩);rw[oy]at k1 k2;refine wpOp_mono (fun a w hk=>ih _ a w (by simp[fE]) hi hj hk.1 hk.2) (LK (fun o ho=>hp x o vV Il ho) k1 k2)
end
def sw(i j k:Nat):Nat:=if k=i then j else if k=j then i else k
theorem xc(i j k:Nat):sw i j (sw i j k)=k:=by
 simp only[sw]
 (repeat' split)<;>omega
theorem As{i j k n:Nat}(hi:i<n)(hj:j<n):sw i j k<n↔k<n:=by
 simp only[sw]
 (repeat' split)<;>omega
def DC(i j:Nat)(o:Oper):Oper:={ o with after:=o.after.map fun e=>{ e with on:=sw i j e.on },guard:=o.guard.map fun g=>(sw i j g.1,g.2) }
def mW(ops:Array Oper)(i j:Nat):Array Oper:=ops.mapIdx fun k o=>DC i j ((ops[sw i j k]?).getD o)
theorem xd(ops:Array Oper)(i j:Nat):(mW ops i j).size=ops.size:=by simp[mW]
theorem ua{ops:Array Oper}{i j:Nat}(hi:i<ops.size)(hj:j<ops.size)(k:Nat):(mW ops i j)[k]?=(ops[sw i j k]?).map (DC i j):=by
 simp only[mW,Ai]
 by_cases hk:k<ops.size
 ·have po:=(As (k:=k) hi hj).2 hk;simp[bc hk,bc po]
 ·have po:¬ sw i j k<ops.size:=fun h=>hk ((As hi hj).1 h);rw[ka (by omega),ka (by omega)];rfl
theorem ON(md:Region.Mode)(e:Edge)(n:Nat):Region.binds md { e with on:=n }=Region.binds md e:=rfl
theorem xz{md:Region.Mode}{ops:Array Oper}{listed listed':Array Bool}{i j:Nat}(hi:i<ops.size)(hj:j<ops.size)(hL:∀ k d,listed'.getD k d=listed.getD (sw i j k) d){x:Nat}:
  x∈Region.ready md (mW ops i j) listed'↔sw i j x∈Region.ready md ops listed:=by
 simp only[Region.ready,cU,cA,xd,ua hi hj,As hi hj,hL];refine and_congr_right fun hx=>?_;have Il:=(As (k:=x) hi hj).2 hx;simp only[bc Il,bY,fB,DC,Array.all_map,Function.comp_def,ON,hL,xc]
theorem Fo{ops:Array Oper}{i j:Nat}(hi:i<ops.size)(hj:j<ops.size)(tmps:Array Value)(k:Nat):yielded (mW ops i j) tmps (sw i j k)=yielded ops tmps k:=by
 simp only[yielded,ua hi hj,xc];cases ops[k]?<;>rfl
section
variable {P:Program} {Q:Exit→Act→World→Prop}
theorem Pr{ops:Array Oper}{i j x:Nat}(hi:i<ops.size)(hj:j<ops.size){K:Act→World→Prop}{a:Act}{w:World}:wpOp P (mW ops i j) Q x K a w↔wpOp P ops Q (sw i j x) K a w:=by
 simp only[wpOp,ua hi hj];cases ops[sw i j x]? with
 | none=>exact C4
 | some o =>
  simp only[bY]
  have hw:Region.wanted (DC i j o) (yielded (mW ops i j) a.tmps)=Region.wanted o (yielded ops a.tmps):=by
   obtain⟨d,op,t,p,af,g⟩:=o;cases g with
   | none=>rfl
   | some g=>simp only[Region.wanted,DC,bY,Fo hi hj]
  rw[hw];exact C4
theorem LL{md:Region.Mode}{ops:Array Oper}{i j:Nat}(hi:i<ops.size)(hj:j<ops.size):∀ (fuel:Nat) (listed listed':Array Bool) (a:Act) (w:World),listed.size=ops.size→listed'.size=ops.size→(∀ k d,listed'.getD k d=listed.getD (sw i j k) d) →
  wpAny P md (mW ops i j) Q fuel listed' a w→wpAny P md ops Q fuel listed a w:=by
 intro fuel
 induction fuel with
 | zero =>
  intro listed listed' a w hs hs' hL h;refine⟨?_,h.2⟩;refine bQ.2 fun x hx=>?_;exact bQ.1 h.1 (sw i j x) ((xz hi hj hL).2 (by rw[xc];exact hx))
 | succ fuel ih =>
  intro listed listed' a w hs hs' hL h;refine⟨fun hn=>h.1 (bQ.2 fun x hx=>bQ.1 hn _ ((xz hi hj hL).1 hx)),fun x hx=>?_⟩;have:=h.2 (sw i j x) ((xz hi hj hL).2 (by rw[xc];exact hx));rw[Pr hi hj,xc]at this
  have qd:x<ops.size:=by
   simp only[Region.ready,cU,cA]at hx;exact hx.1
  refine wpOp_mono (fun a w hk=>ih _ _ a w (by simp[hs]) (by simp[hs']) (fun k d=>?_) hk) this;have h1:=hL k d;simp only[bl]at h1 ⊢;have Il:=(As (k:=x) hi hj).2 qd
  by_cases hk:sw i j x=k
  ·subst hk;rw[xc,Bm (by omega),Bm (by omega)]
  ·have po:x≠sw i j k:=fun e=>hk (by rw[e,xc]);rw[cd hk,cd po];exact h1
theorem BC{ops:Array Oper}{id i j:Nat}{a:Act}{w:World}(hm:P.follows .mixedOrders=true)(GC:i≠j)(hi:i<ops.size)(hj:j<ops.size)(hp:∀ x o,x≠i→x≠j→ops[x]?=some o→na o.op=true)
  (h1:wpAny P .any (waitsFor ops j i) Q ops.size (Array.replicate ops.size false) a { w with drawn:=w.drawn+1 })
  (h2:wpAny P .any (mW (waitsFor ops i j) i j) Q ops.size (Array.replicate ops.size false) a { w with drawn:=w.drawn+1 }):(Code.region id ops true).wp P Q a w:=by
 refine wp_region_any hm (C8 GC hp _ _ _ _ (by simp) hi hj ?_ h1);refine LL (by rw[gP];exact hi) (by rw[gP];exact hj) _ _ _ _ _ (by simp[gP]) (by simp[gP]) (fun k d=>?_) h2;simp only[bl,u0,As hi hj]
end
def Le(J J':ae):Prop:=∀ (id:Nat) (o:Ob),J[id]?=some o→o=Ob.dead∨J'[id]?=some o
section
variable {J J':ae} (h:Le J J')
include h
theorem Le.box{id T:Nat}{cs:List V}(e:J[id]?=some (.box T cs)):J'[id]?=some (.box T cs):=(h id _ e).resolve_left (by simp)
theorem Le.row{id E sz by' g:Nat}{sh:Bool}{xs:List (List V)}(e:J[id]?=some (.row E sz by' g sh xs)):J'[id]?=some (.row E sz by' g sh xs):=(h id _ e).resolve_left (by simp)
theorem Le.map{id K E:Nat}{es:List (V×V)}(e:J[id]?=some (.map K E es)):J'[id]?=some (.map K E es):=(h id _ e).resolve_left (by simp)
theorem Be{x:V}(hx:ff J x=true):ff J' x=true:=by
 unfold ff at hx ⊢
 repeat' split at hx
 all_goals first | (simp at hx;done) | skip
 all_goals first | (rename_i e;simp only[h.row e];exact hx) | rfl
theorem xT{x:V}(hx:fi J x=true):fi J' x=true:=by
 unfold fi at hx ⊢;split at hx
 ·rw[bU]at hx ⊢;exact fun y hy=>Be h (hx y hy)
 ·exact Be h hx
theorem Jp{sz:Nat}{x:V}{r:List (List V)}(hx:rowsOf J sz x=some r):rowsOf J' sz x=some r:=by
 unfold rowsOf at hx ⊢;split at hx<;>(try exact hx)<;>split at hx<;>(try (simp at hx;done))
 all_goals (rename_i e;simp only[h.row e];exact hx)
theorem Gg{kd:Nat}{m k:V}{r:Option (Nat×V)}(hx:cJ J kd m k=some r):cJ J' kd m k=some r:=by
 unfold cJ at hx ⊢;split at hx<;>(try exact hx);split at hx<;>(try (simp at hx;done));rename_i e;simp only[h.map e];exact hx
theorem Ms{fr:List V}{i:I}{ob:Prop}{r:V}(he:aQ fr J i=some (ob,r))(cX:ob):∃ ob',aQ fr J' i=some (ob',r)∧ob':=by
 cases i
 case build zs parts =>
  simp only[aQ]at he ⊢;split at he<;>simp only[aa,an,reduceCtorEq]at he;obtain⟨rfl,rfl⟩:=he;rename_i e;exact⟨_,by simp only[e],fun p hp=>xT h (cX p hp)⟩
 case bL sz szs xs =>
  simp only[aQ,aa,an]at he ⊢;obtain⟨rfl,rfl⟩:=he;exact⟨_,⟨rfl,rfl⟩,fun x hx=>xT h (cX.1 x hx),cX.2⟩
 case load k a =>
  simp only[aQ]at he ⊢;split at he
  ·split at he<;>(try (simp at he;done));rename_i e;simp only[h.box e];exact⟨ob,he,cX⟩
  ·exact⟨ob,he,cX⟩
  ·split at he<;>(try (simp at he;done));rename_i e;simp only[h.row e];exact⟨ob,he,cX⟩
  ·simp at he
 case di x =>
  simp only[aQ]at he ⊢;split at he<;>(try exact⟨ob,he,cX⟩);split at he<;>(try (simp at he;done));rename_i e;simp only[h.row e];exact⟨ob,he,cX⟩
 case fv off x =>
  simp only[aQ]at he ⊢;split at he<;>(try exact⟨ob,he,cX⟩);split at he<;>(try (simp at he;done));rename_i e;simp only[h.row e];exact⟨ob,he,cX⟩
 case C2 x =>
  simp only[aQ]at he ⊢;split at he<;>(try (simp at he;done));rename_i e;simp only[Jp h e];exact⟨ob,he,cX⟩
 case look kd z ok m k =>
  simp only[aQ]at he ⊢;split at he<;>(try (simp at he;done))
  all_goals (rename_i e;simp only[Gg h e];exact⟨ob,he,cX⟩)
 case xY x =>
  simp only[aQ]at he ⊢;split at he<;>(try exact⟨ob,he,cX⟩);split at he<;>(try (simp at he;done));rename_i e;simp only[h.map e];exact⟨ob,he,cX⟩
 case KN x =>
  simp only[aQ]at he ⊢;split at he<;>(try (simp at he;done));split at he<;>(try (simp at he;done));rename_i e1;split at he<;>(try (simp at he;done));rename_i e2;simp only[(h _ _ e1).resolve_left (by simp),h.map e2];exact⟨ob,he,cX⟩
 case len str x =>
  cases str
  ·simp only[aQ]at he ⊢;split at he<;>(try exact⟨ob,he,cX⟩)
   all_goals
    split at he<;>(try (simp at he;done));rename_i e;simp only[h.row e];exact⟨ob,he,cX⟩
  ·exact⟨ob,he,cX⟩
 case idx sz x i =>
  simp only[aQ]at he ⊢;split at he<;>(try (simp at he;done));split at he<;>(try exact⟨ob,he,cX⟩)
  all_goals
   split at he<;>(try (simp at he;done));rename_i e;simp only[h.row e];exact⟨ob,he,cX⟩
 case slice sz x lo hi =>
  by_cases hx:∃ id g,ev fr x=.own id g
  ·obtain⟨id,g,hx⟩:=hx;simp only[aQ,hx]at he ⊢;cases hs:J[id]? with
   | none=>simp[hs]at he
   | some o =>
    rcases h id o hs with rfl | h2
    ·simp[hs]at he
    ·rw[hs]at he;rw[h2];exact⟨ob,he,cX⟩
  ·have e:aQ fr J' (.slice sz x lo hi)=aQ fr J (.slice sz x lo hi):=by
    simp only[aQ];cases hv:ev fr x<;>first | rfl | (exact absurd ⟨_,_,hv⟩ hx)
   rw[e];exact⟨ob,he,cX⟩
 all_goals exact⟨ob,he,cX⟩
end
theorem Fact.le{J J':ae}{p:Pi}{fr:List V}(hf:Fact p fr J)(h:Le J J'):Fact p fr J':=by
 obtain⟨c,h1,r,h2,h3⟩:=hf;exact⟨c,h1,r,h2,fun hc=>by obtain⟨ob,h4,h5⟩:=h3 hc;exact Ms h h4 h5⟩
theorem Ol{P:Program}{B:Nat}{w0 w:World}{J:ae}{μ:Mem}(hS:fF P B w0 w J μ){id:Nat}(hid:J[id]?=some .dead)(T:Nat)(cs:List V)(vs:Array Value)(h:CR w J μ cs vs):
  ∃ μ',fF P B w0 (w.alloc (.cells vs T)) (J.set id (.box T cs)) μ'∧VR (w.alloc (.cells vs T)) (J.set id (.box T cs)) μ' (.ptr id 0) (.pointer (some ⟨w.heap.size,0,none⟩))∧kW w J μ (w.alloc (.cells vs T)) (J.set id (.box T cs)) μ':=by
 have hl:id<J.length:=(ab.1 hid).1;have mG:(J.set id (.box T cs))[id]?=some (.box T cs):=ao hl
 have hn:=hS.update (w':=w.alloc (.cells vs T)) (J':=J.set id (.box T cs)) (μ':=pD μ id (.pointer (some ⟨w.heap.size,0,none⟩))) id none (World.grownBy_alloc w _ none) (by simp) (by simp)
  (fun j hj=>aK (SJ hj)) (fun j hj=>mf μ _ _ j hj) (fun b hb=>by rw[dV]at hb;simp only[ir,aa]at hb;exact .inr (by omega))
  (fun b off v o ho ig=>by rw[hid]at ho;simp only[aa]at ho;exact absurd ho.symm ig)
  (fun T' cs' ho=>by rw[hid]at ho;simp at ho) (fun K E es ho=>by rw[hid]at ho;simp at ho)
  (fun E sz by' g' sh xs _ ho=>by rw[mG]at ho;simp at ho)
  (fun hp o ho=>by
   rw[mG]at ho;simp only[aa]at ho;subst ho;rw[dV];refine⟨w.heap.size,vs,rfl,hS.base,heap_alloc_new w _,h.1.symm,fun j x hx=>?_⟩;have hj:j<vs.size:=by rw[← h.1];exact(ab.1 hx).1
   exact⟨vs[j],bc hj,by have:=(h.2 j x hx).mono hp;simpa[hj]using this⟩)
 exact⟨_,hn.1,.ptr _ 0 _ ⟨T,cs,mG⟩ (dV _ _ _),hn.2⟩
theorem Hc{P:Program}{ops:Array Oper}{o:Oper}{p:Pi}{d T:Nat}{zs:List V}(hc:U6 P ops o=some p)(hp:p=⟨some d,[],.alloc T zs⟩){inf:Nat→Option (List (Nat×Bool))}{B:Nat}{w0 w:World}{fr:List V}{J:ae}{μ:Mem}{a:Act}
  (hS:fF P B w0 w J μ) (hF:Af w J μ fr inf a) (gU:Fh inf p) {id:Nat} (hid:J[id]?=some .dead) {R:Act→World→Prop} {Q:Exit→Act→World→Prop}
  (hR:∀ μ' a' w',fF P B w0 w' (J.set id (.box T zs)) μ'→Af w' (J.set id (.box T zs)) μ' (dh fr (some d) (.ptr id 0)) (pC inf p) a'→lJ w J μ w' (J.set id (.box T zs)) μ'→R a' w') :
  if Region.wanted o (yielded ops a.tmps)then o.wp P a w R Q∨(o.asks P a w∧LetsOut Q)else R (a.put o.dst undef) w:=by
 unfold U6 at hc;split at hc<;>simp only[aa,reduceCtorEq]at hc;rename_i g hg;rw[hp]at hc;simp only[Pi.mk.injEq]at hc;obtain⟨hd,rfl,hi⟩:=hc
 have hw:Region.wanted o (yielded ops a.tmps)=true:=by
  cases O8:o.guard with
  | none=>simp[Region.wanted,O8]
  | some jb =>
   obtain⟨j,b⟩:=jb;rw[O8]at hg;simp only[tH]at hg;split at hg<;>(try simp only[reduceCtorEq]at hg);split at hg<;>simp at hg
 rw[aI hw];refine .inl ?_
 have kI:compile P o=some (.alloc T zs):=by
  cases LC:compile P o with
  | none=>rw[LC]at hi;simp at hi
  | some j=>rw[LC]at hi;simp only[fB]at hi;rw[hi]
 have dI:∃ t z,o.op=.alloc T∧P.info? T=some t∧t.zero=some z∧gL z.cells.toList=some zs:=by
  cases ho:o.op
  case alloc T' =>
   simp only[compile,ho]at kI;split at kI<;>(try simp only[reduceCtorEq]at kI);rename_i t ht;split at kI<;>(try simp only[reduceCtorEq]at kI);rename_i z hz;simp only[aj,I.alloc.injEq]at kI;obtain⟨zs',lR,rfl,rfl⟩:=kI;exact⟨t,z,rfl,ht,hz,lR⟩
  case call c =>
   exfalso;simp only[compile,ho,jl]at kI;revert kI;(repeat' split)<;>simp
  case makeFunc fn first caps =>
   exfalso;cases fn<;>simp only[compile,ho,reduceCtorEq]at kI;revert kI;split<;>simp
  case next x q =>
   exfalso;cases q<;>simp[compile,ho]at kI
  case makeMap T' n =>
   exfalso;cases n<;>simp only[compile,ho,reduceCtorEq]at kI;revert kI;split<;>simp
  case slice T' x lo hi mx =>
   exfalso;cases mx<;>cases lo<;>cases hi<;>simp only[compile,ho,reduceCtorEq]at kI<;>(revert kI;(repeat' split)<;>simp)
  all_goals
   exfalso;simp only[compile,ho]at kI;revert kI
   (try (repeat' split))<;>simp
   all_goals (intro x _;split<;>simp)
 obtain⟨t,z,ho,ht,hz,lR⟩:=dI
 have cQ:(execOp a.eval o).run P w=.ok (.value (.pointer (some ⟨w.heap.size,0,none⟩))) (w.alloc (.cells z.cells T)):=by
  simp[execOp,ho,Instr.alloc,zeroValue,typeInfo,ht,hz,newVar,newRow]
 obtain⟨μ',h1,h2,h3⟩:=Ol hS hid T _ _ (jY (w:=w) (J:=J) (μ:=μ) lR);unfold Oper.wp;rw[cQ];simp only[Oper.upon];rw[hp]at gU;have hd':o.dst=some d:=hd;rw[hd'];have:=hF.pD (v:=.pointer (some ⟨w.heap.size,0,none⟩)) (r:=.ptr id 0) gU h3.eO (fun _ _ _ _=>h2) (fun h=>by simp[chainB]at h);rw[hp]at hR;exact hR μ' _ _ h1 this h3.eO
def Hd:List Ob→(List Ob→Prop)→Prop
 | [],p=>p []
 | _::b,p=>∀ X,Hd b fun Xs=>p (X::Xs)
def gZ(b:List Ob):List Ob:=b.map fun _=>.dead
theorem IM:∀ {b:List Ob} {p:List Ob→Prop},Hd b p→∀ Xs,Xs.length=b.length→p Xs
 | [],p,h,Xs,hl=>by simp only[ay,wi]at hl;subst hl;exact h
 | _::b,p,h,Xs,hl=>by
  cases Xs with
  | nil=>simp at hl
  | cons X Xs=>exact IM (h X) Xs (by simpa using hl)
def grown(τ:ae)(Xs:List Ob)(s:ae)(K:ae→ae→Prop):Prop:=∃ τ' ε,τ'.length=τ.length∧s=τ'++(Xs++ε)∧K τ' ε
def uf(P:Program)(bx:List Ob):List (List Pi×Pi×List Pi)→List (List Pi×Pi×List Pi)→List Pi→(St→Prop)→List V→ae→ae→Prop
 | [],[],last,K,fr,τ,ε=>je P [] last (fun st=>K ⟨st.fr,τ++(bx++ε)⟩) ⟨fr,τ++(gZ bx++ε)⟩
 | [],(CX,L,chk)::ds,last,K,fr,τ,ε=>je P [] CX (fun st1=>gI P L (fun st2=>(∀ p∈chk,yL p st2)∧pv P ds last K st2) ⟨st1.fr,τ++(bx++ε)⟩) ⟨fr,τ++(gZ bx++ε)⟩
 | (CX,L,chk)::ds1,ds2,last,K,fr,τ,ε=>je P [] CX (fun st1=>Hd bx fun Xs=>gI P L (fun st2=>(∀ p∈chk,yL p st2)∧grown τ Xs st2.J (uf P bx ds1 ds2 last K st2.fr)) ⟨st1.fr,τ++(Xs++ε)⟩) ⟨fr,τ++(gZ bx++ε)⟩
def E7(p:Pi):Ob:=match p.i with
 | .alloc T zs=>.box T zs
 | _=>.dead
def E5(pis:List Pi)(fl:List Nat):List Ob:=fl.map fun f=>E7 (dS pis f)
def rq(pis:List Pi)(fl:List Nat)(listed:Array Bool):List Ob:=fl.map fun f=>bif listed.getD f false then E7 (dS pis f)else .dead
structure YT (pis:List Pi) (bs:List Nat) (m:Nat) (ls fl:List Nat) (k1:Nat):Prop where
 C1:∀ f∈fl,f<m∧f ∉ ls∧∃ d T zs,dS pis f=⟨some d,[],.alloc T zs⟩
 nd:fl.Nodup
 kl:k1≤ls.length
 late:∀ (k L f:Nat),k1≤k→ls[k]?=some L→f∈fl→tb bs L f=true
section
variable {P:Program} {ops:Array Oper} {pis:List Pi} {bs:List Nat} {m:Nat} {ls fl:List Nat} {k1:Nat}
theorem PR{listed:Array Bool}(h:∀ f∈fl,iT listed f):rq pis fl listed=E5 pis fl:=by
 refine cN fun f hf=>?_;have:listed.getD f false=true:=h f hf;rw[this];rfl
theorem Le.mid{τ a b ε:ae}(h:Le a b)(hl:a.length=b.length):Le (τ++(a++ε)) (τ++(b++ε)):=by
 intro id o ho
 by_cases h1:id<τ.length
 ·rw[ai h1]at ho ⊢;exact .inr ho
 ·rw[aH (by omega)]at ho ⊢
  by_cases h2:id - τ.length<a.length
  ·rw[ai h2]at ho;rw[ai (by omega)];exact h _ _ ho
  ·rw[aH (by omega)]at ho;rw[aH (by omega),← hl];exact .inr ho
theorem M4(τ ε:ae)(listed:Array Bool):Le (τ++(gZ (E5 pis fl)++ε)) (τ++(rq pis fl listed++ε)):=by
 refine Le.mid (fun id o ho=>?_) (by simp[gZ,E5,rq]);simp only[gZ,E5,ic,bf,aj]at ho;obtain⟨_,_,rfl⟩:=ho;exact .inl rfl
theorem H0(hF:YT pis bs m ls fl k1){listed:Array Bool}{i:Nat}(hi:i<listed.size)(LA:i ∉ fl):rq pis fl (listed.setIfInBounds i true)=rq pis fl listed:=by
 refine cN fun f hf=>?_;have h2:=ei (listed:=listed) (j:=f) hi;have ig:f≠i:=fun e=>LA (e▸hf);simp only[ig,nL,iT]at h2;have:(listed.setIfInBounds i true).getD f false=listed.getD f false:=by cases h3:listed.getD f false<;>simp_all
 rw[this]
theorem PQ(hF:YT pis bs m ls fl k1){listed:Array Bool}{j f:Nat}(hi:f<listed.size)(hj:fl[j]?=some f):rq pis fl (listed.setIfInBounds f true)=(rq pis fl listed).set j (E7 (dS pis f)):=by
 refine gN fun x=>?_;have kH:j<fl.length:=(ab.1 hj).1
 by_cases hx:j=x
 ·subst hx;rw[ao (by simpa[rq]using kH)];have:(listed.setIfInBounds f true).getD f false=true:=(ei hi).2 (.inl rfl);simp only[rq,bf,hj,bY,this,cond_true]
 ·rw[aK hx];simp only[rq,bf];cases hy:fl[x]? with
  | none=>rfl
  | some y =>
   have ig:y≠f:=by
    rintro rfl;exact hx ((List.getElem?_inj kH hF.nd).1 (hj.trans hy.symm))
   have h2:=ei (listed:=listed) (j:=y) hi;simp only[ig,nL,iT]at h2;have:(listed.setIfInBounds f true).getD y false=listed.getD y false:=by cases h3:listed.getD y false<;>simp_all
   simp only[bY,this]
def vL(P:Program)(pis:List Pi)(bs:List Nat)(m:Nat)(ls fl:List Nat)(k1:Nat)(Kt:St→Prop)(k:Nat)(fr:List V)(τ ε:ae):Prop :=
 match (ls.take k1)[k]? with
 | some L=>Hd (E5 pis fl) fun Xs=>gI P (dS pis L) (fun st2=>(∀ p∈(OC pis bs m ls k L).map (dS pis),yL p st2)∧grown τ Xs st2.J
   (uf P (E5 pis fl) (zk pis bs m ls (k+1) ((ls.take k1).drop (k+1))) (zk pis bs m ls k1 (ls.drop k1)) ((lz pis bs m ls ls.length).map (dS pis)) Kt st2.fr)) ⟨fr,τ++(Xs++ε)⟩
 | none=>rI P pis bs m ls Kt k fr (τ++(E5 pis fl++ε))
theorem wR.Sc(hX:wR ops pis bs m ls fl)(hF:YT pis bs m ls fl k1){Kt:St→Prop}{k:Nat}(hk:k≤k1){fr:List V}{τ ε:ae}
  (h:uf P (E5 pis fl) (zk pis bs m ls k ((ls.take k1).drop k)) (zk pis bs m ls k1 (ls.drop k1)) ((lz pis bs m ls ls.length).map (dS pis)) Kt fr τ ε) :
  ∃ fr',vL P pis bs m ls fl k1 Kt k fr' τ ε∧(∀ i∈lz pis bs m ls k,Fact (dS pis i) fr' (τ++(gZ (E5 pis fl)++ε)))∧(∀ t,(∀ i∈lz pis bs m ls k,(dS pis i).d≠some t)→fr'[t]?=fr[t]?)∧fr'.length=fr.length:=by
 have Im:(lz pis bs m ls k).Pairwise (fun i j=>∀ t,(dS pis j).d=some t→t ∉ looks (dS pis i)∧(dS pis i).d≠some t):=by
  refine Y0 ?_ (List.Pairwise.filter _ ac4);intro i j hi hj dp t hd
  replace hi:=(dj (k:=k)).1 hi
  replace hj:=(dj (k:=k)).1 hj
  refine⟨fun ht=>?_,fun hd'=>?_⟩
  ·have:=hX.lt hi.1 hj.1 (hX.nZ hi.1 hj.1 hd ht);omega
  ·have:=hX.dst i j t hi.1 hj.1 hd' hd;omega
 have tc:∀ i∈lz pis bs m ls k,∀ t,(dS pis i).d=some t→t ∉ looks (dS pis i):=fun i hi t hd ht=>by
  rw[dj]at hi;have:=hX.lt hi.1 hi.1 (hX.nZ hi.1 hi.1 hd ht);omega
 have Kr:∀ i∈lz pis bs m ls k,(dS pis i).i.cD=true:=fun i hi=>(dj.1 hi).2.1;have tR:=hF.kl;have hlen:(ls.take k1).length=k1:=by rw[bT];omega
 by_cases rV:k<k1
 ·have e:(ls.take k1).drop k=(ls.take k1)[k]::(ls.take k1).drop (k+1):=dU (by omega);rw[e]at h;simp only[zk,uf]at h;obtain⟨fr',h1,h2,h3,h4⟩:=ue _ _ h Kr Im tc;refine⟨fr',?_,h2,h3,h4⟩;simp only[vL,al (show k<(ls.take k1).length by omega)];exact h1
 ·have hk':k=k1:=by omega
  subst hk';rw[List.drop_of_length_le (by omega)]at h;have en:(ls.take k)[k]?=none:=bn (by omega)
  by_cases hl:k<ls.length
  ·have e:ls.drop k=ls[k]::ls.drop (k+1):=dU hl;rw[e]at h;simp only[zk,uf]at h;obtain⟨fr',h1,h2,h3,h4⟩:=ue _ _ h Kr Im tc;refine⟨fr',?_,h2,h3,h4⟩;simp only[vL,en,rI,al hl];exact h1
  ·have po:k=ls.length:=by omega
   subst po;rw[wm]at h;simp only[zk,uf]at h;obtain⟨fr',h1,h2,h3,h4⟩:=ue _ _ h Kr Im tc;refine⟨fr',?_,h2,h3,h4⟩;have e:ls[ls.length]?=none:=bn (au _);simp only[vL,en,rI,e];exact h1
theorem zJ(hX:wR ops pis bs m ls fl)(tS:YT pis bs m ls fl k1)(hp:oS P ops ops.toList=some pis){n B n0:Nat}{gs:List Nat}{w0 ws:World}{σs:ae}{μs:Mem}{K:St→Prop}{Q:Exit→Act→World→Prop}
  (hQ:∀ st w μ a,K st→fF P B w0 w st.J μ→FR w st.J μ st.fr a→eJ n ws σs μs w st.J μ→Q .normal a w) (ht:CY (D0 pis m) (pis.drop m) gs=true) :
  ∀ (fuel k:Nat) (listed:Array Bool) (fr:List V) (τ ε:ae) (w:World) (μ:Mem) (a:Act),listed.size=ops.size →
   (∀ i j,i<pis.length→j<pis.length→iT listed i→tb bs i j=true→iT listed j)→(∀ i,m≤i→i<pis.length→¬ iT listed i)→k≤k1 →
   (∀ j L,ls[j]?=some L→(iT listed L↔j<k))→(∀ i,i<m→(dS pis i).i.cD=true→AB bs ls i≤k→¬ iT listed i→Fact (dS pis i) fr (τ++(rq pis fl listed++ε))) →
   τ.length=n0→(∀ j f d,fl[j]?=some f→(dS pis f).d=some d→dh fr (some d) (.ptr (n0+j) 0)=fr) →
   vL P pis bs m ls fl k1 (je P gs (pis.drop m) K) k fr τ ε→Bn pis.length listed≤fuel →
   fF P B w0 w (τ++(rq pis fl listed++ε)) μ→Af w (τ++(rq pis fl listed++ε)) μ fr (lS pis m listed) a→eJ n ws σs μs w (τ++(rq pis fl listed++ε)) μ→wpAny P .any ops Q fuel listed a w:=by
 have hn:pis.length=ops.size:=by rw[(l6 hp).1,a6]
 have hm:=hX.mn;have tR:=tS.kl;have hlen:(ls.take k1).length=k1:=by rw[bT];omega
 have done:∀ (fuel k:Nat) (listed:Array Bool) (fr:List V) (τ ε:ae) (w:World) (μ:Mem) (a:Act),listed.size=ops.size →
   (∀ i j,i<pis.length→j<pis.length→iT listed i→tb bs i j=true→iT listed j)→(∀ i,m≤i→i<pis.length→¬ iT listed i)→k=k1→(∀ f∈fl,iT listed f) →
   (∀ j L,ls[j]?=some L→(iT listed L↔j<k))→(∀ i,i<m→(dS pis i).i.cD=true→AB bs ls i≤k→¬ iT listed i→Fact (dS pis i) fr (τ++(rq pis fl listed++ε))) →
   vL P pis bs m ls fl k1 (je P gs (pis.drop m) K) k fr τ ε→Bn pis.length listed≤fuel →
   fF P B w0 w (τ++(rq pis fl listed++ε)) μ→Af w (τ++(rq pis fl listed++ε)) μ fr (lS pis m listed) a→eJ n ws σs μs w (τ++(rq pis fl listed++ε)) μ→wpAny P .any ops Q fuel listed a w:=by
  intro fuel k listed fr τ ε w μ a fE hc wH hk qN nM A4 yb hu hS hF Cy;subst hk;have en:(ls.take k)[k]?=none:=bn (by omega);simp only[vL,en]at yb;rw[PR qN]at A4 hS hF Cy;exact sS hX hp hQ ht fuel k listed fr _ w μ a fE qN hc wH tR nM A4 yb hu hS hF Cy
 intro fuel
 induction fuel with
 | zero =>
  intro k listed fr τ ε w μ a fE hc wH hk nM A4 Nx NJ yb hu hS hF Cy;have Nv:∀ i,i<pis.length→iT listed i:=fun i hi=>a8 fun h=>by have:=Hr hi h;omega
  have iZ:∀ i,i<m→iT listed i:=fun i hi=>Nv i (by omega)
  have tR:k=k1:=by
   refine a8 fun ig=>?_;have dp:k<ls.length:=by omega
   have:=(nM k ls[k] (al dp)).1 (iZ _ (hX.O1 _ (cF dp)).1);omega
  exact done 0 k listed fr τ ε w μ a fE hc wH tR (fun f hf=>iZ f (tS.C1 f hf).1) nM A4 yb hu hS hF Cy
 | succ fuel ih =>
  intro k listed fr τ ε w μ a fE hc wH hk nM A4 Nx NJ yb hu hS hF Cy
  by_cases Iw:k=k1∧∀ f∈fl,iT listed f
  ·exact done _ k listed fr τ ε w μ a fE hc wH Iw.1 Iw.2 nM A4 yb hu hS hF Cy
  have Sr:¬ ∀ i,i<m→iT listed i:=by
   intro iZ;refine Iw ⟨?_,fun f hf=>iZ f (tS.C1 f hf).1⟩;refine a8 fun ig=>?_;have dp:k<ls.length:=by omega
   have:=(nM k ls[k] (al dp)).1 (iZ _ (hX.O1 _ (cF dp)).1);omega
  refine⟨fun h=>absurd (fun i hi=>hX.first fE h i (by omega)) Sr,fun i hi=>?_⟩;obtain⟨hio,Kp,o,ho,_⟩:=pP fE hi;have ye:i<pis.length:=by omega
  have A7:∀ j,j<pis.length→tb bs i j=true→iT listed j:=fun j hj ht=>hX.ready hn fE hc hi hj ht
  have zV:i<m:=by
   refine a8 fun h=>Sr fun j hj=>?_;exact A7 j (by omega) (hX.tail i j (by omega) ye (by omega))
  obtain⟨p,hpi,LC⟩:=(l6 hp).2 i o (by simpa using ho);have mV:dS pis i=p:=by simp[dS,ar,hpi]
  have gU:Fh (lS pis m listed) p:=mV▸hX.Xz hc zV Kp A7
  have hclos':∀ x j,x<pis.length→j<pis.length→iT (listed.setIfInBounds i true) x→tb bs x j=true→iT (listed.setIfInBounds i true) j:=by
   intro x j hx hj hl ht;rw[ei (by omega)]at hl ⊢;rcases hl with rfl | hl
   ·exact .inr (A7 j hj ht)
   ·exact .inr (hc x j hx hj hl ht)
  have htl':∀ x,m≤x→x<pis.length→¬ iT (listed.setIfInBounds i true) x:=by
   intro x hx hxn hl;rw[ei (by omega)]at hl;rcases hl with rfl | hl
   ·omega
   ·exact wH x hx hxn hl
  have hu':Bn pis.length (listed.setIfInBounds i true)≤fuel:=by
   have:=Hq ye (by omega:i<listed.size) Kp;omega
  have TU:∀ x,x<m→(dS pis x).i.cD=true→(∀ j,j<pis.length→tb bs x j=true→iT listed j)→AB bs ls x≤k:=by
   intro x hx hs hal';refine a8 fun dp=>?_;have h1:AB bs ls x≤ls.length:=fa _ _;have h2:k<ls.length:=by omega
   have h3:=(hX.CX x k ls[k] hx hs (al h2)).2 (by omega);have h4:=hal' ls[k] (by have:=(hX.O1 _ (cF h2)).1;omega) h3;have:=(nM k ls[k] (al h2)).1 h4;omega
  have e:pC (lS pis m listed) p=lS pis m (listed.setIfInBounds i true):=by rw[← mV];exact hX.pC zV (by omega)
  simp only[wpOp,ho]
  by_cases hs:p.i.cD=true
  ·
   have qM:(dS pis i).i.cD=true:=by rw[mV];exact hs
   have LA:i ∉ fl:=fun h=>by
    obtain⟨d,T,zs,h2⟩:=(tS.C1 i h).2.2;rw[h2]at qM;simp[I.cD]at qM
   have hf:=A4 i zV qM (TU i zV qM A7) Kp;rw[mV]at hf;refine Td LC hS hF gU (ID hf) ?_;intro r J' μ' a' w' k1 k2 k3 k4;simp only[St.mk.injEq]at k1;obtain⟨k1,rfl⟩:=k1;rw[k1,e]at k3;have eo:=H0 (pis:=pis) tS (listed:=listed) (i:=i) (by omega) LA;refine ih k _ fr τ ε w' μ' a' (by simpa using fE) hclos' htl' hk (fun j L hL=>?_) (fun x hx tQ TP qd=>?_) Nx NJ yb hu' (by rw[eo];exact k2) (by rw[eo];exact k3) (by rw[eo];exact Cy.trans k4.Li)
   ·rw[ei (by omega),nM j L hL]
    have:L≠i:=fun e=>by
     have:=(hX.O1 L (aV hL)).2;rw[e,qM]at this;simp at this
    simp[this]
   ·rw[eo];exact A4 x hx tQ TP fun h=>qd ((ei (by omega)).2 (.inr h))
  ·have qM:(dS pis i).i.cD=false:=by rw[mV];simpa using hs
   rcases hX.D7 i zV qM with rz | rz
   ·
    obtain⟨j,hj⟩:=eZ.1 rz;have LA:i ∉ fl:=fun h=>(tS.C1 i h).2.1 rz;have kH:j<ls.length:=(ab.1 hj).1;have hj1:¬ j<k:=fun h=>Kp ((nM j i hj).2 h)
    have Iu:j=k:=by
     refine a8 fun ig=>?_;have tR:k<ls.length:=by omega
     have h2:=hX.PY k j i ls[k] (by omega) (al tR) hj;have h3:=A7 ls[k] (by have:=(hX.O1 _ (cF tR)).1;omega) h2;have:=(nM k ls[k] (al tR)).1 h3;omega
    subst Iu
    have aa8:j<k1:=by
     refine a8 fun h=>Iw ⟨by omega,fun f hf=>?_⟩;exact A7 f (by have:=(tS.C1 f hf).1;omega) (tS.late j i f (by omega) hj hf)
    have hjt:(ls.take k1)[j]?=some i:=by rw[sq,aI aa8];exact hj
    simp only[vL,hjt,mV]at yb;have aaM:=IM yb (rq pis fl listed) (by simp[rq,E5]);refine Y5 LC hS hF gU aaM ?_;intro r J' μ' a' w' k1 k2 k3 k4;obtain⟨Uh,τ',ε',hτ',rT,cQ⟩:=k1;simp only at rT;subst rT;obtain⟨fr',h1,h2,h3,h4⟩:=hX.Sc tS (k:=j+1) (by omega) cQ;rw[e]at k3;have eo:=H0 (pis:=pis) tS (listed:=listed) (i:=i) (by omega) LA
    have jg:∀ x∈lz pis bs m ls (j+1),¬ iT (listed.setIfInBounds i true) x:=by
     intro x hx hl;rw[dj]at hx;rw[ei (by omega)]at hl;rcases hl with rfl | hl
     ·rw[qM]at hx;simp at hx
     ·have:=TU x hx.1 hx.2.1 fun y hy ht=>hc x y (by omega) hy hl ht;omega
    have yk:∀ t y,y<m→(dS pis y).d=some t→iT (listed.setIfInBounds i true) y→fr'[t]?=(dh fr p.d r)[t]?:=by
     intro t y hy hd hl;refine h3 t fun x hx XL=>jg x hx ?_;rw[hX.dst x y t (dj.1 hx).1 hy XL hd];exact hl
    have hF':Af w' (τ'++(rq pis fl listed++ε')) μ' fr' (lS pis m (listed.setIfInBounds i true)) a':=by
     refine⟨k3.1,by rw[h4];exact k3.2.1,fun t x hx ch vw=>?_⟩
     have Ln:fr'[t]?=(dh fr p.d r)[t]?:=by
      rcases jU vw with⟨_,qe⟩ | ⟨y,hy,hd,hl,_⟩
      ·exact h3 t fun x hx=>qe x (dj.1 hx).1
      ·exact yk t y hy hd hl
     have yh:chainB fr' ch=chainB (dh fr p.d r) ch:=by
      refine kr fun q hq=>?_;rcases jU vw with⟨rfl,_⟩ | ⟨y,hy,hd,hl,rfl⟩
      ·simp at hq
      ·obtain⟨z,hz,hzd,hzt⟩:=hX.chain y q hy hq;exact yk q.1 z hz hzd (hclos' y z (by omega) (by omega) hl hzt)
     rw[yh];rw[Ln]at hx;exact k3.2.2 t x hx ch vw
    refine ih (j+1) _ fr' τ' ε' w' μ' a' (by simpa using fE) hclos' htl' (by omega) (fun y L hL=>?_) (fun x hx tQ TP qd=>?_) (hτ'.trans Nx) (fun y f d hy hd=>?_) h1 hu' (by rw[eo];exact k2) (by rw[eo];exact hF') (by rw[eo];exact Cy.trans k4.Li)
    ·rw[ei (by omega),nM y L hL];constructor
     ·rintro(rfl | h)
      ·refine a8 fun ig=>?_;have h5:=hX.PY j y L L (by omega) hj hL;have:=hX.lt zV zV h5;omega
      ·omega
     ·intro h;rcases fp y j with h5 | h5
      ·exact .inr h5
      ·have:y=j:=by omega
       subst this;rw[hL]at hj;simp only[aa]at hj;exact .inl hj
    ·rw[eo]
     by_cases Vm:AB bs ls x=j+1
     ·exact(h2 x (dj.2 ⟨hx,tQ,Vm⟩)).le (M4 τ' ε' listed)
     ·have hxj':AB bs ls x≤j:=by omega
      have Nh:¬ iT listed x:=fun h=>qd ((ei (by omega)).2 (.inr h));have TY:¬ tb bs i x=true:=fun h=>Nh (A7 x (by omega) h)
      have Eu:Fact (dS pis x) (dh fr p.d r) (τ'++(rq pis fl listed++ε')):=by
       by_cases hr:(dS pis x).i.reads=true
       ·exact(Uh (dS pis x) (bI.2 ⟨x,by simp[OC,hx,tQ,hr,hxj',TY],rfl⟩)).fact
       ·have hr':(dS pis x).i.reads=false:=by simpa using hr
        refine Fact.still (Fact.agree (A4 x hx tQ hxj' Nh) (fun t ht=>?_) (fun t ht=>?_) mr) hr'
        ·refine jd fun hd=>?_;have h5:=hX.nZ hx zV (mV▸hd) ht;have:=(hX.CX x j i hx tQ hj).1 h5;omega
        ·refine jd fun hd=>?_;have:=hX.dst x i t hx zV ht (mV▸hd);subst this;rw[tQ]at qM;simp at qM
      refine Fact.agree Eu (fun t ht=>?_) (fun t ht=>?_) h4
      ·refine h3 t fun y hy QE=>?_;rw[dj]at hy;have:=hX.mono x y t hx tQ hy.1 hy.2.1 QE ht;omega
      ·refine h3 t fun y hy QE=>?_;rw[dj]at hy;have:=hX.dst x y t hx hy.1 ht QE;subst this;omega
    ·have h5:=NJ y f d hy hd;have Zn:=(tS.C1 f (aV hy)).1
     have h6:fr'[d]?=fr[d]?:=by
      rw[h3 d fun x hx XL=>?_]
      ·refine jd fun hpd=>?_;have:=hX.dst f i d Zn zV hd (mV▸hpd);exact LA (this▸aV hy)
      ·have:=hX.dst f x d Zn (dj.1 hx).1 hd XL;have h7:=(dj.1 hx).2.1;obtain⟨d',T,zs,h8⟩:=(tS.C1 f (aV hy)).2.2;rw[← this,h8]at h7;simp[I.cD]at h7
     rw[nT]at h5 ⊢;intro t ht' hl;have h7:=h5 t ht' (by rw[h4,mr]at hl;exact hl);simp only[aa]at ht';subst ht';rw[h6];exact h7
   ·
    obtain⟨j,hj⟩:=eZ.1 rz;obtain⟨_,Is,d,T,zs,Zm⟩:=tS.C1 i rz;rw[mV]at Zm;have kH:j<fl.length:=(ab.1 hj).1
    have hlf:listed.getD i false=false:=by
     cases h:listed.getD i false with
     | false=>rfl
     | true=>exact absurd h Kp
    have hid:(τ++(rq pis fl listed++ε))[n0+j]?=some .dead:=by
     rw[aH (by omega),Nx,cR,ai (by simp only[rq,ah];omega)];simp only[rq,bf,hj,bY,hlf,Hi]
    have eb:E7 (dS pis i)=.box T zs:=by rw[mV,Zm];rfl
    have eo:τ++(rq pis fl (listed.setIfInBounds i true)++ε)=(τ++(rq pis fl listed++ε)).set (n0+j) (.box T zs):=by
     rw[PQ tS (by omega) hj,eb,cI _ _ (by omega),Nx,cR,gF _ _ (by simp only[rq,ah];omega)]
    have hdd:p.d=some d:=by rw[Zm]
    have mG:=NJ j i d hj (by rw[mV];exact hdd)
    have hle:Le (τ++(rq pis fl listed++ε)) ((τ++(rq pis fl listed++ε)).set (n0+j) (.box T zs)):=by
     intro id o ho
     by_cases he:n0+j=id
     ·subst he;rw[hid]at ho;simp only[aa]at ho;exact .inl ho.symm
     ·rw[aK he];exact .inr ho
    refine Hc LC Zm hS hF gU hid ?_;intro μ' a' w' k2 k3 k4;rw[mG,e]at k3;refine ih k _ fr τ ε w' μ' a' (by simpa using fE) hclos' htl' hk (fun y L hL=>?_) (fun x hx tQ TP qd=>?_) Nx NJ yb hu' (by rw[eo];exact k2) (by rw[eo];exact k3) (by rw[eo];exact Cy.trans k4.Li)
    ·rw[ei (by omega),nM y L hL];have:L≠i:=fun e=>Is (e▸aV hL);simp[this]
    ·rw[eo];exact(A4 x hx tQ TP fun h=>qd ((ei (by omega)).2 (.inr h))).le hle
def v7(pis:List Pi)(fl:List Nat):List (Nat×Nat×List V):=fl.map fun f=>match dS pis f with
 | ⟨some d,_,.alloc T zs⟩=>(d,T,zs)
 | _=>(0,0,[])
def E6(fls:List (Nat×Nat×List V)):List Ob:=fls.map fun x=>.box x.2.1 x.2.2
def sI:Nat→List (Nat×Nat×List V)→List V→List V
 | _,[],fr=>fr
 | n,x::r,fr=>sI (n+1) r (fr.set x.1 (.ptr n 0))
theorem rL{t:Nat}:∀ {l:List (Nat×Nat×List V)} {n:Nat} {fr:List V},(∀ x∈l,x.1≠t)→(sI n l fr)[t]?=fr[t]?
 | [],_,_,_=>rfl
 | x::l,n,fr,h=>by
  rw[sI,rL fun y hy=>h y (by simp[hy]),aK (h x (by simp))]
theorem xn:∀ {l:List (Nat×Nat×List V)} {n:Nat} {fr:List V},(sI n l fr).length=fr.length
 | [],_,_=>rfl
 | x::l,n,fr=>by rw[sI,xn];simp
theorem HC:∀ {l:List (Nat×Nat×List V)} {n j:Nat} {fr:List V} {x:Nat×Nat×List V},l.Pairwise (fun a b=>a.1≠b.1)→l[j]?=some x→x.1<fr.length→(sI n l fr)[x.1]?=some (.ptr (n+j) 0)
 | [],_,_,_,_,_,h,_=>by simp at h
 | y::l,n,0,fr,x,hp,h,hl=>by
  simp only[aq,aa]at h;subst h;rw[so]at hp;rw[sI,rL fun z hz=>SJ (hp.1 z hz),ao hl,dm]
 | y::l,n,j+1,fr,x,hp,h,hl=>by
  rw[so]at hp;rw[sI,HC (j:=j) hp.2 (by simpa using h) (by simpa using hl)];congr 2;omega
theorem fF.gZ{P:Program}{B:Nat}{w0 w:World}:∀ (b:List Ob) {J:ae} {μ:Mem},fF P B w0 w J μ→∃ μ',fF P B w0 w (J++Go.Pm.gZ b) μ'∧kW w J μ w (J++Go.Pm.gZ b) μ'
 | [],J,μ,h=>⟨μ,by simpa[Go.Pm.gZ]using h,by simpa[Go.Pm.gZ]using kW.refl w J μ⟩
 | _::b,J,μ,h=>by
  obtain⟨h1,h2⟩:=h.ph (w':=w) .dead undef ⟨rfl,rfl,rfl,au _,fun _ _ _=>rfl⟩ (by simp[ir,undef]) fun _=>trivial;obtain⟨μ',h3,h4⟩:=fF.gZ b h1;have e:J++[Ob.dead]++Go.Pm.gZ b=J++Go.Pm.gZ (.dead::b):=by simp[Go.Pm.gZ]
  rw[e]at h3 h4;exact⟨μ',h3,h2.trans h4⟩
def okF(pis:List Pi)(bs:List Nat)(m:Nat)(ls fl:List Nat)(k1:Nat):Bool :=
 (fl.all fun f=>decide (f<m)&&(!ls.contains f&&match dS pis f with
  | ⟨some _,[],.alloc _ _⟩=>true
  | _=>false))&&(decide fl.Nodup&&(decide (k1≤ls.length)&&(ls.drop k1).all fun L=>fl.all fun f=>tb bs L f))
theorem Te(h:okF pis bs m ls fl k1=true):YT pis bs m ls fl k1:=by
 simp only[okF,aG,bU,aU,cS]at h;obtain⟨h1,h2,h3,h4⟩:=h;refine⟨fun f hf=>?_,h2,h3,fun k L f hk hL hf=>h4 L ?_ f hf⟩
 ·obtain⟨h5,h6,h7⟩:=h1 f hf;refine⟨h5,by simpa using h6,?_⟩;split at h7
  ·rename_i d T zs e;exact⟨d,T,zs,e⟩
  ·simp at h7
 ·refine aV (i:=k - k1) ?_;rw[gw,← hL];congr 1;omega
theorem zH{n B:Nat}{gs:List Nat}{K:St→Prop}{Q:Exit→Act→World→Prop}(hp:oS P ops ops.toList=some pis)(gU:PN ops pis bs m ls fl=true)(TW:okF pis bs m ls fl k1=true)
  (ht:CY (D0 pis m) (pis.drop m) gs=true) {fr:List V} {J:ae} {w0 w:World} {μ:Mem} {a:Act}
  (h:uf P (E6 (v7 pis fl)) (zk pis bs m ls 0 (ls.take k1)) (zk pis bs m ls k1 (ls.drop k1)) ((lz pis bs m ls ls.length).map (dS pis)) (je P gs (pis.drop m) K) (sI J.length (v7 pis fl) fr) J [])
  (hS:fF P B w0 w J μ) (hF:FR w J μ fr a)
  (hQ:∀ st' w' μ' a',K st'→fF P B w0 w' st'.J μ'→FR w' st'.J μ' st'.fr a'→eJ n w J μ w' st'.J μ'→Q .normal a' w'):wpAny P .any ops Q ops.size (Array.replicate ops.size false) a { w with drawn:=w.drawn+1 }:=by
 have hn:pis.length=ops.size:=by rw[(l6 hp).1,a6]
 have hX:=Mx gU hn;have tS:=Te TW
 have Yu:E6 (v7 pis fl)=E5 pis fl:=by
  simp only[E6,v7,E5,ic];refine cN fun f hf=>?_;obtain⟨d,T,zs,e⟩:=(tS.C1 f hf).2.2;simp[e,E7]
 rw[Yu]at h
 have A4:∀ (j f d:Nat),fl[j]?=some f→(dS pis f).d=some d→∃ x,(v7 pis fl)[j]?=some x∧x.1=d:=by
  intro j f d hj hd;obtain⟨d',T,zs,e⟩:=(tS.C1 f (aV hj)).2.2;rw[e]at hd;simp only[aa]at hd;exact⟨(d',T,zs),by simp[v7,hj,e],hd⟩
 have hof:∀ x∈v7 pis fl,∃ f,f∈fl∧(dS pis f).d=some x.1:=by
  intro x hx;simp only[v7,bI]at hx;obtain⟨f,hf,rfl⟩:=hx;obtain⟨d,T,zs,e⟩:=(tS.C1 f hf).2.2;exact⟨f,hf,by simp[e]⟩
 have Im:(v7 pis fl).Pairwise (fun a b=>a.1≠b.1):=by
  rw[v7,Lb];refine tS.nd.imp_of_mem ?_;intro f g hf hg ig he;obtain⟨d,T,zs,e⟩:=(tS.C1 f hf).2.2;obtain⟨d',T',zs',e'⟩:=(tS.C1 g hg).2.2;simp only[e,e']at he;subst he;exact ig (hX.dst f g d (tS.C1 f hf).1 (tS.C1 g hg).1 (by rw[e]) (by rw[e']))
 obtain⟨hS',Ls⟩:=hS.grown (w':={ w with drawn:=w.drawn+1 }) ⟨rfl,rfl,rfl,au _,fun _ _ _=>rfl⟩;obtain⟨μ1,Sz,X3⟩:=hS'.gZ (E5 pis fl);have e0:J++gZ (E5 pis fl)=J++(gZ (E5 pis fl)++[]):=by rw[bV]
 rw[e0]at Sz X3;have hk:=Ls.eO.trans X3.eO;have hF':=hF.eO hk;obtain⟨fr',h1,h2,h3,h4⟩:=hX.Sc tS (k:=0) (eY _) (by simpa using h)
 have Is:∀ i,¬ iT (Array.replicate ops.size false) i:=by
  intro i;simp only[iT,bl,u0];split<;>simp
 have eo:rq pis fl (Array.replicate ops.size false)=gZ (E5 pis fl):=by
  simp only[rq,gZ,E5,ic];refine cN fun f _=>?_
  have:(Array.replicate ops.size false).getD f false=false:=by
   cases hh:(Array.replicate ops.size false).getD f false with
   | false=>rfl
   | true=>exact absurd hh (Is f)
  simp[this]
 refine zJ (n:=n) hX tS hp (fun st' w' μ' a' k1 k2 k3 k4=>hQ st' w' μ' a' k1 k2 k3 (eJ.trans hk.Li k4)) ht ops.size 0 _ fr' J [] _ μ1 a (by simp) (fun i j _ _ hl=>absurd hl (Is i)) (fun i _ _=>Is i) (eY _)
  (fun j L hL=>⟨fun hl=>absurd hl (Is L),fun h=>by omega⟩) (fun i hi hs TU _=>by rw[eo];exact h2 i (dj.2 ⟨hi,hs,by omega⟩)) rfl (fun j f d hj hd=>?_) h1 (by rw[hn];unfold Bn;exact br (fa _ _) (by simp)) (by rw[eo];exact Sz) ?_ (by rw[eo];exact eJ.refl _ _ _ _)
 ·have Zn:=(tS.C1 f (aV hj)).1;obtain⟨x,hx,rfl⟩:=A4 j f d hj hd;rw[nT];intro t ht' hl;simp only[aa]at ht';subst ht';rw[h3 x.1 fun y hy QE=>?_]
  ·exact HC Im hx (by rwa [h4,xn]at hl)
  ·have:=hX.dst f y x.1 Zn (dj.1 hy).1 hd QE;have h7:=(dj.1 hy).2.1;obtain⟨d',T,zs,h8⟩:=(tS.C1 f (aV hj)).2.2;rw[← this,h8]at h7;simp[I.cD]at h7
 ·rw[eo];refine⟨hF'.1,by rw[h4,xn];exact hF'.2.1,fun t x hx ch vw=>?_⟩;rcases jU vw with⟨rfl,qe⟩ | ⟨y,hy,hd,hl,_⟩
  ·rw[h3 t fun i hi=>qe i (dj.1 hi).1,rL fun y hy e=>?_]at hx
   ·exact⟨fun _=>hF'.2.2 t x hx,fun h=>by simp[chainB]at h⟩
   ·obtain⟨f,hf,hfd⟩:=hof y hy;exact qe f (tS.C1 f hf).1 (e▸hfd)
  ·exact absurd hl (Is y)
end
inductive bH where
 | skip
 | ax (gs:List Nat) (is:List Pi)
 | dC (ds:List (List Pi×Pi×List Pi)) (last:List Pi) (gs:List Nat) (tail:List Pi)
 | seq (a b:bH)
 | ite (c:O) (a b:bH)
 | block (id:Nat) (c:bH)
 | loop (c:bH)
 | exit (id:Nat)
 | ret
 | both (a b:bH)
 | Oh (fls:List (Nat×Nat×List V)) (ds1 ds2:List (List Pi×Pi×List Pi)) (last:List Pi) (gs:List Nat) (tail:List Pi)
def uI(pis:List Pi):List Nat:=pis.filterMap fun p=>if p.g.isEmpty then none else p.d
def U5(P:Program)(ops:Array Oper):Option bH :=
 match oS P ops ops.toList with
 | some pis=>if CY [] pis (uI pis)then some (.ax (uI pis) pis)else none
 | none=>none
def tJ(P:Program)(ops:Array Oper)(bs:List Nat):Option bH :=
 if P.follows .mixedOrders then match oS P ops ops.toList with
  | some pis =>
   let m:=mX bs pis.length;let ls:=(List.range m).filter fun i=>!(dS pis i).i.cD
   if PN ops pis bs m ls []&&CY (D0 pis m) (pis.drop m) (uI pis)then
    some (.dC (zk pis bs m ls 0 ls) ((lz pis bs m ls ls.length).map (dS pis)) (uI pis) (pis.drop m))else none
  | none=>none
 else none
def Qv:Op→Bool
 | .alloc _ | .box _ _=>true
 | _=>false
def RP(ops:Array Oper):List Nat:=(List.range ops.size).filter fun i=>match ops[i]? with
 | some o=>Qv o.op
 | none=>false
def IK(P:Program)(ops:Array Oper):Option bH :=
 match RP ops with
 | [i,j]=>if i≠j∧i<ops.size∧j<ops.size∧P.follows .mixedOrders=true∧((List.range ops.size).all fun x=>x==i||(x==j||match ops[x]? with | some o=>na o.op | none=>true))=true then
   match tJ P (waitsFor ops j i) (Region.before (waitsFor ops j i)).toList,tJ P (mW (waitsFor ops i j) i j) (Region.before (mW (waitsFor ops i j) i j)).toList with
   | some a,some b=>some (.both a b)
   | _,_=>none
  else none
 | _=>none
def aav(pis:List Pi)(bs:List Nat)(m i:Nat):Bool:=match dS pis i with
 | ⟨some _,[],.alloc _ _⟩=>(List.range m).any fun j=>!(dS pis j).i.cD&&(j != i&&(!tb bs i j&&!tb bs j i))
 | _=>false
def Zy(P:Program)(ops:Array Oper)(bs:List Nat):Option bH :=
 if P.follows .mixedOrders then match oS P ops ops.toList with
  | some pis =>
   let m:=mX bs pis.length;let fl:=(List.range m).filter (aav pis bs m);let ls:=(List.range m).filter fun i=>!(dS pis i).i.cD&&!fl.contains i;let k1:=(ls.filter fun L=>!fl.all (tb bs L)).length
   if PN ops pis bs m ls fl&&(okF pis bs m ls fl k1&&CY (D0 pis m) (pis.drop m) (uI pis))then
    some (.Oh (v7 pis fl) (zk pis bs m ls 0 (ls.take k1)) (zk pis bs m ls k1 (ls.drop k1)) ((lz pis bs m ls ls.length).map (dS pis)) (uI pis) (pis.drop m))else none
  | none=>none
 else none
def OG(P:Program)(ops:Array Oper):Option bH :=
 match tJ P ops (Region.before ops).toList with
 | some c=>some c
 | none=>match IK P ops with
  | some c=>some c
  | none=>Zy P ops (Region.before ops).toList
def eI(P:Program):Code→Option bH
 | .skip=>some .skip
 | .region _ ops false=>U5 P ops
 | .region _ ops true=>OG P ops
 | .seq a b=>match eI P a,eI P b with
  | some a,some b=>some (.seq a b)
  | _,_=>none
 | .cond c a b=>match cO c,eI P a,eI P b with
  | some c,some a,some b=>some (.ite c a b)
  | _,_,_=>none
 | .block id c=>(eI P c).map (.block id)
 | .loop c=>(eI P c).map .loop
 | .exit id=>some (.exit id)
 | .ret=>some .ret
 | _=>none
theorem gG{P:Program}{ops:Array Oper}{c:bH}(h:U5 P ops=some c):∃ pis,oS P ops ops.toList=some pis∧CY [] pis (uI pis)=true∧c=.ax (uI pis) pis:=by
 unfold U5 at h;split at h
 ·rename_i pis hp;split at h<;>simp only[aa,reduceCtorEq]at h;rename_i gU;exact⟨pis,hp,gU,h.symm⟩
 ·simp at h
theorem sb{P:Program}{ops:Array Oper}{bs:List Nat}{c:bH}(h:tJ P ops bs=some c):
  P.follows .mixedOrders=true∧∃ pis m ls,oS P ops ops.toList=some pis∧PN ops pis bs m ls []=true∧CY (D0 pis m) (pis.drop m) (uI pis)=true ∧
   c=.dC (zk pis bs m ls 0 ls) ((lz pis bs m ls ls.length).map (dS pis)) (uI pis) (pis.drop m):=by
 unfold tJ at h;split at h
 ·rename_i hm;split at h
  ·rename_i pis hp;dsimp only at h;split at h<;>simp only[aa,reduceCtorEq]at h;rename_i gU;rw[aG]at gU;exact⟨hm,pis,_,_,hp,gU.1,gU.2,h.symm⟩
  ·simp at h
 ·simp at h
theorem yO{P:Program}{ops:Array Oper}{c:bH}(h:IK P ops=some c):∃ i j a b,i≠j∧i<ops.size∧j<ops.size∧P.follows .mixedOrders=true ∧
  (∀ x o,x≠i→x≠j→ops[x]?=some o→na o.op=true)∧tJ P (waitsFor ops j i) (Region.before (waitsFor ops j i)).toList=some a ∧
  tJ P (mW (waitsFor ops i j) i j) (Region.before (mW (waitsFor ops i j) i j)).toList=some b∧c=.both a b:=by
 unfold IK at h;split at h
 ·rename_i i j A7;split at h
  ·rename_i hc;obtain⟨h1,h2,h3,h4,h5⟩:=hc;split at h<;>simp only[aa,reduceCtorEq]at h;rename_i a b ha hb;refine⟨i,j,a,b,h1,h2,h3,h4,fun x o vV Il ho=>?_,ha,hb,h.symm⟩;simp only[bU,cA,c8,bR]at h5;have:=h5 x (aX.1 ho).1;rw[ho]at this;rcases this with h | h | h
   ·exact absurd h vV
   ·exact absurd h Il
   ·exact h
  ·simp at h
 ·simp at h
theorem E4{P:Program}{ops:Array Oper}{bs:List Nat}{c:bH}(h:Zy P ops bs=some c):
  P.follows .mixedOrders=true∧∃ pis m ls fl k1,oS P ops ops.toList=some pis∧PN ops pis bs m ls fl=true∧okF pis bs m ls fl k1=true∧CY (D0 pis m) (pis.drop m) (uI pis)=true ∧
   c=.Oh (v7 pis fl) (zk pis bs m ls 0 (ls.take k1)) (zk pis bs m ls k1 (ls.drop k1)) ((lz pis bs m ls ls.length).map (dS pis)) (uI pis) (pis.drop m):=by
 unfold Zy at h;split at h
 ·rename_i hm;split at h
  ·rename_i pis hp;dsimp only at h;split at h<;>simp only[aa,reduceCtorEq]at h;rename_i gU;rw[aG,aG]at gU;exact⟨hm,pis,_,_,_,_,hp,gU.1,gU.2.1,gU.2.2,h.symm⟩
  ·simp at h
 ·simp at h
theorem fP{P:Program}{ops:Array Oper}{c:bH}(h:OG P ops=some c):
  (∃ ds last gs tail,c=.dC ds last gs tail∧tJ P ops (Region.before ops).toList=some c)∨(∃ a b,c=.both a b∧IK P ops=some c) ∨
   (∃ fls ds1 ds2 last gs tail,c=.Oh fls ds1 ds2 last gs tail∧Zy P ops (Region.before ops).toList=some c):=by
 unfold OG at h;split at h
 ·rename_i c' hc;simp only[aa]at h;subst h;obtain⟨_,pis,m,ls,_,_,_,he⟩:=sb hc;exact .inl ⟨_,_,_,_,he,hc⟩
 ·split at h
  ·rename_i c' hc;simp only[aa]at h;subst h;obtain⟨i,j,a,b,_,_,_,_,_,_,_,he⟩:=yO hc;exact .inr (.inl ⟨a,b,he,hc⟩)
  ·obtain⟨_,pis,m,ls,fl,k1,_,_,_,_,he⟩:=E4 h;exact .inr (.inr ⟨_,_,_,_,_,_,he,h⟩)
def cc(n:Nat)(P:Program)(c:bH)(K:Exit→St→Prop)(st:St):Prop:=∀ code,eI P code=some c→PW n P code K st
theorem cc.mono{n:Nat}{P:Program}{c:bH}{K K':Exit→St→Prop}{st:St}(h:cc n P c K st)(hk:∀ e st',K e st'→K' e st'):cc n P c K' st :=
 fun code hc=>(h code hc).mono hk
section rules
variable {n:Nat} {P:Program} {K:Exit→St→Prop} {st:St}
theorem cc.skip(h:K .normal st):cc n P .skip K st:=by
 intro code hc;cases code
 case skip=>exact PW.skip h
 all_goals first | (exfalso;revert hc;simp only[eI];try ((repeat' split)<;>simp);done) | (rename_i _ ops draw;exfalso;cases draw<;>simp only[eI]at hc<;>first | (obtain⟨_,_,_,h⟩:=gG hc;simp at h;done) | (rcases fP hc with⟨_,_,_,_,h,_⟩ | ⟨_,_,h,_⟩ | ⟨_,_,_,_,_,_,h,_⟩<;>simp at h;done))
theorem cc.ax{gs:List Nat}{is:List Pi}(h:je P gs is (K .normal) st):cc n P (.ax gs is) K st:=by
 intro code hc;cases code
 case region id ops draw =>
  cases draw
  ·simp only[eI]at hc;obtain⟨ps,lx,gU,he⟩:=gG hc;simp only[bH.ax.injEq]at he;obtain⟨rfl,rfl⟩:=he;intro B w0 w μ a hS hF;refine wp_region ?_
   have:=xt (P:=P) (ops:=ops) (n:=n) (B:=B) (gs:=uI is) (w0:=w0) (ws:=w) (σs:=st.J) (μs:=μ) (K:=K .normal) (Q:=jM P n B w0 w st.J μ K)
    (fun st' w' μ' a' h1 h2 h3 h4=>⟨st',μ',h1,h2,h3,h4⟩) ops.toList 0 is [] st.fr st.J w μ a (fun j=>by simp) lx gU h hS hF.toI (eJ.refl _ _ _ _)
   simp only[bo,List.map_id',a6]at this;exact this
  ·simp only[eI]at hc;rcases fP hc with⟨_,_,_,_,h,_⟩ | ⟨_,_,h,_⟩ | ⟨_,_,_,_,_,_,h,_⟩<;>simp at h
 all_goals first | (exfalso;revert hc;simp only[eI];try ((repeat' split)<;>simp);done)
theorem cc.dC{ds:List (List Pi×Pi×List Pi)}{last:List Pi}{gs:List Nat}{tail:List Pi}(h:pv P ds last (je P gs tail (K .normal)) st):cc n P (.dC ds last gs tail) K st:=by
 intro code hc;cases code
 case region id ops draw =>
  cases draw
  ·simp only[eI]at hc;obtain⟨_,_,_,h⟩:=gG hc;simp at h
  ·simp only[eI]at hc;rcases fP hc with⟨_,_,_,_,_,hc⟩ | ⟨_,_,h,_⟩ | ⟨_,_,_,_,_,_,h,_⟩
   rotate_left
   ·simp at h
   ·simp at h
   obtain⟨hm,pis,m,ls,lx,gU,wH,he⟩:=sb hc;simp only[bH.dC.injEq]at he;obtain⟨rfl,rfl,rfl,rfl⟩:=he;intro B w0 w μ a hS hF;exact DD (n:=n) hm lx gU wH h hS hF fun st' w' μ' a' h1 h2 h3 h4=>⟨st',μ',h1,h2,h3,h4⟩
 all_goals first | (exfalso;revert hc;simp only[eI];try ((repeat' split)<;>simp);done)
theorem Bg{ops:Array Oper}{bs:List Nat}{c:bH}(hc:tJ P ops bs=some c)(h:∃ ds last gs tail,c=.dC ds last gs tail∧pv P ds last (je P gs tail (K .normal)) st)
  {B:Nat} {w0 w:World} {μ:Mem} {a:Act} (hS:fF P B w0 w st.J μ) (hF:FR w st.J μ st.fr a) :
  wpAny P .any ops (fun e a' w'=>∃ st' μ',K e st'∧fF P B w0 w' st'.J μ'∧FR w' st'.J μ' st'.fr a'∧eJ n w st.J μ w' st'.J μ') ops.size (Array.replicate ops.size false) a { w with drawn:=w.drawn+1 }:=by
 obtain⟨hm,pis,m,ls,lx,gU,wH,rfl⟩:=sb hc;obtain⟨ds,last,gs,tail,he,h⟩:=h;simp only[bH.dC.injEq]at he;obtain⟨rfl,rfl,rfl,rfl⟩:=he;exact sP (n:=n) lx gU wH h hS hF fun st' w' μ' a' h1 h2 h3 h4=>⟨st',μ',h1,h2,h3,h4⟩
theorem cc.both{x y:bH}(h1:∃ ds last gs tail,x=.dC ds last gs tail∧pv P ds last (je P gs tail (K .normal)) st)(h2:∃ ds last gs tail,y=.dC ds last gs tail∧pv P ds last (je P gs tail (K .normal)) st):
  cc n P (.both x y) K st:=by
 intro code hc;cases code
 case region id ops draw =>
  cases draw
  ·simp only[eI]at hc;obtain⟨_,_,_,h⟩:=gG hc;simp at h
  ·simp only[eI]at hc;rcases fP hc with⟨_,_,_,_,h,_⟩ | ⟨a,b,h,hc⟩ | ⟨_,_,_,_,_,_,h,_⟩
   ·simp at h
   rotate_left
   ·simp at h
   obtain⟨i,j,a',b',GC,hi,hj,hm,hp,ha,hb,he⟩:=yO hc;simp only[bH.both.injEq]at he;obtain⟨rfl,rfl⟩:=he;intro B w0 w μ a hS hF;refine BC hm GC hi hj hp ?_ ?_
   ·have:=Bg (n:=n) ha h1 hS hF
    rwa [gP]at this
   ·have:=Bg (n:=n) hb h2 hS hF
    rwa [xd,gP]at this
 all_goals first | (exfalso;revert hc;simp only[eI];try ((repeat' split)<;>simp);done)
theorem cc.Oh{fls:List (Nat×Nat×List V)}{ds1 ds2:List (List Pi×Pi×List Pi)}{last:List Pi}{gs:List Nat}{tail:List Pi}
  (h:uf P (E6 fls) ds1 ds2 last (je P gs tail (K .normal)) (sI st.J.length fls st.fr) st.J []):cc n P (.Oh fls ds1 ds2 last gs tail) K st:=by
 intro code hc;cases code
 case region id ops draw =>
  cases draw
  ·simp only[eI]at hc;obtain⟨_,_,_,h⟩:=gG hc;simp at h
  ·simp only[eI]at hc;rcases fP hc with⟨_,_,_,_,h,_⟩ | ⟨_,_,h,_⟩ | ⟨_,_,_,_,_,_,_,hc⟩
   ·simp at h
   ·simp at h
   obtain⟨hm,pis,m,ls,fl,k1,lx,gU,TW,wH,he⟩:=E4 hc;simp only[bH.Oh.injEq]at he;obtain⟨rfl,rfl,rfl,rfl,rfl,rfl⟩:=he;intro B w0 w μ a hS hF;exact wp_region_any hm (zH (n:=n) lx gU TW wH h hS hF fun st' w' μ' a' h1 h2 h3 h4=>⟨st',μ',h1,h2,h3,h4⟩)
 all_goals first | (exfalso;revert hc;simp only[eI];try ((repeat' split)<;>simp);done)
theorem cc.ret(h:K .ret st):cc n P .ret K st:=by
 intro code hc;cases code
 case ret=>exact PW.ret h
 all_goals first | (exfalso;revert hc;simp only[eI];try ((repeat' split)<;>simp);done) | (rename_i _ ops draw;exfalso;cases draw<;>simp only[eI]at hc<;>first | (obtain⟨_,_,_,h⟩:=gG hc;simp at h;done) | (rcases fP hc with⟨_,_,_,_,h,_⟩ | ⟨_,_,h,_⟩ | ⟨_,_,_,_,_,_,h,_⟩<;>simp at h;done))
theorem cc.exit{id:Nat}(h:K (.exit id) st):cc n P (.exit id) K st:=by
 intro code hc;cases code
 case exit id'=>simp only[eI,aa,bH.exit.injEq]at hc;subst hc;exact PW.exit h
 all_goals first | (exfalso;revert hc;simp only[eI];try ((repeat' split)<;>simp);done) | (rename_i _ ops draw;exfalso;cases draw<;>simp only[eI]at hc<;>first | (obtain⟨_,_,_,h⟩:=gG hc;simp at h;done) | (rcases fP hc with⟨_,_,_,_,h,_⟩ | ⟨_,_,h,_⟩ | ⟨_,_,_,_,_,_,h,_⟩<;>simp at h;done))
def VY(n:Nat)(P:Program)(y:bH)(K:Exit→St→Prop):Exit→St→Prop
 | .normal,st=>cc n P y K st
 | e,st=>K e st
theorem cc.seq{x y:bH}(h:cc n P x (VY n P y K) st):cc n P (.seq x y) K st:=by
 intro code hc;cases code
 case seq p q =>
  simp only[eI]at hc;split at hc<;>simp only[aa,reduceCtorEq,bH.seq.injEq]at hc;rename_i p' q' hp hq;obtain⟨rfl,rfl⟩:=hc;refine PW.seq ((h p hp).mono ?_);intro e st' hK;cases e<;>first | exact hK q hq | exact hK
 all_goals first | (exfalso;revert hc;simp only[eI];try ((repeat' split)<;>simp);done) | (rename_i _ ops draw;exfalso;cases draw<;>simp only[eI]at hc<;>first | (obtain⟨_,_,_,h⟩:=gG hc;simp at h;done) | (rcases fP hc with⟨_,_,_,_,h,_⟩ | ⟨_,_,h,_⟩ | ⟨_,_,_,_,_,_,h,_⟩<;>simp at h;done))
theorem cc.block{id:Nat}{c:bH}(h:cc n P c (uU id K) st):cc n P (.block id c) K st:=by
 intro code hc;cases code
 case block id' c' =>
  simp only[eI,aj,bH.block.injEq]at hc;obtain⟨c2,zo,rfl,rfl⟩:=hc;exact PW.block (h c' zo)
 all_goals first | (exfalso;revert hc;simp only[eI];try ((repeat' split)<;>simp);done) | (rename_i _ ops draw;exfalso;cases draw<;>simp only[eI]at hc<;>first | (obtain⟨_,_,_,h⟩:=gG hc;simp at h;done) | (rcases fP hc with⟨_,_,_,_,h,_⟩ | ⟨_,_,h,_⟩ | ⟨_,_,_,_,_,_,h,_⟩<;>simp at h;done))
theorem cc.loop{c:bH}(I:St→Prop)(m:St→Nat)(h0:I st)(h:∀ st,I st→cc n P c (Sh I m (m st) K) st):cc n P (.loop c) K st:=by
 intro code hc;cases code
 case loop c' =>
  simp only[eI,aj,bH.loop.injEq]at hc;obtain⟨c2,zo,rfl⟩:=hc;exact PW.loop I m h0 fun st hI=>h st hI c' zo
 all_goals first | (exfalso;revert hc;simp only[eI];try ((repeat' split)<;>simp);done) | (rename_i _ ops draw;exfalso;cases draw<;>simp only[eI]at hc<;>first | (obtain⟨_,_,_,h⟩:=gG hc;simp at h;done) | (rcases fP hc with⟨_,_,_,_,h,_⟩ | ⟨_,_,h,_⟩ | ⟨_,_,_,_,_,_,h,_⟩<;>simp at h;done))
theorem cc.ite{c:O}{x y:bH}{b:Bool}(hb:ev st.fr c=.b b)(ht:b=true→cc n P x K st)(hf:b=false→cc n P y K st):cc n P (.ite c x y) K st:=by
 intro code hc;cases code
 case cond c' p q =>
  simp only[eI]at hc;split at hc<;>simp only[aa,reduceCtorEq,bH.ite.injEq]at hc;rename_i c2 p' q' yh hp hq;obtain⟨rfl,rfl,rfl⟩:=hc;intro B w0 w μ a hS hF;have hv:=(hb▸cK hF yh).mE;cases b
  ·exact wp_cond_false hv (hf rfl q hq B w0 w μ a hS hF)
  ·exact wp_cond_true hv (ht rfl p hp B w0 w μ a hS hF)
 all_goals first | (exfalso;revert hc;simp only[eI];try ((repeat' split)<;>simp);done) | (rename_i _ ops draw;exfalso;cases draw<;>simp only[eI]at hc<;>first | (obtain⟨_,_,_,h⟩:=gG hc;simp at h;done) | (rcases fP hc with⟨_,_,_,_,h,_⟩ | ⟨_,_,h,_⟩ | ⟨_,_,_,_,_,_,h,_⟩<;>simp at h;done))
end rules
inductive V.Wf:V→Prop
 | s (l:List UInt8) (h:l.length≤maxLen):Wf (.s l)
 | sl (sz:Nat) (xs:List (List V)) (h:xs.length≤maxLen) (hr:∀ r∈xs,r.length=sz) (hx:∀ i j x,fw xs i j=some x→Wf x):Wf (.sl sz xs)
 | agg (xs:List V) (h:∀ (i:Nat) (x:V),xs[i]?=some x→Wf x):Wf (.agg xs)
 | b (x):Wf (.b x)
 | i (k n):Wf (.i k n)
 | u:Wf .u
 | nil:Wf .nil
 | lit (sz xs):Wf (.lit sz xs)
 | own (id g):Wf (.own id g)
 | sub (id g lo hi):Wf (.sub id g lo hi)
 | ptr (id off):Wf (.ptr id off)
 | ep (sz xs i off):Wf (.ep sz xs i off)
 | rp (id g i off):Wf (.rp id g i off)
 | mp (id):Wf (.mp id)
 | it (id):Wf (.it id)
 | tL (id n):Wf (.tL id n)
 | dx:Wf .dx
 | fN:Wf .fN
 | fn (f caps):Wf (.fn f caps)
 | fu (xs):Wf (.fu xs)
theorem VR.wf{w:World}{J:ae}{μ:Mem}{x:V}{v:Value}(h:VR w J μ x v):x.Wf:=by
 induction h with
 | u v=>exact .u
 | b x=>exact .b x
 | i k n=>exact .i k n
 | s l x hl hm=>exact .s l hm
 | nil=>exact .nil
 | xl sz=>exact .sl sz [] (by simp) (by simp) (by simp[fw])
 | sle sz a=>exact .sl sz [] (by simp) (by simp) (by simp[fw])
 | sl sz xs b o cap f hlen kR ck hc hv ih=>exact .sl sz xs (br hlen kR) ck ih
 | Cn sz=>exact .lit sz _
 | lit sz xs b o f kR ck hc hv ih=>exact .lit sz xs
 | own id g v hid h=>exact .own id g
 | sub id g lo hi v hid h=>exact .sub id g lo hi
 | ptr id off b h hm=>exact .ptr id off
 | ep sz xs i off b o f hi ck hc hv ih=>exact .ep sz xs i off
 | rp id g i off v hid h=>exact .rp id g i off
 | mp id r h hm=>exact .mp id
 | it id v h hm=>exact .it id
 | tL id n b h hm=>exact .tL id n
 | dx=>exact .dx
 | fN=>exact .fN
 | fn f caps vs hl hv ih=>exact .fn f caps
 | agg xs vs hl hv ih=>exact .agg xs ih
 | fu xs vs hl hv ih=>exact .fu xs
def Ob.refs:Ob→List V
 | .box _ cs=>cs
 | .map _ _ es=>es.map (·.2)
 | .iter _ m _ _ _ _=>[.mp m]
 | _=>[]
def bK(J:ae):Prop:=∀ (id:Nat) (o:Ob),J[id]?=some o→∀ (j:Nat) (x:V),o.refs[j]?=some x→x.Lt J.length
theorem fF.closed{P:Program}{B:Nat}{w0 w:World}{J:ae}{μ:Mem}(hS:fF P B w0 w J μ):bK J:=by
 intro id o h j x hx;cases o with
 | dead=>simp[Ob.refs]at hx
 | row E sz by' g sh xs=>simp[Ob.refs]at hx
 | box T cs =>
  obtain⟨b,vs,_,_,_,_,mS⟩:=hS.IL h;obtain⟨u,_,hv⟩:=mS j x hx;exact hv.lt
 | map K E es =>
  obtain⟨r,ents,clock,_,_,_,hR⟩:=hS.obj id _ h;simp only[Ob.refs,bf,aj]at hx;obtain⟨⟨k,y⟩,h1,rfl⟩:=hx;obtain⟨_,_,e,_,_,hv⟩:=hR.2.1 j k y h1;exact hv.lt
 | iter st m E n ps c =>
  have hm:m<J.length:=by
   have:=hS.obj id _ h;cases st
   ·obtain⟨_,_,_,_,_,_,_,_,_,_,_,_,_,_,h2,_⟩:=this;exact(ab.1 h2).1
   ·obtain⟨_,_,_,_,_,_,_,_,_,h2,_⟩:=this;exact(ab.1 h2).1
  cases j with
  | zero=>simp only[Ob.refs,aq,aa]at hx;subst hx;exact .mp _ hm
  | succ j=>simp[Ob.refs]at hx
def Wk(P:Program)(n:Nat)(xs:List V)(J:ae)(xs':List V)(J':ae):Prop :=
 ∀ (B:Nat) (w0 w:World) (μ:Mem) (vs:Array Value),fF P B w0 w J μ→CR w J μ xs vs→∃ μ',fF P B w0 w J' μ'∧CR w J' μ' xs' vs∧eJ n w J μ w J' μ'
theorem Wk.refl{P:Program}{n:Nat}(xs:List V)(J:ae):Wk P n xs J xs J:=fun _ _ _ μ _ h1 h2=>⟨μ,h1,h2,eJ.refl _ _ _ _⟩
theorem Wk.trans{P:Program}{n:Nat}{xs:List V}{J:ae}{xs':List V}{J':ae}{xs'':List V}{J'':ae}(h:Wk P n xs J xs' J')(k:Wk P n xs' J' xs'' J''):Wk P n xs J xs'' J'':=by
 intro B w0 w μ vs h1 h2;obtain⟨μ1,h3,h4,h5⟩:=h B w0 w μ vs h1 h2;obtain⟨μ2,h6,h7,h8⟩:=k B w0 w μ1 vs h3 h4;exact⟨μ2,h6,h7,h5.trans h8⟩
theorem cc.wk{P:Program}{n:Nat}{c:bH}{K:Exit→St→Prop}{fr fr':List V}{J J':ae}(h:Wk P n fr J fr' J')(k:cc n P c K ⟨fr',J'⟩):cc n P c K ⟨fr,J⟩:=by
 intro code hc B w0 w μ a hS hF;obtain⟨μ',h1,h2,h3⟩:=h B w0 w μ a.tmps hS ⟨hF.2.1.symm,hF.2.2⟩;exact wp_mono (k code hc B w0 w μ' a h1 ⟨hF.1,h2.1.symm,h2.2⟩) fun e a' w' ⟨st',μ2,h4,h5,h6,h7⟩=>⟨st',μ2,h4,h5,h6,h3.trans h7⟩
theorem PC.wk{P:Program}{f:Nat}{args args':List V}{J J':ae}{Q:V→ae→Prop}(h:Wk P J.length args J args' J')(k:PC P f args' J' Q):PC P f args J Q:=by
 intro B w0 w μ vs hS hv;obtain⟨μ',h1,h2,h3⟩:=h B w0 w μ vs hS ⟨hv.1.symm,hv.2⟩;refine(k B w0 w μ' vs h1 ⟨h2.1.symm,h2.2⟩).mono ?_;rintro e w' ⟨r,v,σ2,μ2,rfl,h4,h5,h6,h7⟩;exact⟨r,v,σ2,μ2,rfl,h4,h5,h6,fun x u hx=>h7 x u (h3 x u hx hx.lt)⟩
inductive Cv:V→V→Prop
 | refl (x):Cv x x
 | forget (x):Cv x .u
 | nil (sz):Cv .nil (.sl sz [])
 | lit (sz xs):Cv (.lit sz xs) (.sl sz xs)
 | agg (xs ys:List V) (hl:ys.length=xs.length) (h:∀ (i:Nat) (x y:V),xs[i]?=some x→ys[i]?=some y→Cv x y):Cv (.agg xs) (.agg ys)
 | fu (xs ys:List V) (hl:ys.length=xs.length) (h:∀ (i:Nat) (x y:V),xs[i]?=some x→ys[i]?=some y→Cv x y):Cv (.fu xs) (.fu ys)
theorem Cv.ok{w:World}{J:ae}{μ:Mem}{x y:V}(h:Cv x y):∀ {v:Value},VR w J μ x v→VR w J μ y v:=by
 induction h with
 | refl x=>exact fun h=>h
 | forget x=>exact fun _=>.u _
 | nil sz=>intro v h;rw[h.kp];exact .xl _
 | lit sz xs =>
  intro v h;rcases h.np with⟨rfl,rfl⟩ | ⟨b,o,f,rfl,hm,hr⟩
  ·exact .xl _
  ·exact .sl _ _ b o _ f (au _) hm hr.1 hr.2.1 hr.2.2
 | agg xs ys hl hc ih =>
  intro v h;obtain⟨vs,rfl,h1,h2⟩:=h.gA;refine .agg ys vs (by rw[hl,h1]) fun i y hy=>?_;have hi:i<xs.length:=by rw[← hl];exact(ab.1 hy).1
  exact ih i xs[i] y (al hi) hy (h2 i _ (al hi))
 | fu xs ys hl hc ih =>
  intro v h;obtain⟨vs,rfl,h1,h2⟩:=h.Ct;refine .fu ys vs (by rw[hl,h1]) fun i y hy=>?_;have hi:i<xs.length:=by rw[← hl];exact(ab.1 hy).1
  exact ih i xs[i] y (al hi) hy (h2 i _ (al hi))
inductive oY:List V→List V→Prop
 | nil:oY [] []
 | cons {x y xs ys} (h:Cv x y) (t:oY xs ys):oY (x::xs) (y::ys)
theorem oY.at{xs ys:List V}(h:oY xs ys):ys.length=xs.length∧∀ (i:Nat) (x y:V),xs[i]?=some x→ys[i]?=some y→Cv x y:=by
 induction h with
 | nil=>simp
 | cons h t ih =>
  refine⟨by simp[ih.1],fun i x y hx hy=>?_⟩;cases i with
  | zero=>simp only[aq,aa]at hx hy;subst hx;subst hy;exact h
  | succ i=>exact ih.2 i x y (by simpa using hx) (by simpa using hy)
theorem oY.refl(xs:List V):oY xs xs:=by
 induction xs with
 | nil=>exact .nil
 | cons x xs ih=>exact .cons (.refl x) ih
theorem Cv.OT{xs ys:List V}(h:oY xs ys):Cv (.agg xs) (.agg ys):=.agg xs ys h.at.1 h.at.2
theorem Wk.iS{P:Program}{n:Nat}{xs ys:List V}{J:ae}(h:oY xs ys):Wk P n xs J ys J:=by
 intro B w0 w μ vs hS hC;obtain⟨h1,h2⟩:=h.at;refine⟨μ,hS,⟨by rw[h1];exact hC.1,fun i y hy=>?_⟩,eJ.refl _ _ _ _⟩;have hi:i<xs.length:=by rw[← h1];exact(ab.1 hy).1
 exact(h2 i xs[i] y (al hi) hy).ok (hC.2 i _ (al hi))
theorem Wk.share{P:Program}{n:Nat}{xs:List V}{J:ae}{id E sz by' g:Nat}{sh:Bool}{rows:List (List V)}(ho:J[id]?=some (.row E sz by' g sh rows)):Wk P n xs J xs (J.set id (.row E sz by' g true rows)):=by
 intro B w0 w μ vs hS hC;have dp:id<J.length:=(ab.1 ho).1
 have oe:=hS.update (w':=w) (J':=J.set id (.row E sz by' g true rows)) (μ':=μ) id none (grownBy_refl w none) (by simp) (by simp) (fun j hj=>aK (fun e=>hj e.symm)) (fun _ _=>rfl)
  (fun b hb=>.inl ⟨_,ho,by simp,hb⟩)
  (fun b off u o h1 _ h2 h3 h4=>⟨h3,fun o' h5 h6=>by
   rw[ho]at h1;simp only[aa]at h1;subst h1;simp only[ao dp,aa]at h5;subst h5;intro hw;exact h4 ⟨id,_,ho,h2,fun _=>hw rfl⟩⟩)
  (fun T cs h=>by rw[ho]at h;simp at h) (fun K E es h=>by rw[ho]at h;simp at h)
  (fun E2 sz2 by2 g2 sh2 xs2 _ h=>by
   simp only[ao dp,aa,Ob.row.injEq]at h;obtain⟨rfl,rfl,rfl,rfl,rfl,rfl⟩:=h;exact⟨g,sh,rows,ho,au _,fun _=>⟨rfl,rfl⟩⟩)
  (fun hp o h=>by
   simp only[ao dp,aa]at h;subst h;exact(hS.obj id _ ho).eO hp.eO fun _ _=>rfl)
 exact⟨μ,oe.1,⟨hC.1,fun i x hx=>(hC.2 i x hx).mono oe.2⟩,oe.2.eO.Li⟩
theorem VR.sV{P:Program}{B:Nat}{w0 w:World}{J:ae}{μ:Mem}(hS:fF P B w0 w J μ){id E sz by' g:Nat}{rows:List (List V)}(ho:J[id]?=some (.row E sz by' g true rows))(lo hi:Nat)(hlh:lo≤hi)(hh:hi≤rows.length):
  VR w J μ (.sl sz ((rows.drop lo).take (hi - lo))) (kK (μ id) lo hi sz):=by
 obtain⟨_,ck,hr⟩:=hS.rowAt ho;have hl:((rows.drop lo).take (hi - lo)).length=hi - lo:=by simp;omega
 rcases hr with⟨hm,hn⟩ | ⟨b,cap,cur,hm,_,hc,CZ,_,hr⟩
 ·subst hn;simp only[ay]at hh;have h3:lo=0:=by omega
  have h4:hi=0:=by omega
  subst h3;subst h4;rw[hm];exact .xl sz
 ·rw[hm];let f:Nat→Nat→Value:=fun i j=>(w.cell? ⟨b,i*sz+j,none⟩).getD undef
  have hf:∀ i j x,fw rows i j=some x→w.cell? ⟨b,i*sz+j,none⟩=some (f i j)∧x.pure=true∧VR w J μ x (f i j):=by
   intro i j x hx;obtain⟨h1,u,h2,h3⟩:=hr i j x hx;have:f i j=u:=by simp[f,h2]
   exact⟨by rw[this];exact h2,h1,by rw[this];exact h3⟩
  have hnw:∀ i j x,fw rows i j=some x→¬ wr J μ b (i*sz+j):=by
   rintro i j x hx ⟨id2,o2,h1,h2,h3⟩;have hd:o2≠.dead:=by rintro rfl;exact h3
   have:=hS.sep id id2 _ o2 b ho h1 (by simp) hd (by simp[hm,ir]) h2;subst this;rw[ho]at h1;simp only[aa]at h1;subst h1;have h4:=h3 rfl;obtain⟨r,XY,sA⟩:=ib hx;have hi':i<rows.length:=(ab.1 XY).1;have hj:j<sz:=by rw[← ck r (aV XY)];exact(ab.1 sA).1
   have:(i+1)*sz≤rows.length*sz:=bJ _ hi';rw[cB,gE]at this;omega
  have eH:mP w J μ rows sz b 0 f:=⟨ck,fun i j x hx=>⟨by rw[bo];exact(hf i j x hx).1,by rw[bo];exact hnw i j x hx,(hf i j x hx).2.1⟩,fun i j x hx=>(hf i j x hx).2.2⟩
  by_cases he:cap=lo
  ·have h3:hi - lo=0:=by omega
   simp only[kK,he,aO,h3,jC,eT];exact .sl sz [] b 0 0 f (by simp) (by simp) (by simp) (by simp[fw]) (by simp[fw])
  ·simp only[kK,he,aJ,bY,Addr.add_lit];have h5:=eH.sub lo (hi - lo);have h6:=VR.sl (w:=w) (J:=J) (μ:=μ) sz _ b _ (cap - lo) _ (by rw[hl];omega) (by omega) h5.1 h5.2.1 h5.2.2
   rwa [hl]at h6
theorem Dq{P:Program}{B:Nat}{w0 w:World}{J:ae}{μ:Mem}(hS:fF P B w0 w J μ){id E sz by' g:Nat}{sh:Bool}{rows:List (List V)}(ho:J[id]?=some (.row E sz by' g sh rows)):kK (μ id) 0 rows.length sz=μ id:=by
 rcases(hS.rowAt ho).2.2 with⟨hm,hn⟩ | ⟨b,cap,cur,hm,_⟩
 ·subst hn;rw[hm];rfl
 ·rw[hm];simp[kK,Addr.add_lit]
theorem Wk.own{P:Program}{n:Nat}{xs:List V}{J:ae}{k id E sz by' g:Nat}{rows:List (List V)}(ho:J[id]?=some (.row E sz by' g true rows))(hk:xs[k]?=some (.own id g)):Wk P n xs J (xs.set k (.sl sz rows)) J:=by
 intro B w0 w μ vs hS hC;have dp:k<xs.length:=(ab.1 hk).1;refine⟨μ,hS,⟨by simp[hC.1],fun i y hy=>?_⟩,eJ.refl _ _ _ _⟩
 by_cases hi:i=k
 ·subst hi;rw[ao dp]at hy;simp only[aa]at hy;subst hy;have h1:=hC.2 i _ hk;have h2:=h1.jS ho;rw[h2];have:=VR.sV hS ho 0 rows.length (by omega) (au _);rw[Dq hS ho]at this;simpa using this
 ·rw[aK (fun e=>hi e.symm)]at hy;exact hC.2 i y hy
theorem Wk.sub{P:Program}{n:Nat}{xs:List V}{J:ae}{k id E sz by' g lo hi:Nat}{rows:List (List V)}(ho:J[id]?=some (.row E sz by' g true rows))(hk:xs[k]?=some (.sub id g lo hi)):Wk P n xs J (xs.set k (.sl sz ((rows.drop lo).take (hi - lo)))) J:=by
 intro B w0 w μ vs hS hC;have dp:k<xs.length:=(ab.1 hk).1;refine⟨μ,hS,⟨by simp[hC.1],fun i y hy=>?_⟩,eJ.refl _ _ _ _⟩
 by_cases hi:i=k
 ·subst hi;rw[ao dp]at hy;simp only[aa]at hy;subst hy;obtain⟨h1,h2,h3⟩:=(hC.2 i _ hk).oI ho;rw[h3];exact VR.sV hS ho lo _ h1 h2
 ·rw[aK (fun e=>hi e.symm)]at hy;exact hC.2 i y hy
theorem Wk.ko{P:Program}{n:Nat}{xs:List V}{J:ae}{k E sz by':Nat}(hT:Ti P E sz by')(hk:xs[k]?=some .nil):Wk P n xs J (xs.set k (.own J.length 0)) (J++[.row E sz by' 0 false []]):=by
 intro B w0 w μ vs hS hC;have dp:k<xs.length:=(ab.1 hk).1;have hn:=hS.ph (w':=w) (.row E sz by' 0 false []) (.slice none 0 0) (grownBy_refl w none) (by simp[ir]) (fun _=>⟨hT,[],World.ownsRow_nil w B E sz,by simp,by simp[fw]⟩);refine⟨_,hn.1,⟨by simp[hC.1],fun i y hy=>?_⟩,hn.2.eO.Li⟩
 by_cases hi:i=k
 ·subst hi;rw[ao dp]at hy;simp only[aa]at hy;subst hy;rw[(hC.2 i _ hk).kp];have:=VR.nD (w:=w) (J:=J++[.row E sz by' 0 false []]) (μ:=pD μ J.length (.slice none 0 0)) (id:=J.length) (E:=E) (sz:=sz) (by':=by') (g:=0) (sh:=false) (xs:=[]) (by simp)
  rwa [dV]at this
 ·rw[aK (fun e=>hi e.symm)]at hy;exact(hC.2 i y hy).mono hn.2
theorem jP{x:V}(h:x.pure=true)(m:Nat):x.Lt m:=by
 cases x<;>simp[V.pure]at h
 ·exact .b _
 ·exact .i _ _
 ·exact .s _
 ·exact .sl _ _
theorem VR.take{w:World}{J:ae}{μ:Mem}{x:V}{v:Value}(h:VR w J μ x v){m:Nat}(hm:m≤J.length)(hx:x.Lt m):VR w (J.take m) μ x v:=by
 have hw:∀ b off,wr (J.take m) μ b off→wr J μ b off:=by
  rintro b off ⟨id,o,h1,h2,h3⟩;refine⟨id,o,?_,h2,h3⟩;rw[sq]at h1;split at h1
  ·exact h1
  ·simp at h1
 have eH:∀ {id:Nat} {o:Ob},id<m→((J.take m)[id]?=some o↔J[id]?=some o):=fun h=>by rw[bj h]
 have hlen:(J.take m).length=m:=by simp;omega
 induction h with
 | u v=>exact .u v
 | b x=>exact .b x
 | i k n=>exact .i k n
 | s l x hl hm=>exact .s l x hl hm
 | nil=>exact .nil
 | xl sz=>exact .xl sz
 | sle sz a=>exact .sle sz a
 | sl sz xs b o cap f hlen kR ck hc hv ih =>
  exact .sl sz xs b o cap f hlen kR ck (fun i j x hx=>⟨(hc i j x hx).1,fun h=>(hc i j x hx).2.1 (hw _ _ h),(hc i j x hx).2.2⟩) (fun i j x hx=>ih i j x hx (jP (hc i j x hx).2.2 m))
 | Cn sz=>exact .Cn sz
 | lit sz xs b o f kR ck hc hv ih =>
  exact .lit sz xs b o f kR ck (fun i j x hx=>⟨(hc i j x hx).1,fun h=>(hc i j x hx).2.1 (hw _ _ h),(hc i j x hx).2.2⟩) (fun i j x hx=>ih i j x hx (jP (hc i j x hx).2.2 m))
 | own id g v hid h =>
  cases hx with
  | own _ _ hl=>exact .own id g v (by rw[hlen];exact hl) fun E sz by' g' sh xs ho=>h E sz by' g' sh xs ((eH hl).1 ho)
 | sub id g lo hi v hid h =>
  cases hx with
  | sub _ _ _ _ hl=>exact .sub id g lo hi v (by rw[hlen];exact hl) fun E sz by' g' sh xs ho=>h E sz by' g' sh xs ((eH hl).1 ho)
 | ptr id off b h hm =>
  cases hx with
  | ptr _ _ hl =>
   obtain⟨T,cs,h1⟩:=h;exact .ptr id off b ⟨T,cs,(eH hl).2 h1⟩ hm
 | ep sz xs i off b o f hi ck hc hv ih =>
  exact .ep sz xs i off b o f hi ck (fun j x hx=>⟨(hc j x hx).1,fun h=>(hc j x hx).2.1 (hw _ _ h),(hc j x hx).2.2⟩) (fun j x hx=>ih j x hx (jP (hc j x hx).2.2 m))
 | rp id g i off v hid h =>
  cases hx with
  | rp _ _ _ _ hl=>exact .rp id g i off v (by rw[hlen];exact hl) fun E sz by' g' sh xs ho=>h E sz by' g' sh xs ((eH hl).1 ho)
 | mp id r h hm =>
  cases hx with
  | mp _ hl =>
   obtain⟨K,E,es,h1⟩:=h;exact .mp id r ⟨K,E,es,(eH hl).2 h1⟩ hm
 | it id v h hm =>
  cases hx with
  | it _ hl =>
   obtain⟨st,m',E,n,ps,c,h1⟩:=h;exact .it id v ⟨st,m',E,n,ps,c,(eH hl).2 h1⟩ hm
 | tL id n b h hm =>
  cases hx with
  | tL _ _ hl =>
   obtain⟨T,cs,h1⟩:=h;exact .tL id n b ⟨T,cs,(eH hl).2 h1⟩ hm
 | dx=>exact .dx
 | fN=>exact .fN
 | fn f caps vs hl hv ih =>
  cases hx with
  | fn _ _ h=>exact .fn f caps vs hl fun i x hx=>ih i x hx (h i x hx)
 | agg xs vs hl hv ih =>
  cases hx with
  | agg _ h=>exact .agg xs vs hl fun i x hx=>ih i x hx (h i x hx)
 | fu xs vs hl hv ih =>
  cases hx with
  | fu _ h=>exact .fu xs vs hl fun i x hx=>ih i x hx (h i x hx)
theorem sY{x:V}(h:x.nX=true)(m:Nat):x.Lt m:=by
 cases x<;>simp[V.nX]at h
 ·exact .b _
 ·exact .i _ _
 ·exact .s _
 ·rename_i xs;refine .agg _ fun i x hx=>?_;have:=h x (aV hx);cases x<;>simp[V.Jh]at this
  ·exact .b _
  ·exact .i _ _
  ·exact .s _
theorem map_lt{es:List (V×V)}{m:Nat}(h:∀ (j:Nat) (x:V),(es.map (·.2))[j]?=some x→x.Lt m){i:Nat}{k x:V}(hi:es[i]?=some (k,x)):x.Lt m :=
 h i x (by rw[bf,hi];rfl)
theorem uD{P:Program}{B:Nat}{w:World}{J:ae}{μ:Mem}{J':ae}{μ':Mem}{v:Value}{st:Bool}{m E n:Nat}{ps:List Nat}{c:Option Nat}(h:wc P B w J μ v (.iter st m E n ps c))(h1:J'[m]?=J[m]?)(h2:μ' m=μ m):wc P B w J' μ' v (.iter st m E n ps c):=by
 have hl:=tO.same (w:=w) (w':=w) h1 h2 fun _ _=>rfl;cases st
 ·obtain⟨r,bm,since,seen,q1,q2,q3,q5⟩:=h;exact⟨r,bm,since,seen,q1,q2,q3,q5.step hl⟩
 ·obtain⟨born,q1,q2⟩:=h;exact⟨born,q1,q2.step hl⟩
theorem Wk.drop{P:Program}{n m:Nat}{xs:List V}{J:ae}(TZ:n≤m)(hm:m≤J.length)(hx:∀ (i:Nat) (x:V),xs[i]?=some x→x.Lt m)(bz:∀ (id:Nat) (o:Ob),id<m→J[id]?=some o→∀ (j:Nat) (x:V),o.refs[j]?=some x→x.Lt m):Wk P n xs J xs (J.take m):=by
 intro B w0 w μ vs hS hC
 have eH:∀ {id:Nat} {o:Ob},(J.take m)[id]?=some o→id<m∧J[id]?=some o:=by
  intro id o h;rw[sq]at h;split at h
  ·exact⟨by assumption,h⟩
  ·simp at h
 refine⟨μ,⟨hS.below,hS.base,fun id o ho=>?_,fun i j oi oj b hi hj h1 h2 h3 h4=>hS.sep i j oi oj b (eH hi).2 (eH hj).2 h1 h2 h3 h4⟩,⟨hC.1,fun i x hx'=>(hC.2 i x hx').take hm (hx i x hx')⟩,fun x v hv hl=>hv.take hm (hl.mono TZ)⟩;obtain⟨hid,ho'⟩:=eH ho;have cX:=hS.obj id o ho';cases o with
 | dead=>trivial
 | box T cs =>
  obtain⟨b,us,h1,h2,h3,h4,h5⟩:=cX;exact⟨b,us,h1,h2,h3,h4,fun j x hj=>let ⟨u,h6,h7⟩:=h5 j x hj;⟨u,h6,h7.take hm (bz id _ hid ho' j x hj)⟩⟩
 | row E sz by' g sh rows =>
  obtain⟨h1,vals,h2,h3⟩:=cX;exact⟨h1,vals,h2,h3.1,fun i j x hj=>let ⟨h4,u,h5,h6⟩:=h3.2 i j x hj;⟨h4,u,h5,h6.take hm (jP h4 m)⟩⟩
 | map K E es =>
  obtain⟨r,ents,clock,h1,h2,h3,h4⟩:=cX;exact⟨r,ents,clock,h1,h2,h3,h4.1,fun i k x hi=>let ⟨h5,h6,e,h7,h8,h9⟩:=h4.2.1 i k x hi;⟨h5,h6,e,h7,h8.take hm (sY h5 m),h9.take hm (map_lt (bz id _ hid ho') hi)⟩,h4.2.2⟩
 | iter st m' E n ps c =>
  have dp:m'<m:=by
   have:=bz id _ hid ho' 0 (.mp m') rfl;cases this;assumption
  exact uD cX (bj dp) rfl
theorem Wk.Bc{P:Program}{n:Nat}{xs:List V}{J loc:ae}(hn:n≤J.length)(bz:bK J)(hx:∀ (i:Nat) (x:V),xs[i]?=some x→x.Lt J.length):Wk P n xs (J++loc) xs J:=by
 have:=Wk.drop (P:=P) (n:=n) (m:=J.length) (xs:=xs) (J:=J++loc) hn (by simp) hx (fun id o hid h j x hj=>bz id o (by rwa [ai hid]at h) j x hj);simpa using this
inductive Rs where
 | t (n:Nat)
 | c (n:Nat) (k:Option Nat)
structure cu where
 nt:Nat
 rs:List Rs
 c:bH
def SE(P:Program):List ResultVar→Option (List Rs)
 | []=>some []
 | .tmp t::r=>(SE P r).map (.t t::·)
 | .cell t T::r=>match eD P T,P.info? T,SE P r with
  | some true,some ti,some rs=>some (.c t (some ti.size)::rs)
  | some false,some _,some rs=>some (.c t none::rs)
  | _,_,_=>none
def cq(P:Program)(fn:Func):Option cu :=
 match fn.body with
 | some code=>match eI P code,SE P fn.results.toList with
  | some c,some rs=>some ⟨fn.ntmps,rs,c⟩
  | _,_=>none
 | none=>none
def vQ(st:St):Rs→Option V
 | .t n=>some (st.fr.getD n .u)
 | .c n k=>match st.fr.getD n .u with
  | .ptr id off=>match st.J[id]? with
   | some (.box _ cs)=>match k with
    | none=>cs[off]?
    | some m=>if off+m≤cs.length then some (.agg ((cs.drop off).take m))else none
   | _=>none
  | _=>none
def kn(st:St):List Rs→Option (List V)
 | []=>some []
 | r::rs=>match vQ st r,kn st rs with
  | some x,some xs=>some (x::xs)
  | _,_=>none
def one:List V→V
 | [x]=>x
 | xs=>.fu xs
def rM(P:Program)(n:Nat)(rs:List Rs)(Q:V→ae→Prop)(e:Exit)(st:St):Prop :=
 (e=.normal∨e=.ret)∧∃ xs,kn st rs=some xs∧∃ r J',Wk P n [one xs] st.J [r] J'∧Q r J'
def FQ(tmps:Array Value):ResultVar→Sem Value
 | .tmp t=>pure (tmps.getD t undef)
 | .cell a t=>do loadVar t (← asAddr (tmps.getD a undef))
theorem FP(fn:Func)(tmps:Array Value):results fn tmps=(do let vs ← fn.results.mapM (FQ tmps);pure (if h:vs.size=1 then vs[0]else .tuple vs)):=rfl
theorem u6{P:Program}{B:Nat}{w0 w:World}{st:St}{μ:Mem}{a:Act}(hS:fF P B w0 w st.J μ)(hF:FR w st.J μ st.fr a):∀ (l:List ResultVar) (rs:List Rs) (xs:List V),SE P l=some rs→kn st rs=some xs →
  ∃ vs:List Value,(l.mapM (FQ a.tmps)).run P w=.ok vs w∧vs.length=xs.length∧∀ (i:Nat) (x:V),xs[i]?=some x→VR w st.J μ x (vs.getD i undef)
 | [],rs,xs,hc,hx=>by
  simp only[SE,aa]at hc;subst hc;simp only[kn,aa]at hx;subst hx;exact⟨[],by simp,rfl,by simp⟩
 | r::l,rs,xs,hc,hx=>by
  have key:∃ r' rs',rs=r'::rs'∧SE P l=some rs'∧∀ x,vQ st r'=some x→∃ v,(FQ a.tmps r).run P w=.ok v w∧VR w st.J μ x v:=by
   cases r with
   | tmp t =>
    simp only[SE,aj]at hc;obtain⟨rs',h1,rfl⟩:=hc;refine⟨.t t,rs',rfl,h1,fun x h=>⟨_,rfl,?_⟩⟩;simp only[vQ,aa]at h;subst h;exact hF.at t
   | cell t T =>
    simp only[SE]at hc
    have inner:∀ (g:Bool) (ti:TypeInfo),eD P T=some g→P.info? T=some ti→∀ x,vQ st (.c t (if g then some ti.size else none))=some x→∃ v,(do loadVar T (← asAddr (a.tmps.getD t undef)):Sem Value).run P w=.ok v w∧VR w st.J μ x v:=by
     intro g ti hg Sk x h;simp only[vQ]at h;split at h
     ·rename_i id off hp;have h1:=hp▸hF.at t;obtain⟨b,hm,hv,_⟩:=h1.nk;split at h
      ·rename_i T' cs hb;obtain⟨b',vs,hm',hB,hh,fE,mS⟩:=hS.IL hb;rw[hm]at hm';simp only[Value.pointer.injEq,aa,Addr.mk.injEq,fA]at hm';subst hm';have hl:=Ea (P:=P) (J:=st.J) (μ:=μ) (row:=cs) (k:=if g then some ti.size else none) (b:=b) (off:=off) Sk (Ej hg) off (fun j z hz=>mS _ z hz)
       have he:(do loadVar T (← asAddr (a.tmps.getD t undef)):Sem Value).run P w=(Instr.loadAt T (.pointer (some ⟨b,off,none⟩))).run P w:=by
        rw[hv];rfl
       rw[he];cases g
       ·simp only[aA,aJ]at h hl;exact hl.1 trivial x h
       ·simp only[aO]at h hl;split at h<;>simp only[aa,reduceCtorEq]at h;rename_i hle;subst h;exact hl.2 _ rfl hle
      ·simp at h
     ·simp at h
    split at hc<;>simp only[aa,reduceCtorEq]at hc
    ·rename_i ti rs' hg Sk h1;exact⟨_,rs',hc.symm,h1,fun x h=>inner true ti hg Sk x h⟩
    ·rename_i ti rs' hg Sk h1;exact⟨_,rs',hc.symm,h1,fun x h=>inner false ti hg Sk x h⟩
  obtain⟨r',rs',rfl,h1,h2⟩:=key;simp only[kn]at hx;split at hx<;>simp only[aa,reduceCtorEq]at hx;rename_i x ys vV wG;subst hx;obtain⟨v,h3,h4⟩:=h2 x vV;obtain⟨vs,h5,h6,h7⟩:=u6 hS hF l rs' ys h1 wG;refine⟨v::vs,?_,by simp[h6],fun i y hy=>?_⟩
  ·simp only[List.mapM_cons,Sem.run_bind,h3,Result.andThen_ok,h5,Sem.run_pure]
  ·cases i with
   | zero=>simp only[aq,aa]at hy;subst hy;simpa using h4
   | succ i=>simpa using h7 i y (by simpa using hy)
theorem PC.intro{P:Program}{f:Nat}{fn:Func}{pf:cu}{args:List V}{J:ae}{Q:V→ae→Prop}(hf:P.funcs[f]?=some fn)(hc:cq P fn=some pf)
  (h:bK J→(∀ (i:Nat) (x:V),args[i]?=some x→x.Wf∧x.Lt J.length)→cc J.length P pf.c (rM P J.length pf.rs Q) ⟨args++List.replicate (pf.nt - args.length) .u,J⟩):PC P f args J Q:=by
 unfold cq at hc;split at hc
 ·rename_i code hb;split at hc<;>simp only[aa,reduceCtorEq]at hc;rename_i c rs yh Nk;subst hc;intro B w0 w μ vs hS hv;refine calls_of_wp hf hb ?_
  have hF:FR w J μ (args++List.replicate (fn.ntmps - args.length) .u) { tmps:=vs++Array.replicate (fn.ntmps - vs.size) undef,defers:=[] }:=by
   refine⟨rfl,by simp[hv.1],fun i x hx=>?_⟩
   by_cases hi:i<args.length
   ·rw[ai hi]at hx;have h1:=hv.2 i x hx;have GG:i<vs.size:=by rw[hv.1];exact hi
    have e:(vs++Array.replicate (fn.ntmps - vs.size) undef).getD i undef=vs.getD i undef:=by
     simp only[bl,fU GG]
    simp only[e];exact h1
   ·rw[aH (by omega)]at hx
    have:x=.u:=by
     have:=(ab.1 hx).2;simpa using this.symm
    subst this;exact .u _
  refine wp_mono (h hS.closed (fun i x hx=>⟨(hv.2 i x hx).wf,(hv.2 i x hx).lt⟩) code yh B w0 w μ _ hS hF) ?_;rintro e a' w' ⟨st',μ',hK,hS',hF',hk⟩;obtain⟨he,xs,tQ,r,J',hw,hQ⟩:=hK;obtain⟨us,h1,h2,h3⟩:=u6 hS' hF' fn.results.toList rs xs Nk tQ
  have aaK:∃ v,(results fn a'.tmps).run P w'=.ok v w'∧VR w' st'.J μ' (one xs) v:=by
   have hr:(results fn a'.tmps).run P w'=.ok (if h:us.toArray.size=1 then us.toArray[0]else .tuple us.toArray) w':=by
    rw[FP,Array.mapM_eq_mapM_toList];simp only[Sem.run_bind,Sem.run_map,h1,Result.andThen_ok,Sem.run_pure]
   refine⟨_,hr,?_⟩
   match xs,us,h2,h3 with
   | [x],[u],_,h3=>have:=h3 0 x rfl;exact this
   | [],[],_,_=>exact .fu [] #[] rfl (by simp)
   | x::y::xs,u::v::us,h2,h3 =>
    have ig:¬ ((u::v::us).toArray.size=1):=by simp
    rw[dif_neg ig]
    exact .fu _ _ (by simpa using h2.symm) fun i z hz=>by
     have:=h3 i z hz;simpa[ar]using this
  obtain⟨v,hr,hv'⟩:=aaK
  obtain⟨μ2,h4,h5,h6⟩:=hw B w0 w' μ' #[v] hS' ⟨rfl,fun i x hx=>by
   cases i with
   | zero=>simp only[aq,aa]at hx;subst hx;simpa using hv'
   | succ i=>simp at hx⟩
  have vY:∃ r v_1 J' μ',Ending.returned v=.returned v_1∧Q r J'∧fF P B w0 w' J' μ'∧VR w' J' μ' r v_1∧lJ w J μ w' J' μ' :=
   ⟨r,v,J',μ2,rfl,hQ,h4,by have:=h5.2 0 r rfl;simpa using this,fun x u hx=>h6 x u (hk x u hx hx.lt) hx.lt⟩
  rcases he with rfl | rfl
  ·exact⟨hF'.1,v,hr,vY⟩
  ·exact⟨hF'.1,v,hr,vY⟩
 ·simp at hc
end Go.Pm

/- A part of a proof; the claim's last text says of what. -/
import Derived.Maps.RangeRun
import Derived.Test.YtlakkaamfadipaaGreatDoorS9
set_option linter.all false

namespace Go.Pm
open Go Go.RowKit
section EZ
variable {P:Program} {o:Oper} {a:Act} {B:Nat} {w0 w:World} {J:ae} {μ:Mem} {fr:List V} (hF:FR w J μ fr a) (hS:fx P B w0 w J μ)
include hF hS
theorem acp{T E:TypeId}{t:TypeInfo}{z:Value}{l c:Operand}{l' c':O}{zs0:List V}{szs:List (Option Nat)}(ho:o.op=.makeSlice T l c)(hT:P.underlying T=some (.slice E))(ht:P.info? E=some t)(hz:t.zero=some z)
  (fw:0<t.size) (lU:z.cells.size=t.size) (Q9:gH z.cells.toList=some zs0) (hl:cO l=some l') (hc:cO c=some c')
  {ob:Prop} {r:V} {J':ae} (h:bO fr J (.mk E t.size t.bytes (cx szs zs0) l' c')=some (ob,r,J')) (cY:ob):pr P o a B w0 w J μ r J':=by
 have h1:=cP hF hl;have h2:=cP hF hc;simp only[bO]at h;split at h
 ·rename_i k n k2 m hn hm;simp only[aa,ao]at h;obtain⟨rfl,rfl,rfl⟩:=h;obtain⟨Oc,UJ,hm0,Zc,Of,N5⟩:=cY;rw[hn]at h1;rw[hm]at h2;have Jp:Ti P E t.size t.bytes:=⟨fw,t,z,ht,hz,rfl,rfl,lU⟩;obtain⟨M,rfl⟩:=xq hm0;have Ox:CR w J μ (cx szs zs0) z.cells:=(jU Q9).cx szs;have VW:(cx szs zs0).length=t.size:=by rw[Ox.1];exact lU
  have jr:t.bytes*M≤281474976710656:=by
   have h3:((M*t.bytes:Nat):Int)≤281474976710656:=by rw[Int.natCast_mul];exact Zc
   rw[fa];exact Int.ofNat_le.1 h3
  have hM:M≤maxLen:=Int.ofNat_le.1 Of
  have fin:∀ (v:Value) (w':World) (N:Nat) (vals:List Value),(Instr.makeSlice T (a.eval l) (a.eval c)).run P w=.ok v w'→w'.ownsRow B E t.size v N vals→w.grownBy w' none→(∀ b,ic v=some b→w.heap.size≤b)→n.toNat=N →
    mc w J μ (List.replicate N (cx szs zs0)) t.size vals→pr P o a B w0 w J μ (.own J.length 0) (J++[.row E t.size t.bytes 0 false (List.replicate n.toNat (cx szs zs0))]):=by
   intro v w' N vals hr fk hg hbk hN cq;rw[hN];have jd:=hS.pB (w':=w') (.row E t.size t.bytes 0 false (List.replicate N (cx szs zs0))) v hg hbk (fun hp=>⟨Jp,vals,by rw[oO];exact fk,cq.eH hp.eH⟩);refine⟨v,w',_,.inl (by simp only[execOp,ho,Sem.run_bind,hr,Result.andThen_ok,Sem.run_pure]),jd.1,?_,jd.2⟩;have:=VR.nN (w:=w') (J:=J++[.row E t.size t.bytes 0 false (List.replicate N (cx szs zs0))]) (μ:=pT μ J.length v) (id:=J.length) (E:=E) (sz:=t.size) (by':=t.bytes) (g:=0) (sh:=false) (xs:=List.replicate N (cx szs zs0)) (by simp)
   rwa [dU]at this
  rcases UJ with rfl | rfl
  ·obtain⟨w',hr,fk,hg⟩:=run_make_full (P:=P) w B T E t z t.size hT ht hz rfl k k2 M jr hM hS.base;refine fin _ w' M _ (by rw[h1.ei,h2.ei];exact hr) fk hg (fun b hb=>by simp only[ic,aa]at hb;omega) (by simp) ⟨fun r hr=>by rw[ZI hr];exact VW,fun i j x hx=>?_⟩;obtain⟨hi,hj⟩:=OR hx;have kI:j<t.size:=by rw[← VW];exact(ab.1 hj).1
   have xd:i*t.size+j<M*t.size:=by
    have:(i+1)*t.size≤M*t.size:=bM _ hi;rw[cD,gy]at this;omega
   refine⟨N5 x (aT hj),z.cells.getD j undef,?_,Ox.2 j x hj⟩;have Od:(i*t.size+j) % z.cells.size=j:=by rw[lU,Nat.add_comm,Nat.add_mul_mod_self_right,xo kI]
   simp only[madeCells,lM,Array.toList_range,a8,gS xd,bK,Od];rw[tV _ _ (by omega)]
  ·obtain⟨w',hr,fk,hg⟩:=run_make_own (P:=P) w B T E t z t.size hT ht hz rfl k k2 M jr hM hS.base;exact fin _ w' 0 _ (by rw[h1.ei,h2.ei];exact hr) fk hg (fun b hb=>by simp only[ic,aa]at hb;omega) (by simp) ⟨by simp,fun i j x hx=>by simp[eS]at hx⟩
 ·simp at h
theorem Zv{T E:TypeId}{t:TypeInfo}{l c:Operand}{l' c':O}(ho:o.op=.makeSlice T l c)(hT:P.underlying T=some (.slice E))(ht:P.info? E=some t)(hz:t.zero=some (.slice none 0 0))(Fl:t.size=1)(hl:cO l=some l')(hc:cO c=some c')
  {ob:Prop} {r:V} {J':ae} (h:bO fr J (.SM E t.bytes l' c')=some (ob,r,J')) (cY:ob):pr P o a B w0 w J μ r J':=by
 have h1:=cP hF hl;have h2:=cP hF hc;simp only[bO]at h;split at h
 ·rename_i k n k2 m hn hm;simp only[aa,ao]at h;obtain⟨rfl,rfl,rfl⟩:=h;obtain⟨rfl,Oc,Zc,Of⟩:=cY;rw[hn]at h1;rw[hm]at h2;have Ll:(maxLen:Int)≤9223372036854775807:=by decide
  have hr:=run_make (P:=P) w T E t (.slice none 0 0) hT ht hz k k2 n n Oc (cy _) (by rw[Int.mul_comm];exact Zc) (dq Of Ll)
  have Ox:CR w J μ (List.replicate n.toNat .nil) (madeCells (Value.slice none 0 0).cells (n.toNat*t.size)):=by
   refine⟨by simp[size_madeCells,Fl],fun i x hx=>?_⟩;have hi:i<n.toNat:=by have:=(ab.1 hx).1;simpa using this
   have NW:x=.nil:=ZI (aT hx);subst NW
   have:(madeCells (Value.slice none 0 0).cells (n.toNat*t.size)).getD i undef=.slice none 0 0:=by
    have hc:(Value.slice none 0 0).cells=#[.slice none 0 0]:=rfl;simp only[madeCells,hc,Fl,DD];simp[bh,hi,Nat.mod_one]
   rw[this];exact .nil
  obtain⟨μ',g1,g2,g3⟩:=C3 hS E _ _ Ox;cases g2 with
  | ptr _ _ b Zd kF =>
   refine⟨_,_,μ',.inl (by simp only[execOp,ho,Sem.run_bind,h1.ei,h2.ei,hr,Result.andThen_ok,Sem.run_pure]),g1,.pM _ _ _ Zd kF,g3⟩
 ·simp at h
theorem VC{T E:TypeId}{len:Nat}{parts:Array (Nat×Operand)}{t:TypeInfo}{z:Value}{xs:List O}{szs:List (Option Nat)}(ho:o.op=.buildSlice T len parts)(hT:P.underlying T=some (.slice E))(ht:P.info? E=some t)(hz:t.zero=some z)
  (hn:parts.size=len) (fw:0<t.size) (Q9:z.cells.size=t.size) (Rq:len*t.size≤2^24) (lq:qJ 0 parts.toList=some xs) {ob:Prop} {r:V} {J':ae} (h:bO fr J (.H0 E t.size t.bytes szs xs)=some (ob,r,J')) (cY:ob):pr P o a B w0 w J μ r J':=by
 simp only[bO,aa,ao]at h;obtain⟨rfl,rfl,rfl⟩:=h;obtain⟨gW,tS⟩:=cY;obtain⟨cells',cT,rI,mi,y8⟩:=zP hF hS ho hT ht hz hn fw Q9 Rq lq gW (fun r hr=>(tS r hr).1);generalize ZT:(xs.map fun x=>cx szs (ed (ev fr x)))=rows at tS rI y8 ⊢;have Jp:Ti P E t.size t.bytes:=⟨fw,t,z,ht,hz,rfl,rfl,Q9⟩;have hg:w.grownBy (w.alloc (.cells cells' E)) none:=World.grownBy_alloc w _ none
 have Of:len≤maxLen:=by
  have:len≤len*t.size:=aaq _ fw;unfold maxLen;omega
 have fk:=World.ownsRow_lit (e:=E) w cells' len hS.base Of mi
 have jd:=hS.pB (w':=w.alloc (.cells cells' E)) (.row E t.size t.bytes 0 false rows) (.slice (some ⟨w.heap.size,0,none⟩) len len) hg (fun b hb=>by simp only[ic,aa]at hb;omega)
  (fun hp=>⟨Jp,cells'.toList,by rw[rI];exact fk,fun r hr=>(tS r hr).1,fun i j x hx=>by
   obtain⟨dc,hv⟩:=y8 i j x hx;obtain⟨r,hr,hj⟩:=ie hx;refine⟨(tS r (aT hr)).2 x (aT hj),_,?_,hp.eH _ _ hv⟩;simp[dc]⟩)
 refine⟨_,_,_,.inl cT,jd.1,?_,jd.2⟩;have:=VR.nN (w:=w.alloc (.cells cells' E)) (J:=J++[.row E t.size t.bytes 0 false rows]) (μ:=pT μ J.length (.slice (some ⟨w.heap.size,0,none⟩) len len)) (id:=J.length) (E:=E) (sz:=t.size) (by':=t.bytes) (g:=0) (sh:=false) (xs:=rows) (by simp)
 rwa [dU]at this
omit hF hS in
theorem VR.Iw{xs:List V}{kv av:Value}(hk:VR w J μ (.agg xs) kv)(ha:VR w J μ (.agg xs) av)(hx:∀ x∈xs,x.Kb=true):Instr.sameBits 10000 av kv=true:=by
 obtain⟨us,rfl,l1,v1⟩:=hk.gr;obtain⟨vs,rfl,l2,v2⟩:=ha.gr;simp only[Instr.sameBits,aO,bT,cK];refine⟨by omega,fun p hp=>?_⟩;obtain⟨i,hi⟩:=eT.1 hp;rw[List.getElem?_zip_eq_some]at hi;obtain⟨h1,h2⟩:=hi
 have dc:i<xs.length:=by
  have:=(ab.1 h1).1;simp at this;omega
 have Jf:=ak dc;have e1:=v1 i _ Jf;have e2:=v2 i _ Jf;have g1:vs.getD i undef=p.1:=by simp at h1;simp[bh,h1]
 have g2:us.getD i undef=p.2:=by simp at h2;simp[bh,h2]
 rw[g2]at e1;rw[g1]at e2;have hs:=hx _ (cA dc);generalize xs[i]=x at *;obtain⟨a,b⟩:=p;cases x<;>simp[V.Kb]at hs
 ·rw[e1.mE,e2.mE];simp[Instr.sameBits]
 ·rw[e1.ei,e2.ei];simp[Instr.sameBits]
 ·obtain⟨s,h3,h4,_⟩:=e1.kr;obtain⟨s',h5,h6,_⟩:=e2.kr;simp only at h3 h5;subst h3;subst h5;simp only[Instr.sameBits];rw[beq_toListBytes,toList_data,toList_data,h4,h6];simp
theorem VR.sameBits{k a:V}{kv av:Value}{kd:Nat}(hk:VR w J μ k kv)(ha:VR w J μ a av)(h:bY kd k a=some true):Instr.sameBits 10000 av kv=true:=by
 cases k<;>cases a<;>(try (simp[bY]at h;done))
 ·rw[hk.mE,ha.mE]
  match kd with
  | 2=>simp only[bY,aa,bT]at h;subst h;simp[Instr.sameBits]
  | 0=>simp[bY]at h
  | 1=>simp[bY]at h
  | n+3=>simp[bY]at h
 ·rw[hk.ei,ha.ei]
  match kd with
  | 0 =>
   simp only[bY]at h;split at h<;>simp only[aa,bT,reduceCtorEq]at h;rename_i Oi;subst Oi;subst h;simp[Instr.sameBits]
  | 1=>simp[bY]at h
  | 2=>simp[bY]at h
  | n+3=>simp[bY]at h
 ·obtain⟨s,rfl,hs,_⟩:=hk.kr;obtain⟨s',rfl,hs',_⟩:=ha.kr
  match kd with
  | 1 =>
   simp only[bY,aa,bT]at h;subst h;simp only[Instr.sameBits];rw[beq_toListBytes,toList_data,toList_data,hs,hs'];simp
  | 0=>simp[bY]at h
  | 2=>simp[bY]at h
  | n+3=>simp[bY]at h
 ·match kd with
  | 3 =>
   simp only[bY]at h;obtain⟨k1,a1,l1,b1,a2,b2,rfl,rfl,hr⟩:=qo h;rw[hk.pair,ha.pair];have hr':=hr.symm;simp only[aO,bT]at hr';obtain⟨rfl,rfl⟩:=hr';simp[Instr.sameBits]
  | 4 =>
   simp only[bY]at h;obtain⟨a1,b1,a2,b2,rfl,rfl,hr⟩:=p8 h;have hr':=hr.symm;simp only[aO,bT]at hr';obtain⟨rfl,rfl⟩:=hr';exact VR.Iw hk ha (by simp[V.Kb])
  | 5 =>
   simp only[bY]at h;obtain⟨k1,a1,b1,l1,c1,a2,b2,c2,rfl,rfl,hr⟩:=sn h;have hr':=hr.symm;simp only[aO,bT]at hr';obtain⟨rfl,rfl,rfl⟩:=hr';exact VR.Iw hk ha (by simp[V.Kb])
  | 0=>simp[bY]at h
  | 1=>simp[bY]at h
  | 2=>simp[bY]at h
  | n+6=>simp[bY]at h
omit hF hS in
theorem fx.fK(hS:fx P B w0 w J μ){id K E rr clock:Nat}{es:List (V×V)}{ents:Array MapEntry}(hb:J[id]?=some (.map K E es))(kF:μ id=.map (some rr))(hh:w.heap[rr]?=some (.map ents clock))
  (E':Nat) (es':List (V×V)) (ents':Array MapEntry) (clock':Nat) (Mo:sT w J μ es' ents' clock') (hE:E≤E')
  (hl:E'=E→es.length≤es'.length∧(es'.length=es.length→clock'=clock∧∀ (i:Nat) (e':MapEntry),ents'[i]?=some e'→∃ e,ents[i]?=some e∧e.born=e'.born) ∧
    ∀ (i:Nat) (e:MapEntry),ents[i]?=some e→∃ e',ents'[i]?=some e'∧e'.born=e.born) :
  fx P B w0 { w with heap:=w.heap.setIfInBounds rr (.map ents' clock') } (J.set id (.map K E' es')) μ∧lf w J μ { w with heap:=w.heap.setIfInBounds rr (.map ents' clock') } (J.set id (.map K E' es')) μ:=by
 have dc:id<J.length:=(ab.1 hb).1;have rI:rr<w.heap.size:=(aX.1 hh).1;have mF:(w.heap.setIfInBounds rr (.map ents' clock'))[rr]?=some (.map ents' clock'):=by simp[rI]
 obtain⟨r',_,_,hm',hB,_,_⟩:=hS.obj id _ hb;rw[kF]at hm';simp only[Value.map.injEq,aa]at hm';subst hm'
 exact hS.update (w':={ w with heap:=w.heap.setIfInBounds rr (.map ents' clock') }) (J':=J.set id (.map K E' es')) (μ':=μ) id (some rr)
  ⟨rfl,rfl,rfl,by simp,fun j _ hj=>by simp only[];rw[cn (fun e=>hj (by rw[e]))]⟩
  (fun b jr=>⟨_,hb,by simp,by simp only[aa]at jr;subst jr;simp[kF,ic]⟩)
  (by simp) (fun j hj=>aJ (fun e=>hj e.symm)) (fun _ _=>rfl)
  (fun b jr=>.inl ⟨_,hb,by simp,jr⟩)
  (fun b off v2 o2 h4 _ h5 h6 _=>by
   simp only[kF,ic,aa]at h5;subst h5;simp[World.cell?,hh]at h6)
  (fun T2 cs2 h4=>by rw[hb]at h4;simp at h4)
  (fun K2 E2 es2 h4=>by
   rw[hb]at h4;simp only[aa,Ob.map.injEq]at h4;obtain⟨rfl,rfl,rfl⟩:=h4;refine⟨⟨_,_,ar dc⟩,rfl,fun K3 E3 es3 bm ents3 clock3 q1 q2 q3=>?_⟩;rw[hb]at q1;simp only[aa,Ob.map.injEq]at q1;obtain⟨rfl,rfl,rfl⟩:=q1;rw[kF]at q2;simp only[Value.map.injEq,aa]at q2;subst q2;rw[hh]at q3;simp only[aa,Obj.map.injEq]at q3;obtain⟨rfl,rfl⟩:=q3;exact⟨kF,K,E',es',ents',clock',ar dc,mF,hE,hl⟩)
  (fun E2 sz2 by2 g2 sh2 xs2 _ h4=>by simp[dc]at h4)
  (fun yY o2 h4=>by
   simp only[ar dc,aa]at h4;subst h4;exact⟨rr,ents',clock',kF,hB,mF,Mo.eH yY.eH⟩)
  (fun st m E2 n ps c h4=>by rw[hb]at h4;simp at h4)
omit hF hS in
theorem sT.push{es:List (V×V)}{ents:Array MapEntry}{clock:Nat}(hR:sT w J μ es ents clock){k x:V}{kv xv:Value}(hk:VR w J μ k kv)(hx:VR w J μ x xv)(h1:k.ov=true)(h2:x.iL=true):
  sT w J μ (es++[(k,x)]) (ents.push { key:=kv,val:=xv,born:=clock }) (clock+1):=by
 refine⟨by simp[hR.1],fun i a2 y hi=>?_,fun i e he=>?_,fun i j e e' he he' Rr=>?_⟩
 ·by_cases r8:i<es.length
  ·rw[ah r8]at hi;obtain⟨h4,h5,e,h6,h7⟩:=hR.2.1 i a2 y hi;exact⟨h4,h5,e,by rw[Aa (by rw[hR.1];exact r8)];have:=h6;rw[bc (by rw[hR.1];exact r8)]at this;exact this,h7⟩
  ·have Z0:i=es.length:=by
    have:=(ab.1 hi).1;simp at this;omega
   subst Z0;simp only[List.getElem?_concat_length,aa,ao]at hi;obtain⟨rfl,rfl⟩:=hi;exact⟨h1,h2,_,by rw[← hR.1];exact mf,hk,hx⟩
 ·rw[rG]at he;split at he
  ·simp only[aa]at he;subst he;exact Nat.lt_succ_self _
  ·exact Nat.lt_succ_of_lt (hR.2.2.1 i e he)
 ·rw[rG]at he he';split at he
  ·split at he'
   ·omega
   ·simp only[aa]at he;subst he;have:=hR.2.2.1 j e' he';simp only at Rr;omega
  ·split at he'
   ·simp only[aa]at he';subst he';have:=hR.2.2.1 i e he;simp only at Rr;omega
   ·exact hR.2.2.2 i j e e' he he' Rr
omit hF hS in
theorem Bo{es:List (V×V)}{ents:Array MapEntry}{clock:Nat}(hR:sT w J μ es ents clock)(k x:V)(e0:MapEntry){E E':Nat}:E'=E→es.length≤(es++[(k,x)]).length∧((es++[(k,x)]).length=es.length→clock+1=clock∧∀ (i:Nat) (e':MapEntry),(ents.push e0)[i]?=some e'→∃ e,ents[i]?=some e∧e.born=e'.born) ∧
  ∀ (i:Nat) (e:MapEntry),ents[i]?=some e→∃ e',(ents.push e0)[i]?=some e'∧e'.born=e.born:=by
 refine fun _=>⟨by simp,fun h=>by simp at h,fun i e h=>⟨e,?_,rfl⟩⟩;have hl:=(aX.1 h).1;rw[Aa hl];rw[bc hl]at h;exact h
omit hF hS in
theorem sT.modify{es:List (V×V)}{ents:Array MapEntry}{clock i0:Nat}(hR:sT w J μ es ents clock){k x:V}{kv xv:Value}{e2:MapEntry}(h9:ents[i0]?=some e2)(r8:i0<es.length)(hk:VR w J μ k kv)(hx:VR w J μ x xv)(h1:k.ov=true)(h2:x.iL=true):
  sT w J μ (es.set i0 (k,x)) (ents.modify i0 fun e=>{ e with key:=kv,val:=xv }) clock:=by
 have Ot:∀ (i:Nat) (e3:MapEntry),(ents.modify i0 fun e=>{ e with key:=kv,val:=xv })[i]?=some e3→∃ e4,ents[i]?=some e4∧e4.born=e3.born:=by
  intro i e3 he;rw[cB]at he;split at he
  ·simp only[aj]at he;obtain⟨e4,xg,rfl⟩:=he;exact⟨e4,xg,rfl⟩
  ·exact⟨e3,he,rfl⟩
 refine⟨by simp[hR.1],fun i a3 y hi=>?_,fun i e3 he=>?_,fun i j e3 e4 he he' Rr=>?_⟩
 ·by_cases Hy:i=i0
  ·subst Hy;rw[ar r8]at hi;simp only[aa,ao]at hi;obtain⟨rfl,rfl⟩:=hi;exact⟨h1,h2,{ e2 with key:=kv,val:=xv },by rw[cB,bf rfl,h9];rfl,hk,hx⟩
  ·rw[aJ (fun e=>Hy e.symm)]at hi;obtain⟨xg,PN,e3,Zn,h14⟩:=hR.2.1 i a3 y hi;exact⟨xg,PN,e3,by rw[cB,aI (fun e=>Hy e.symm)];exact Zn,h14⟩
 ·obtain⟨e4,xg,PN⟩:=Ot i e3 he;rw[← PN];exact hR.2.2.1 i e4 xg
 ·obtain⟨e5,xg,PN⟩:=Ot i e3 he;obtain⟨e6,Zn,h14⟩:=Ot j e4 he';exact hR.2.2.2 i j e5 e6 xg Zn (by rw[PN,h14,Rr])
omit hF hS in
theorem qq{ents:Array MapEntry}{clock i0:Nat}(f:MapEntry→MapEntry)(hf:∀ e,(f e).born=e.born){n n' E E':Nat}(hn:n'=n):E'=E→n≤n'∧(n'=n→clock=clock∧∀ (i:Nat) (e':MapEntry),(ents.modify i0 f)[i]?=some e'→∃ e,ents[i]?=some e∧e.born=e'.born) ∧
  ∀ (i:Nat) (e:MapEntry),ents[i]?=some e→∃ e',(ents.modify i0 f)[i]?=some e'∧e'.born=e.born:=by
 refine fun _=>⟨by omega,fun _=>⟨rfl,fun i e' h=>?_⟩,fun i e h=>?_⟩
 ·rw[cB]at h;split at h
  ·simp only[aj]at h;obtain⟨e4,xg,rfl⟩:=h;exact⟨e4,xg,(hf e4).symm⟩
  ·exact⟨e',h,rfl⟩
 ·rw[cB];split
  ·rw[h];exact⟨_,rfl,hf e⟩
  ·exact⟨e,h,rfl⟩
theorem Vy{T K E:TypeId}{m k x:Operand}{m' k' x':O}{kd:Nat}{szs:List (Option Nat)}(ho:o.op=.mapUpdate T m k x)(hT:P.underlying T=some (.map K E))(hm:cO m=some m')(hk:cO k=some k')(hx:cO x=some x')(pe:iR P K=some kd)
  {ob:Prop} {r:V} {J':ae} (h:bO fr J (.uW kd szs m' k' x')=some (ob,r,J')) (cY:ob):pr P o a B w0 w J μ r J':=by
 have h1:=cP hF hm;have h2:=cP hF hk;have h3:=cP hF hx
 have ZV:jE kd (ev fr k')=true:=by
  simp only[bO]at h;split at h
  ·split at h
   ·split at h<;>simp only[aa,ao,reduceCtorEq]at h<;>(obtain⟨rfl,_⟩:=h;exact cY.1)
   ·simp at h
  ·simp at h
 simp only[bO]at h;generalize hxv:cX szs (ev fr x')=xv at h
 have h3':VR w J μ xv (a.eval x):=by
  rw[← hxv];unfold cX;split
  ·rename_i xs hp;rw[hp]at h3;obtain⟨vs,hv,hl,Af⟩:=h3.gr;rw[hv];exact CR.qi (xs:=xs) szs ⟨hl,Af⟩
  ·exact h3
 split at h
 ·rename_i id hp;rw[hp]at h1;obtain⟨rr,hv,kF,_⟩:=h1.qx;split at h
  ·rename_i K' E' es hb;obtain⟨r',ents,clock,hm',hB,hh,hR⟩:=hS.obj id _ hb;rw[kF]at hm';simp only[Value.map.injEq,aa]at hm';subst hm';have dc:id<J.length:=(ab.1 hb).1;have rI:rr<w.heap.size:=(aX.1 hh).1;have hg:∀ (w2:World),w2.heap[rr]?=some (.map ents clock)→(getObj rr).run P w2=.ok (.map ents clock) w2:=fun w2 h=>by simp[getObj,Sem.run,h]
   have vf:=run_checkKey (P:=P) (w:=w) pe false 9998 h2 ZV
   have fin:∀ (es':List (V×V)) (ents':Array MapEntry) (clock':Nat),(execOp a.eval o).run P w=.ok .skip { w with heap:=w.heap.setIfInBounds rr (.map ents' clock') }→sT w J μ es' ents' clock' →
     (E'=E'→es.length≤es'.length∧(es'.length=es.length→clock'=clock∧∀ (i:Nat) (e':MapEntry),ents'[i]?=some e'→∃ e,ents[i]?=some e∧e.born=e'.born) ∧
      ∀ (i:Nat) (e:MapEntry),ents[i]?=some e→∃ e',ents'[i]?=some e'∧e'.born=e.born)→pr P o a B w0 w J μ .u (J.set id (.map K' E' es')):=by
    intro es' ents' clock' hr Mo hle;have nW:=hS.fK hb kF hh E' es' ents' clock' Mo (aq _) hle;exact⟨undef,_,μ,.inr ⟨hr,rfl⟩,nW.1,.u _,nW.2⟩
   have mF:∀ ob2,(setObj rr ob2).run P w=.ok () { w with heap:=w.heap.setIfInBounds rr ob2 }:=fun ob2=>by simp[setObj,Sem.run,hh]
   split at h
   ·rename_i hf;simp only[aa,ao]at h;obtain⟨rfl,rfl,rfl⟩:=h
    have yZ:=je pe h2 es ents.toList none (by rw[a6];exact hR.1) (fun i a x hi=>by
     obtain⟨_,_,e,h3,h4,h5⟩:=hR.2.1 i a x hi;exact⟨e,by simpa using h3,h4,h5⟩) hf
    have hfn':(Instr.findKey K (a.eval k) ents.toList).run P w=.ok none w:=by
     rcases yZ with⟨_,h⟩ | ⟨i,x,e,a2,h,_⟩
     ·exact h
     ·simp at h
    refine fin _ (ents.push { key:=a.eval k,val:=a.eval x,born:=clock }) (clock+1) ?_ (hR.push h2 h3' (sE cY.1) cY.2) (Bo hR _ _ _);simp[execOp,ho,hv,Instr.mapUpdate,run_underlying hT,hg w hh,vf,hfn',mF]
   ·rename_i i0 x0 hf;simp only[aa,ao]at h;obtain⟨rfl,rfl,rfl⟩:=h
    have yZ:=je pe h2 es ents.toList _ (by rw[a6];exact hR.1) (fun i a x hi=>by
     obtain⟨_,_,e,h3,h4,h5⟩:=hR.2.1 i a x hi;exact⟨e,by simpa using h3,h4,h5⟩) hf
    rcases yZ with⟨h4,_⟩ | ⟨i,y,e,a2,h4,h5,h6,h7,h8⟩
    ·simp at h4
    ·simp only[aa,ao]at h4;obtain⟨rfl,rfl⟩:=h4;obtain⟨_,_,e2,h9,Fy,_⟩:=hR.2.1 i0 a2 x0 h5
     have hee:e2=e:=by
      have:ents[i0]?=some e:=by simpa using h6
      rw[h9]at this;simpa using this
     subst hee;have hsb:=VR.sameBits hF hS h2 Fy h7;refine fin _ (ents.modify i0 fun e=>{ e with key:=a.eval k,val:=a.eval x }) clock ?_ (hR.modify h9 (ab.1 h5).1 h2 h3' (sE cY.1) cY.2) (qq (fun e:MapEntry=>{ e with key:=a.eval k,val:=a.eval x }) (fun _=>rfl) (by simp));simp[execOp,ho,hv,Instr.mapUpdate,run_underlying hT,hg w hh,vf,h8,h9,Instr.keyThatStays,hsb,mF]
   ·simp at h
  ·simp at h
 ·simp at h
omit hF hS in
theorem VR.Cd{k a:V}{kd:Nat}{kv av:Value}(hk:VR w J μ k kv)(ha:VR w J μ a av)(h:bY kd k a=some true):VR w J μ a kv:=by
 rw[← p9 h];exact hk
omit hF hS in
theorem fx.gw(hS:fx P B w0 w J μ){id K E rr clock c:Nat}{es:List (V×V)}{ents:Array MapEntry}{e:MapEntry}(hb:J[id]?=some (.map K E es))(kF:μ id=.map (some rr))(hh:w.heap[rr]?=some (.map ents clock))(he:ents[c]?=some e):
  fx P B w0 w (J++[.iter true id E es.length [] (some c)]) (pT μ J.length (.int .i64 e.born))∧lf w J μ w (J++[.iter true id E es.length [] (some c)]) (pT μ J.length (.int .i64 e.born)):=by
 have dc:id<J.length:=(ab.1 hb).1;refine hS.pB _ _ (grownBy_refl w none) (by simp[ic]) fun hp=>⟨e.born,rfl,rr,?_,K,E,es,ents,clock,?_,hh,aq _,fun _=>⟨aq _,fun c' hc=>?_⟩⟩
 ·rw[mg _ _ _ _ (by omega)];exact kF
 ·rw[ah dc];exact hb
 ·simp only[aa]at hc;subst hc;exact⟨e,he,rfl⟩
theorem VA{T K E:TypeId}{m k:Operand}{m' k':O}{kd:Nat}{z:V}(ho:o.op=.mapEntry T m k)(hT:P.underlying T=some (.map K E))(hm:cO m=some m')(hk:cO k=some k')(pe:iR P K=some kd)(hz:zeroV P E=some z)
  {ob:Prop} {r:V} {J':ae} (h:bO fr J (.tH kd z m' k')=some (ob,r,J')) (cY:ob):pr P o a B w0 w J μ r J':=by
 have h1:=cP hF hm;have h2:=cP hF hk;obtain⟨zv,ZR,Ux⟩:=DN (w:=w) (J:=J) (μ:=μ) hz;simp only[bO]at h;split at h
 ·rename_i id hp;rw[hp]at h1;obtain⟨rr,hv,kF,_⟩:=h1.qx;split at h
  ·rename_i K' E' es hb;obtain⟨r',ents,clock,hm',hB,hh,hR⟩:=hS.obj id _ hb;rw[kF]at hm';simp only[Value.map.injEq,aa]at hm';subst hm';have dc:id<J.length:=(ab.1 hb).1;have rI:rr<w.heap.size:=(aX.1 hh).1;have hg:(getObj rr).run P w=.ok (.map ents clock) w:=by simp[getObj,Sem.run,hh]
   have mF:∀ ob2,(setObj rr ob2).run P w=.ok () { w with heap:=w.heap.setIfInBounds rr ob2 }:=fun ob2=>by simp[setObj,Sem.run,hh]
   split at h
   ·rename_i hf;simp only[aa,ao]at h;obtain⟨rfl,rfl,rfl⟩:=h;have vf:=run_checkKey (P:=P) (w:=w) pe false 9998 h2 cY.1
    have yZ:=je pe h2 es ents.toList none (by rw[a6];exact hR.1) (fun i a x hi=>by
     obtain⟨_,_,e,h3,h4,h5⟩:=hR.2.1 i a x hi;exact⟨e,by simpa using h3,h4,h5⟩) hf
    have hfn':(Instr.findKey K (a.eval k) ents.toList).run P w=.ok none w:=by
     rcases yZ with⟨_,h⟩ | ⟨i,x,e,a2,h,_⟩
     ·exact h
     ·simp at h
    have Mo:=hR.push h2 Ux (sE cY.1) cY.2;have nW:=hS.fK hb kF hh E' (es++[(ev fr k',z)]) (ents.push { key:=a.eval k,val:=zv,born:=clock }) (clock+1) Mo (aq _) (Bo hR _ _ _);have hh':(w.heap.setIfInBounds rr (.map (ents.push { key:=a.eval k,val:=zv,born:=clock }) (clock+1)))[rr]?=some (.map (ents.push { key:=a.eval k,val:=zv,born:=clock }) (clock+1)):=by simp[rI]
    have rH:=nW.1.gw (c:=es.length) (e:={ key:=a.eval k,val:=zv,born:=clock }) (ar dc) kF hh' (by rw[← hR.1];exact mf);simp only[al,ai,aC,bz,Aj]at rH;refine⟨.tuple #[zv,.int .i64 clock],_,_,.inl ?_,rH.1,?_,nW.2.trans rH.2⟩
    ·simp[execOp,ho,hv,Instr.mapEntry,run_underlying hT,hg,vf,hfn',mF,ZR,goInt]
    ·refine .fi _ _ rfl fun i x hx=>?_
     match i with
     | 0=>simp only[aw,aa]at hx;subst hx;exact(Ux.mono nW.2).mono rH.2
     | 1=>simp only[bI,aw,aa]at hx;subst hx;exact .it _ _ ⟨_,_,_,_,_,_,by rw[aA (by simp)];simp;exact⟨rfl,rfl,rfl,rfl,rfl,rfl⟩⟩ (by simp[pT])
     | i+2=>simp at hx
   ·rename_i i0 x0 hf;simp only[aa,ao]at h;obtain⟨rfl,rfl,rfl⟩:=h;have vf:=run_checkKey (P:=P) (w:=w) pe false 9998 h2 cY
    have yZ:=je pe h2 es ents.toList _ (by rw[a6];exact hR.1) (fun i a x hi=>by
     obtain⟨_,_,e,h3,h4,h5⟩:=hR.2.1 i a x hi;exact⟨e,by simpa using h3,h4,h5⟩) hf
    rcases yZ with⟨h4,_⟩ | ⟨i,y,e,a2,h4,h5,h6,h7,h8⟩
    ·simp at h4
    ·simp only[aa,ao]at h4;obtain⟨rfl,rfl⟩:=h4;obtain⟨rZ,xa,e2,h9,Fy,xg⟩:=hR.2.1 i0 a2 x0 h5
     have hee:e2=e:=by
      have:ents[i0]?=some e:=by simpa using h6
      rw[h9]at this;simpa using this
     subst hee;have r8:=(ab.1 h5).1;have hsb:=VR.sameBits hF hS h2 Fy h7
     have Mo:sT w J μ es (ents.modify i0 fun e=>{ e with key:=a.eval k }) clock:=by
      have:=hR.modify (k:=a2) (x:=x0) (kv:=a.eval k) (xv:=e2.val) h9 r8 (VR.Cd h2 Fy h7) xg rZ xa;rw[show es.set i0 (a2,x0)=es by obtain⟨hq,e⟩:=ab.1 h5;rw[← e];exact oN hq]at this
      have e3:(ents.modify i0 fun e=>{ e with key:=a.eval k,val:=e2.val })=ents.modify i0 fun e=>{ e with key:=a.eval k }:=by
       apply Ib;intro i;rw[cB,cB];split
       ·rename_i Hy;subst Hy;rw[h9];rfl
       ·rfl
      rwa [e3]at this
     have nW:=hS.fK hb kF hh E' es (ents.modify i0 fun e=>{ e with key:=a.eval k }) clock Mo (aq _) (qq (fun e:MapEntry=>{ e with key:=a.eval k }) (fun _=>rfl) rfl);have NZ:J.set id (.map K' E' es)=J:=by obtain⟨hq,e⟩:=ab.1 hb;rw[← e];exact oN hq
     rw[NZ]at nW;have hh':(w.heap.setIfInBounds rr (.map (ents.modify i0 fun e=>{ e with key:=a.eval k }) clock))[rr]?=some (.map (ents.modify i0 fun e=>{ e with key:=a.eval k }) clock):=by simp[rI]
     have rH:=nW.1.gw (c:=i0) (e:={ e2 with key:=a.eval k }) hb kF hh' (by rw[cB,bf rfl,h9];rfl);refine⟨.tuple #[e2.val,.int .i64 e2.born],_,_,.inl ?_,rH.1,?_,nW.2.trans rH.2⟩
     ·simp[execOp,ho,hv,Instr.mapEntry,run_underlying hT,hg,vf,h8,h9,Instr.keyThatStays,hsb,mF,goInt]
     ·refine .fi _ _ rfl fun i x hx=>?_
      match i with
      | 0=>simp only[aw,aa]at hx;subst hx;exact(xg.mono nW.2).mono rH.2
      | 1=>simp only[bI,aw,aa]at hx;subst hx;exact .it _ _ ⟨_,_,_,_,_,_,by simp;exact⟨rfl,rfl,rfl,rfl,rfl,rfl⟩⟩ (by simp[pT])
      | i+2=>simp at hx
   ·simp at h
  ·simp at h
 ·simp at h
theorem Vz{T K E:TypeId}{m q x:Operand}{m' q' x':O}{szs:List (Option Nat)}(ho:o.op=.entryStore T m q x)(hm:cO m=some m')(hq:cO q=some q')(hx:cO x=some x')
  {ob:Prop} {r:V} {J':ae} (h:bO fr J (.tG szs m' q' x')=some (ob,r,J')) (cY:ob):pr P o a B w0 w J μ r J':=by
 have h1:=cP hF hm;have h2:=cP hF hq;have h3:=cP hF hx;simp only[bO]at h;generalize hxv:cX szs (ev fr x')=xv at h
 have h3':VR w J μ xv (a.eval x):=by
  rw[← hxv];unfold cX;split
  ·rename_i xs hp;rw[hp]at h3;obtain⟨vs,hv,hl,Af⟩:=h3.gr;rw[hv];exact CR.qi (xs:=xs) szs ⟨hl,Af⟩
  ·exact h3
 split at h
 ·rename_i id j hp yY;rw[hp]at h1;rw[yY]at h2;obtain⟨rr,hv,kF,_⟩:=h1.qx;split at h
  ·rename_i K' E' es id' E2 n ps c hb hj;split at h
   ·rename_i hc;obtain⟨rfl,rfl⟩:=hc;split at h
    ·rename_i k0 y0 zb;simp only[aa,ao]at h;obtain⟨rfl,rfl,rfl⟩:=h;obtain⟨r',ents,clock,hm',hB,hh,hR⟩:=hS.obj _ _ hb;rw[kF]at hm';simp only[Value.map.injEq,aa]at hm';subst hm';obtain⟨born,hbv,bm,hbm,K3,E3,es3,ents3,clock3,q1,q2,q3,q4⟩:=hS.obj _ _ hj;rw[hb]at q1;simp only[aa,Ob.map.injEq]at q1;obtain⟨rfl,rfl,rfl⟩:=q1;rw[kF]at hbm;simp only[Value.map.injEq,aa]at hbm;subst hbm;rw[hh]at q2;simp only[aa,Obj.map.injEq]at q2;obtain⟨rfl,rfl⟩:=q2;obtain⟨_,q5⟩:=q4 rfl;obtain⟨e0,V7,hbn⟩:=q5 c rfl;have dc:id'<J.length:=(ab.1 hb).1;have rI:rr<w.heap.size:=(aX.1 hh).1;have bj:c<es.length:=(ab.1 zb).1;obtain⟨rZ,_,e1,he1,nX,_⟩:=hR.2.1 c k0 y0 zb;rw[V7]at he1;simp only[aa]at he1;subst he1;have Mo:=hR.modify (k:=k0) (x:=xv) (kv:=e0.key) (xv:=a.eval x) V7 bj nX h3' rZ cY
     have e3:(ents.modify c fun e=>{ e with key:=e0.key,val:=a.eval x })=ents.modify c fun e=>{ e with val:=a.eval x }:=by
      apply Ib;intro i;rw[cB,cB];split
      ·rename_i Hy;subst Hy;rw[V7];rfl
      ·rfl
     rw[e3]at Mo;have nW:=hS.fK hb kF hh _ (es.set c (k0,xv)) (ents.modify c fun e=>{ e with val:=a.eval x }) clock Mo (aq _) (qq (fun e:MapEntry=>{ e with val:=a.eval x }) (fun _=>rfl) (by simp));have hg:(getObj rr).run P w=.ok (.map ents clock) w:=by simp[getObj,Sem.run,hh]
     have mF:∀ ob2,(setObj rr ob2).run P w=.ok () { w with heap:=w.heap.setIfInBounds rr ob2 }:=fun ob2=>by simp[setObj,Sem.run,hh]
     have hqv:a.eval q=.int .i64 born:=by rw[h2.Hm.1,hbv]
     have S8:ents.findIdx? (fun e=>(e.born:Int)==born)=some c:=by
      have mi:c<ents.size:=(aX.1 V7).1;have hec:ents[c]=e0:=(aX.1 V7).2;rw[Array.findIdx?_eq_some_iff_getElem];refine⟨mi,by rw[hec];simp[hbn],fun j hjc=>?_⟩;have hjs:j<ents.size:=by omega
      simp only[Bool.not_eq_true,cI,gm,dm,L9];intro HB;have:=hR.2.2.2 j c ents[j] e0 (bc hjs) V7 (by omega);omega
     refine⟨undef,_,μ,.inr ⟨?_,rfl⟩,nW.1,.u _,nW.2⟩;simp[execOp,ho,hv,Instr.entryStore,hg,hqv,asInt,asIntOf,S8,mF]
    ·simp at h
   ·simp at h
  ·simp at h
 ·simp at h
theorem VB{T K E K2:TypeId}{m k:Operand}{m' k':O}{kd:Nat}(ho:o.op=.call { callee:=.builtin .delete,args:=#[m,k],argTypes:=#[T,K2] })(hT:P.underlying T=some (.map K E))(hm:cO m=some m')(hk:cO k=some k')(pe:iR P K=some kd)
  {ob:Prop} {r:V} {J':ae} (h:bO fr J (.He kd m' k')=some (ob,r,J')) (cY:ob):pr P o a B w0 w J μ r J':=by
 have h1:=cP hF hm;have h2:=cP hF hk;simp only[bO]at h;split at h
 ·rename_i id hp;rw[hp]at h1;obtain⟨rr,hv,kF,_⟩:=h1.qx;split at h
  ·rename_i K' E' es hb;obtain⟨r',ents,clock,hm',hB,hh,hR⟩:=hS.obj id _ hb;rw[kF]at hm';simp only[Value.map.injEq,aa]at hm';subst hm';have dc:id<J.length:=(ab.1 hb).1;have rI:rr<w.heap.size:=(aX.1 hh).1;have hg:(getObj rr).run P w=.ok (.map ents clock) w:=by simp[getObj,Sem.run,hh]
   have mF:∀ ob2,(setObj rr ob2).run P w=.ok () { w with heap:=w.heap.setIfInBounds rr ob2 }:=fun ob2=>by simp[setObj,Sem.run,hh]
   split at h
   ·rename_i hf;simp only[aa,ao]at h;obtain⟨rfl,rfl,rfl⟩:=h;have vf:=run_checkKey (P:=P) (w:=w) pe ents.isEmpty 9998 h2 cY
    have yZ:=je pe h2 es ents.toList none (by rw[a6];exact hR.1) (fun i a x hi=>by
     obtain⟨_,_,e,h3,h4,h5⟩:=hR.2.1 i a x hi;exact⟨e,by simpa using h3,h4,h5⟩) hf
    have hfn':(Instr.findKey K (a.eval k) ents.toList).run P w=.ok none w:=by
     rcases yZ with⟨_,h⟩ | ⟨i,x,e,a2,h,_⟩
     ·exact h
     ·simp at h
    have nW:=hS.fK hb kF hh E' es ents clock hR (aq _) (fun _=>⟨aq _,fun _=>⟨rfl,fun i e' h=>⟨e',h,rfl⟩⟩,fun i e h=>⟨e,h,rfl⟩⟩);have NZ:J.set id (.map K' E' es)=J:=by obtain⟨hq,e⟩:=ab.1 hb;rw[← e];exact oN hq
    rw[NZ]at nW;refine⟨.tuple #[],_,μ,.inl ?_,nW.1,.fi _ _ rfl (by simp),nW.2⟩;simp[execOp,ho,resolve,invoke,builtin,hv,Builtin.delete_,run_underlying hT,hg,vf,hfn',mF]
   ·rename_i i0 x0 hf;simp only[aa,ao]at h;obtain⟨rfl,rfl,rfl⟩:=h;have vf:=run_checkKey (P:=P) (w:=w) pe ents.isEmpty 9998 h2 cY
    have yZ:=je pe h2 es ents.toList _ (by rw[a6];exact hR.1) (fun i a x hi=>by
     obtain⟨_,_,e,h3,h4,h5⟩:=hR.2.1 i a x hi;exact⟨e,by simpa using h3,h4,h5⟩) hf
    rcases yZ with⟨h4,_⟩ | ⟨i,y,e,a2,h4,h5,h6,h7,h8⟩
    ·simp at h4
    ·simp only[aa,ao]at h4;obtain⟨rfl,rfl⟩:=h4;have r8:i0<es.length:=(ab.1 h5).1;have Oj:i0<ents.size:=by rw[hR.1];exact r8
     have eA:∀ i,(ents.eraseIdxIfInBounds i0)[i]?=ents[if i<i0 then i else i+1]?:=by
      intro i;rw[← Array.getElem?_toList,← Array.getElem?_toList]
      have:(ents.eraseIdxIfInBounds i0).toList=ents.toList.eraseIdx i0:=by
       unfold Array.eraseIdxIfInBounds;rw[dif_pos Oj];simp
      rw[this,adZ];split<;>rfl
     have Mo:sT w J μ (es.eraseIdx i0) (ents.eraseIdxIfInBounds i0) clock:=by
      refine⟨?_,fun i k x hi=>?_,fun i e he=>?_,fun i j e e' he he' Rr=>?_⟩
      ·have:(ents.eraseIdxIfInBounds i0).size=ents.size - 1:=by
        unfold Array.eraseIdxIfInBounds;rw[dif_pos Oj];simp
       rw[this,List.length_eraseIdx,bf r8,hR.1]
      ·rw[adZ]at hi;rw[eA];split at hi<;>rename_i hc<;>simp only[hc,aL,aK]<;>exact hR.2.1 _ k x hi
      ·rw[eA]at he;exact hR.2.2.1 _ e he
      ·rw[eA]at he he';have:=hR.2.2.2 _ _ e e' he he' Rr;split at this<;>split at this<;>omega
     have nW:=hS.fK hb kF hh (E'+1) (es.eraseIdx i0) (ents.eraseIdxIfInBounds i0) clock Mo (by omega) (fun h=>by omega);refine⟨.tuple #[],_,μ,.inl ?_,nW.1,.fi _ _ rfl (by simp),nW.2⟩;simp[execOp,ho,resolve,invoke,builtin,hv,Builtin.delete_,run_underlying hT,hg,vf,h8,mF]
   ·simp at h
  ·simp at h
 ·simp at h
theorem Sd{T K E:TypeId}{x:Operand}{x':O}(ho:o.op=.range T x)(hT:P.underlying T=some (.map K E))(hx:cO x=some x')
  {ob:Prop} {r:V} {J':ae} (h:bO fr J (.range x')=some (ob,r,J')):pr P o a B w0 w J μ r J':=by
 have h1:=cP hF hx;simp only[bO]at h;split at h
 ·rename_i id hp;rw[hp]at h1;obtain⟨rr,hv,kF,_⟩:=h1.qx;split at h
  ·rename_i K' E' es hb;simp only[aa,ao]at h;obtain⟨rfl,rfl,rfl⟩:=h;obtain⟨r',ents,clock,hm',hB,hh,hR⟩:=hS.obj id _ hb;rw[kF]at hm';simp only[Value.map.injEq,aa]at hm';subst hm';have dc:id<J.length:=(ab.1 hb).1;have rI:rr<w.heap.size:=(aX.1 hh).1
   have BL:(w.alloc (.mapIter (some rr) clock #[] clock)).heap[rr]?=some (.map ents clock):=by
    rw[(World.grownBy_alloc w (.mapIter (some rr) clock #[] clock) none).block rr rI (by simp)];exact hh
   have hn:=hS.pB (w':=w.alloc (.mapIter (some rr) clock #[] clock)) (.iter false id E' es.length (List.range es.length) none) (.pointer (some ⟨w.heap.size,0,none⟩)) (World.grownBy_alloc w _ none) (by simp[ic])
    (fun hp=>⟨w.heap.size,rr,clock,#[],rfl,hS.base,heap_alloc_new w _,by rw[mg _ _ _ _ (by omega)];exact kF,fun p hp=>by simpa using hp,K',E',es,ents,clock,by rw[ah dc];exact hb,BL,aq _,
     fun _=>⟨aq _,fun _=>⟨rfl,fun i e hi=>by
      have:=(aX.1 hi).1;rw[hR.1]at this;simp[this],fun c hc=>by simp at hc⟩⟩⟩)
   refine⟨_,_,_,.inl ?_,hn.1,.it _ _ ⟨_,_,_,_,_,_,by simp;exact⟨rfl,rfl,rfl,rfl,rfl,rfl⟩⟩ (dU _ _ _),hn.2⟩;simp[execOp,ho,hv,run_range_map (P:=P) w T K E rr ents clock hT hh]
  ·simp at h
 ·simp at h
omit hS in
theorem Wj(hS:fx P B w0 w J μ){x:Operand}{x':O}(ho:o.op=.entry x)(hx:cO x=some x'){ob:Prop}{y:V}(h:aM fr J (.LL x')=some (ob,y)):Yields P o a w J μ y:=by
 have h1:=cP hF hx;simp only[aM]at h;split at h
 ·rename_i j hp;rw[hp]at h1;split at h
  ·rename_i m E n ps c hj;split at h
   ·rename_i K E' es hb;split at h
    ·rename_i hc;obtain⟨rfl,rfl⟩:=hc;split at h
     ·rename_i k y0 hce;simp only[aa,ao]at h;obtain⟨_,rfl⟩:=h;obtain⟨r,bm,since,seen,q1,_,q3,q4,_,K3,E3,es3,ents,clock,q5,q6,q7,q8⟩:=hS.obj _ _ hj;rw[hb]at q5;simp only[aa,Ob.map.injEq]at q5;obtain⟨rfl,rfl,rfl⟩:=q5;obtain⟨q9,q10,q11⟩:=(q8 rfl).2 rfl;subst q9;obtain⟨e,he,hbk⟩:=q11 c rfl;obtain⟨r',ents',clock',hm',_,hh,hR⟩:=hS.obj _ _ hb;rw[q4]at hm';simp only[Value.map.injEq,aa]at hm';subst hm';rw[q6]at hh;simp only[aa,Obj.map.injEq]at hh;obtain⟨rfl,rfl⟩:=hh;obtain⟨_,_,e2,Ta,hk,hv⟩:=hR.2.1 c k y0 hce;rw[he]at Ta;simp only[aa]at Ta;subst Ta;have mi:c<ents.size:=(aX.1 he).1;have hec:ents[c]=e:=(aX.1 he).2
      have Y3:ents.find? (fun x=>x.born==e.born)=some e:=by
       rw[Array.find?_eq_some_iff_getElem];refine⟨by simp,c,mi,hec,fun i hi=>?_⟩;have Oj:i<ents.size:=by omega
       simp only[dm,cI,gm];intro HB;have:=hR.2.2.2 i c ents[i] e (bc Oj) he HB;omega
      have NX:a.eval x=.pointer (some ⟨r,0,none⟩):=h1.Hm.1.trans q1;refine .pure (v:=.tuple #[e.key,e.val]) ?_ (.fi _ _ rfl fun i z hz=>?_)
      ·simp[execOp,ho,NX,Instr.entry,getObj,Sem.run,q3,q6,hbk,Y3]
      ·match i with
       | 0=>simp only[aw,aa]at hz;subst hz;exact hk
       | 1=>simp only[bI,aw,aa]at hz;subst hz;exact hv
       | i+2=>simp at hz
     ·simp at h
    ·simp at h
   ·simp at h
  ·simp at h
 ·simp at h
theorem Zw{T E:TypeId}{t:TypeInfo}{z:Value}{x:Operand}{x':O}{zs0:List V}{szs:List (Option Nat)}(ho:o.op=.call { callee:=.builtin .clear,args:=#[x],argTypes:=#[T] })(hT:P.underlying T=some (.slice E))(ht:P.info? E=some t)(hz:t.zero=some z)
  (fw:0<t.size) (lU:z.cells.size=t.size) (Q9:gH z.cells.toList=some zs0) (hx:cO x=some x')
  {ob:Prop} {r:V} {J':ae} (h:bO fr J (.FU t.size (cx szs zs0) x')=some (ob,r,J')) (cY:ob):pr P o a B w0 w J μ r J':=by
 have h1:=cP hF hx;have Ox:CR w J μ (cx szs zs0) z.cells:=(jU Q9).cx szs;generalize cx szs zs0=zs at h Ox;have VW:zs.length=t.size:=by rw[Ox.1];exact lU
 simp only[bO]at h;split at h
 ·rename_i id g lo hi hp;split at h
  ·rename_i E' sz by' g' sh xs hb;split at h
   ·rename_i hg;obtain⟨rfl,rfl,rfl⟩:=hg;simp only[aa,ao]at h;obtain⟨rfl,rfl,rfl⟩:=h;rw[hp]at h1;obtain⟨hlh,Jn,hv⟩:=h1.pc hb;have dc:id<J.length:=(ab.1 hb).1;obtain⟨Jp,vals,⟨Rf,hw⟩,cq,N0⟩:=hS.obj id _ hb;have Yz:VR w (J.set id (.row E' t.size by' g false (xs.take lo++List.replicate (hi - lo) zs++xs.drop hi))) μ (.fi []) (.tuple #[]):=.fi _ _ rfl (by simp)
    by_cases h0:lo=hi
    ·subst h0
     have e1:J.set id (.row E' t.size by' g false (xs.take lo++List.replicate (lo - lo) zs++xs.drop lo))=J:=by
      simp only[eJ,Gk,bV,AX];obtain⟨hq,e⟩:=ab.1 hb;rw[← e];exact oN hq
     have cT:(execOp a.eval o).run P w=.ok (.value (.tuple #[])) w:=by
      have Re:∃ ad cap,a.eval x=.slice ad 0 cap:=by
       rw[hv];rcases hw with⟨hm,_⟩ | ⟨b,cap,cur,hm,_⟩
       ·rw[hm];exact⟨_,_,by simp only[kO,eJ];rfl⟩
       ·rw[hm];exact⟨_,_,by simp only[kO,eJ];rfl⟩
      obtain⟨ad,cap,Re⟩:=Re;cases ad<;>simp[execOp,ho,resolve,invoke,builtin,Re,Builtin.clear_,run_underlying hT]
     rw[e1]at Yz ⊢;exact⟨_,w,μ,.inl cT,hS,Yz,lf.refl _ _ _⟩
    ·rcases hw with⟨_,hn⟩ | ⟨b,cap,cur,hm,hB,hh,Ht,DJ,mi,yW⟩
     ·omega
     ·have gv:¬ cap=lo:=by omega
      have PE:a.eval x=.slice (some ⟨b,lo*t.size,none⟩) (hi - lo) (cap - lo):=by rw[hv,hm];simp[kO,gv,Addr.add_lit]
      obtain⟨m,V3⟩:∃ m,hi - lo=m+1:=⟨hi - lo - 1,by omega⟩;generalize bj:(Builtin.zeroCells z.cells (hi - lo)).toList=cl;have Lp:cl.length=(hi - lo)*t.size:=by rw[← bj];simp[Builtin.zeroCells,lU]
      have Za:∀ q,q<(hi - lo)*t.size→cl[q]?=some (z.cells.getD (q % t.size) undef):=by
       intro q hq;rw[← bj];have Od:q % t.size<z.cells.size:=by rw[lU];exact sW _ fw
       simp only[Builtin.zeroCells,lM,Array.toList_range,a8,lU,gS hq,bK];rw[tV _ _ Od]
      have hmul:lo*t.size+(hi - lo)*t.size=hi*t.size:=by rw[← Nat.add_mul];congr 1;omega
      have agb:hi*t.size≤xs.length*t.size:=bM _ Jn;have abT:xs.length*t.size≤cap*t.size:=bM _ Ht
      have N8:∀ v∈cl,v.oneCell'=true:=by
       intro v Yy;obtain⟨q,hq⟩:=eT.1 Yy;have BE:q<(hi - lo)*t.size:=by rw[← Lp];exact(ab.1 hq).1
       rw[Za q BE]at hq;simp only[aa]at hq;subst hq;have hj:q % t.size<zs.length:=by rw[VW];exact sW _ fw
       have:=Ox.2 (q % t.size) zs[q % t.size] (ak hj);exact(mM hS this (nj (cY _ (cA hj)))).1
      have rH:=run_storeCells_at P b (lo*t.size) E' cl 0 cur w hh (by rw[Lp,mi];omega) N8;generalize jd:(cur.toList.take (lo*t.size+0)++cl++cur.toList.drop (lo*t.size+0+cl.length)).toArray=arr at rH
      have cT:(execOp a.eval o).run P w=.ok (.value (.tuple #[])) (w.setRow b arr):=by
       rw[V3]at bj PE;simp[execOp,ho,resolve,invoke,builtin,PE,Builtin.clear_,run_underlying hT,zeroValue,typeInfo,ht,hz,bj,rH]
      have sJ:∀ j,arr.toList[j]?=if lo*t.size≤j∧j<hi*t.size then cl[j - lo*t.size]? else cur.toList[j]?:=by
       intro j;rw[← jd];have:=oU cur.toList cl (lo*t.size) j (by rw[Lp,a6,mi];omega);rw[Lp,hmul]at this;simpa[Lp,hmul]using this
      have ze:arr.size=cur.size:=by
       rw[← jd];simp only[fO,al,cz,cV,a6,Lp,mi,dK];omega
      have pK:(xs.take lo++List.replicate (hi - lo) zs++xs.drop hi).length=xs.length:=by simp;omega
      have nW:=hS.update (w':=w.setRow b arr) (J':=J.set id (.row E' t.size by' g false (xs.take lo++List.replicate (hi - lo) zs++xs.drop hi))) (μ':=μ) id (some b)
       ⟨rfl,rfl,rfl,by simp,fun k _ hk=>setRow_other w b k _ (fun e=>hk (by simp[e]))⟩
       (fun b2 jr=>⟨_,hb,by simp,by simp only[aa]at jr;subst jr;simp[hm,ic]⟩)
       (by simp) (fun j hj=>aJ (fun e=>hj e.symm)) (fun _ _=>rfl)
       (fun b2 jr=>.inl ⟨_,hb,by simp,jr⟩)
       (fun b2 off2 v2 o2 h3 _ h4 _ h5=>absurd ⟨id,o2,h3,h4,by rw[hb]at h3;simp only[aa]at h3;subst h3;intro hf;simp at hf⟩ h5)
       (fun T2 cs2 h3=>by rw[hb]at h3;simp at h3)
       (fun K E es h3=>by rw[hb]at h3;simp at h3)
       (fun E2 sz2 by2 g2 sh2 xs2 _ h3=>by
        simp only[ar dc,aa,Ob.row.injEq]at h3;obtain⟨rfl,rfl,rfl,rfl,rfl,rfl⟩:=h3;exact⟨g,false,xs,hb,aq _,fun _=>⟨pK.symm,rfl⟩⟩)
       (fun yY o2 h3=>by
        simp only[ar dc,aa]at h3;subst h3;refine⟨Jp,arr.toList.take (xs.length*t.size),⟨?_,.inr ⟨b,cap,arr,by rw[pK];exact hm,hB,setRow_heap w b cur arr E' (0,0) hh,by rw[pK];exact Ht,DJ,by rw[ze,mi],by rw[pK]⟩⟩,?_,?_⟩
        ·rw[pK];simp only[cz,a6,ze,mi];omega
        ·intro r hr';simp only[bL,List.mem_replicate]at hr';rcases hr' with(h5 | ⟨_,rfl⟩) | h5
         ·exact cq r (fu h5)
         ·exact VW
         ·exact cq r (pN h5)
        ·intro i2 j2 y hy;obtain⟨r,h5,h6⟩:=ie hy;have Hz:i2<xs.length:=by have:=(ab.1 h5).1;rw[pK]at this;exact this
         have BD:=oU xs (List.replicate (hi - lo) zs) lo i2 (by rw[oO];omega);rw[oO,show lo+(hi - lo)=hi by omega]at BD;rw[BD]at h5
         have rI:r.length=t.size:=by
          by_cases hc:lo≤i2∧i2<hi
          ·rw[bf hc,mW,bf (by omega)]at h5;simp only[aa]at h5;rw[← h5];exact VW
          ·rw[aI hc]at h5;exact cq r (aT h5)
         have V4:j2<t.size:=by rw[← rI];exact(ab.1 h6).1
         have xd:i2*t.size+j2<xs.length*t.size:=by
          have:(i2+1)*t.size≤xs.length*t.size:=bM _ Hz;rw[cD,gy]at this;omega
         by_cases hc:lo≤i2∧i2<hi
         ·rw[bf hc,mW,bf (by omega)]at h5;simp only[aa]at h5;subst h5;have Lo:lo*t.size≤i2*t.size:=bM _ hc.1;have jF:(i2+1)*t.size≤hi*t.size:=bM _ hc.2;rw[cD,gy]at jF;refine⟨cY y (aT h6),z.cells.getD j2 undef,?_,(Ox.2 j2 y h6).mono yY⟩;rw[bg xd,sJ,bf (by omega),Za _ (by omega)]
          have e2:i2*t.size+j2 - lo*t.size=j2+t.size*(i2 - lo):=by
           rw[fa t.size,Nat.sub_mul];omega
          rw[e2,Nat.add_mul_mod_self_left,xo V4]
         ·rw[aI hc]at h5;have eA:eS xs i2 j2=some y:=by rw[nT h5];exact h6
          obtain⟨YJ,u,h7,h8⟩:=N0 i2 j2 y eA;refine⟨YJ,u,?_,h8.mono yY⟩;rw[bg xd,sJ,aI ?_]
          ·rw[← yW,bg xd]at h7;exact h7
          ·rintro⟨h9,Fy⟩;rcases fb i2 lo with xg | xg
           ·have:(i2+1)*t.size≤lo*t.size:=bM _ xg;rw[cD,gy]at this;omega
           ·have:hi*t.size≤i2*t.size:=bM _ (by omega);omega)
      exact⟨_,_,μ,.inl cT,nW.1,.fi _ _ rfl (by simp),nW.2⟩
   ·simp at h
  ·simp at h
 ·simp at h
end EZ
end Go.Pm

/- A part of a proof; the claim's last text says of what. -/
import Derived.Maps.RangeRun
import Derived.Test.YtlakkaamfadipaaGreatDoorL10
set_option linter.all false

namespace Go.Pm
open Go Go.RowKit
section Cp
variable {P:Program} {o:Oper} {a:Act} {B:Nat} {w0 w:World} {J:ae} {μ:Mem} {fr:List V} (hF:FR w J μ fr a) (hS:fe P B w0 w J μ)
include hF hS
theorem Y5{T E:TypeId}{t:TypeInfo}{z:Value}{l c:Operand}{l' c':O}{zs0:List V}{szs:List (Option Nat)}(ho:o.op=.makeSlice T l c)(hT:P.underlying T=some (.slice E))(ht:P.info? E=some t)(hz:t.zero=some z)
  (eI:0<t.size) (lh:z.cells.size=t.size) (IZ:fY z.cells.toList=some zs0) (hl:cO l=some l') (hc:cO c=some c')
  {ob:Prop} {r:V} {J':ae} (h:bC fr J (.mk E t.size t.bytes (bW szs zs0) l' c')=some (ob,r,J')) (cK:ob):nZ P o a B w0 w J μ r J':=by
 have h1:=cn hF hl;have h2:=cn hF hc;simp only[bC]at h;split at h
 ·rename_i k n k2 m hn hm;simp only[aa,ao]at h;obtain⟨rfl,rfl,rfl⟩:=h;obtain⟨EC,QX,Gk,Vx,KQ,KF⟩:=cK;rw[hn]at h1;rw[hm]at h2;have Gq:Ti P E t.size t.bytes:=⟨eI,t,z,ht,hz,rfl,rfl,lh⟩;obtain⟨M,rfl⟩:=uT Gk;have K7:CR w J μ (bW szs zs0) z.cells:=(js IZ).bW szs;have Sj:(bW szs zs0).length=t.size:=by rw[K7.1];exact lh
  have iX:t.bytes*M≤281474976710656:=by
   have h3:((M*t.bytes:Nat):Int)≤281474976710656:=by rw[Int.natCast_mul];exact Vx
   rw[eR];exact Int.ofNat_le.1 h3
  have hM:M≤maxLen:=Int.ofNat_le.1 KQ
  have fin:∀ (v:Value) (w':World) (N:Nat) (vals:List Value),(Instr.makeSlice T (a.eval l) (a.eval c)).run P w=.ok v w'→w'.ownsRow B E t.size v N vals→w.grownBy w' none→(∀ b,fR v=some b→w.heap.size≤b)→n.toNat=N →
    gR w J μ (List.replicate N (bW szs zs0)) t.size vals→nZ P o a B w0 w J μ (.own J.length 0) (J++[.row E t.size t.bytes 0 false (List.replicate n.toNat (bW szs zs0))]):=by
   intro v w' N vals hr eu hg YT hN bT;rw[hN];have ik:=hS.ov (w':=w') (.row E t.size t.bytes 0 false (List.replicate N (bW szs zs0))) v hg YT (fun hp=>⟨Gq,vals,by rw[yq];exact eu,bT.dY hp.dY⟩);refine⟨v,w',_,.inl (by simp only[execOp,ho,Sem.run_bind,hr,Result.andThen_ok,Sem.run_pure]),ik.1,?_,ik.2⟩;have:=VR.lk (w:=w') (J:=J++[.row E t.size t.bytes 0 false (List.replicate N (bW szs zs0))]) (μ:=oh μ J.length v) (id:=J.length) (E:=E) (sz:=t.size) (by':=t.bytes) (g:=0) (sh:=false) (xs:=List.replicate N (bW szs zs0)) (by simp)
   rwa [cX]at this
  rcases QX with rfl | rfl
  ·obtain⟨w',hr,eu,hg⟩:=run_make_full (P:=P) w B T E t z t.size hT ht hz rfl k k2 M iX hM hS.base;refine fin _ w' M _ (by rw[h1.dI,h2.dI];exact hr) eu hg (fun b hb=>by simp only[fR,aa]at hb;omega) (by simp) ⟨fun r hr=>by rw[V4 hr];exact Sj,fun i j x hx=>?_⟩;obtain⟨hi,hj⟩:=Lq hx;have jr:j<t.size:=by rw[← Sj];exact(ab.1 hj).1
   have uD:i*t.size+j<M*t.size:=by
    have:(i+1)*t.size≤M*t.size:=aY _ hi;rw[bO,eG]at this;omega
   refine⟨KF x (aL hj),z.cells.getD j undef,?_,K7.2 j x hj⟩;have KN:(i*t.size+j) % z.cells.size=j:=by rw[lh,Nat.add_comm,Nat.add_mul_mod_self_right,uO jr]
   simp only[madeCells,lg,Array.toList_range,aW,iP uD,bL,KN];rw[rO _ _ (by omega)]
  ·obtain⟨w',hr,eu,hg⟩:=run_make_own (P:=P) w B T E t z t.size hT ht hz rfl k k2 M iX hM hS.base;exact fin _ w' 0 _ (by rw[h1.dI,h2.dI];exact hr) eu hg (fun b hb=>by simp only[fR,aa]at hb;omega) (by simp) ⟨by simp,fun i j x hx=>by simp[eV]at hx⟩
 ·simp at h
theorem VP{T E:TypeId}{t:TypeInfo}{l c:Operand}{l' c':O}(ho:o.op=.makeSlice T l c)(hT:P.underlying T=some (.slice E))(ht:P.info? E=some t)(hz:t.zero=some (.slice none 0 0))(yf:t.size=1)(hl:cO l=some l')(hc:cO c=some c')
  {ob:Prop} {r:V} {J':ae} (h:bC fr J (.Qn E t.bytes l' c')=some (ob,r,J')) (cK:ob):nZ P o a B w0 w J μ r J':=by
 have h1:=cn hF hl;have h2:=cn hF hc;simp only[bC]at h;split at h
 ·rename_i k n k2 m hn hm;simp only[aa,ao]at h;obtain⟨rfl,rfl,rfl⟩:=h;obtain⟨rfl,EC,Vx,KQ⟩:=cK;rw[hn]at h1;rw[hm]at h2;have Sr:(maxLen:Int)≤9223372036854775807:=by decide
  have hr:=run_make (P:=P) w T E t (.slice none 0 0) hT ht hz k k2 n n EC (bY _) (by rw[Int.mul_comm];exact Vx) (dw KQ Sr)
  have K7:CR w J μ (List.replicate n.toNat .nil) (madeCells (Value.slice none 0 0).cells (n.toNat*t.size)):=by
   refine⟨by simp[size_madeCells,yf],fun i x hx=>?_⟩;have hi:i<n.toNat:=by have:=(ab.1 hx).1;simpa using this
   have UK:x=.nil:=V4 (aL hx);subst UK
   have:(madeCells (Value.slice none 0 0).cells (n.toNat*t.size)).getD i undef=.slice none 0 0:=by
    have hc:(Value.slice none 0 0).cells=#[.slice none 0 0]:=rfl;simp only[madeCells,hc,yf,Bg];simp[aZ,hi,Nat.mod_one]
   rw[this];exact .nil
  obtain⟨μ',g1,g2,g3⟩:=AB hS E _ _ K7;cases g2 with
  | ptr _ _ b Vy jX =>
   refine⟨_,_,μ',.inl (by simp only[execOp,ho,Sem.run_bind,h1.dI,h2.dI,hr,Result.andThen_ok,Sem.run_pure]),g1,.r7 _ _ _ Vy jX,g3⟩
 ·simp at h
theorem RY{T E:TypeId}{len:Nat}{parts:Array (Nat×Operand)}{t:TypeInfo}{z:Value}{xs:List O}{szs:List (Option Nat)}(ho:o.op=.buildSlice T len parts)(hT:P.underlying T=some (.slice E))(ht:P.info? E=some t)(hz:t.zero=some z)
  (hn:parts.size=len) (eI:0<t.size) (IZ:z.cells.size=t.size) (N1:len*t.size≤2^24) (jV:pc 0 parts.toList=some xs) {ob:Prop} {r:V} {J':ae} (h:bC fr J (.Dq E t.size t.bytes szs xs)=some (ob,r,J')) (cK:ob):nZ P o a B w0 w J μ r J':=by
 simp only[bC,aa,ao]at h;obtain⟨rfl,rfl,rfl⟩:=h;obtain⟨fQ,rM⟩:=cK;obtain⟨cells',cx,kV,kN,wJ⟩:=xr hF hS ho hT ht hz hn eI IZ N1 jV fQ (fun r hr=>(rM r hr).1);generalize Wo:(xs.map fun x=>bW szs (dL (ev fr x)))=rows at rM kV wJ ⊢;have Gq:Ti P E t.size t.bytes:=⟨eI,t,z,ht,hz,rfl,rfl,IZ⟩;have hg:w.grownBy (w.alloc (.cells cells' E)) none:=World.grownBy_alloc w _ none
 have KQ:len≤maxLen:=by
  have:len≤len*t.size:=WQ _ eI;unfold maxLen;omega
 have eu:=World.ownsRow_lit (e:=E) w cells' len hS.base KQ kN
 have ik:=hS.ov (w':=w.alloc (.cells cells' E)) (.row E t.size t.bytes 0 false rows) (.slice (some ⟨w.heap.size,0,none⟩) len len) hg (fun b hb=>by simp only[fR,aa]at hb;omega)
  (fun hp=>⟨Gq,cells'.toList,by rw[kV];exact eu,fun r hr=>(rM r hr).1,fun i j x hx=>by
   obtain⟨cM,hv⟩:=wJ i j x hx;obtain⟨r,hr,hj⟩:=eP hx;refine⟨(rM r (aL hr)).2 x (aL hj),_,?_,hp.dY _ _ hv⟩;simp[cM]⟩)
 refine⟨_,_,_,.inl cx,ik.1,?_,ik.2⟩;have:=VR.lk (w:=w.alloc (.cells cells' E)) (J:=J++[.row E t.size t.bytes 0 false rows]) (μ:=oh μ J.length (.slice (some ⟨w.heap.size,0,none⟩) len len)) (id:=J.length) (E:=E) (sz:=t.size) (by':=t.bytes) (g:=0) (sh:=false) (xs:=rows) (by simp)
 rwa [cX]at this
omit hF hS in
theorem VR.FH{xs:List V}{kv av:Value}(hk:VR w J μ (.agg xs) kv)(ha:VR w J μ (.agg xs) av)(hx:∀ x∈xs,x.Hd=true):Instr.sameBits 10000 av kv=true:=by
 obtain⟨us,rfl,l1,v1⟩:=hk.fX;obtain⟨vs,rfl,l2,v2⟩:=ha.fX;simp only[Instr.sameBits,aP,bN,cj];refine⟨by omega,fun p hp=>?_⟩;obtain⟨i,hi⟩:=cU.1 hp;rw[List.getElem?_zip_eq_some]at hi;obtain⟨h1,h2⟩:=hi
 have cM:i<xs.length:=by
  have:=(ab.1 h1).1;simp at this;omega
 have Gf:=an cM;have e1:=v1 i _ Gf;have e2:=v2 i _ Gf;have g1:vs.getD i undef=p.1:=by simp at h1;simp[aZ,h1]
 have g2:us.getD i undef=p.2:=by simp at h2;simp[aZ,h2]
 rw[g2]at e1;rw[g1]at e2;have hs:=hx _ (cg cM);generalize xs[i]=x at *;obtain⟨a,b⟩:=p;cases x<;>simp[V.Hd]at hs
 ·rw[e1.lW,e2.lW];simp[Instr.sameBits]
 ·rw[e1.dI,e2.dI];simp[Instr.sameBits]
 ·obtain⟨s,h3,h4,_⟩:=e1.kb;obtain⟨s',h5,h6,_⟩:=e2.kb;simp only at h3 h5;subst h3;subst h5;simp only[Instr.sameBits];rw[beq_toListBytes,toList_data,toList_data,h4,h6];simp
theorem VR.sameBits{k a:V}{kv av:Value}{kd:Nat}(hk:VR w J μ k kv)(ha:VR w J μ a av)(h:bI kd k a=some true):Instr.sameBits 10000 av kv=true:=by
 cases k<;>cases a<;>(try (simp[bI]at h;done))
 ·rw[hk.lW,ha.lW]
  match kd with
  | 2=>simp only[bI,aa,bN]at h;subst h;simp[Instr.sameBits]
  | 0=>simp[bI]at h
  | 1=>simp[bI]at h
  | n+3=>simp[bI]at h
 ·rw[hk.dI,ha.dI]
  match kd with
  | 0 =>
   simp only[bI]at h;split at h<;>simp only[aa,bN,reduceCtorEq]at h;rename_i Gl;subst Gl;subst h;simp[Instr.sameBits]
  | 1=>simp[bI]at h
  | 2=>simp[bI]at h
  | n+3=>simp[bI]at h
 ·obtain⟨s,rfl,hs,_⟩:=hk.kb;obtain⟨s',rfl,hs',_⟩:=ha.kb
  match kd with
  | 1 =>
   simp only[bI,aa,bN]at h;subst h;simp only[Instr.sameBits];rw[beq_toListBytes,toList_data,toList_data,hs,hs'];simp
  | 0=>simp[bI]at h
  | 2=>simp[bI]at h
  | n+3=>simp[bI]at h
 ·match kd with
  | 3 =>
   simp only[bI]at h;obtain⟨k1,a1,l1,b1,a2,b2,rfl,rfl,hr⟩:=oQ h;rw[hk.pair,ha.pair];have hr':=hr.symm;simp only[aP,bN]at hr';obtain⟨rfl,rfl⟩:=hr';simp[Instr.sameBits]
  | 4 =>
   simp only[bI]at h;obtain⟨a1,b1,a2,b2,rfl,rfl,hr⟩:=oI h;have hr':=hr.symm;simp only[aP,bN]at hr';obtain⟨rfl,rfl⟩:=hr';exact VR.FH hk ha (by simp[V.Hd])
  | 5 =>
   simp only[bI]at h;obtain⟨k1,a1,b1,l1,c1,a2,b2,c2,rfl,rfl,hr⟩:=qn h;have hr':=hr.symm;simp only[aP,bN]at hr';obtain⟨rfl,rfl,rfl⟩:=hr';exact VR.FH hk ha (by simp[V.Hd])
  | 0=>simp[bI]at h
  | 1=>simp[bI]at h
  | 2=>simp[bI]at h
  | n+6=>simp[bI]at h
omit hF hS in
theorem fe.fm(hS:fe P B w0 w J μ){id K E rr clock:Nat}{es:List (V×V)}{ents:Array MapEntry}(hb:J[id]?=some (.map K E es))(jX:μ id=.map (some rr))(hh:w.heap[rr]?=some (.map ents clock))
  (E':Nat) (es':List (V×V)) (ents':Array MapEntry) (clock':Nat) (I7:qH w J μ es' ents' clock') (hE:E≤E')
  (hl:E'=E→es.length≤es'.length∧(es'.length=es.length→clock'=clock∧∀ (i:Nat) (e':MapEntry),ents'[i]?=some e'→∃ e,ents[i]?=some e∧e.born=e'.born) ∧
    ∀ (i:Nat) (e:MapEntry),ents[i]?=some e→∃ e',ents'[i]?=some e'∧e'.born=e.born) :
  fe P B w0 { w with heap:=w.heap.setIfInBounds rr (.map ents' clock') } (J.set id (.map K E' es')) μ∧ky w J μ { w with heap:=w.heap.setIfInBounds rr (.map ents' clock') } (J.set id (.map K E' es')) μ:=by
 have cM:id<J.length:=(ab.1 hb).1;have kV:rr<w.heap.size:=(aN.1 hh).1;have iS:(w.heap.setIfInBounds rr (.map ents' clock'))[rr]?=some (.map ents' clock'):=by simp[kV]
 obtain⟨r',_,_,hm',hB,_,_⟩:=hS.obj id _ hb;rw[jX]at hm';simp only[Value.map.injEq,aa]at hm';subst hm'
 exact hS.update (w':={ w with heap:=w.heap.setIfInBounds rr (.map ents' clock') }) (J':=J.set id (.map K E' es')) (μ':=μ) id (some rr)
  ⟨rfl,rfl,rfl,by simp,fun j _ hj=>by simp only[];rw[bS (fun e=>hj (by rw[e]))]⟩
  (fun b iX=>⟨_,hb,by simp,by simp only[aa]at iX;subst iX;simp[jX,fR]⟩)
  (by simp) (fun j hj=>ay (fun e=>hj e.symm)) (fun _ _=>rfl)
  (fun b iX=>.inl ⟨_,hb,by simp,iX⟩)
  (fun b off v2 o2 h4 _ h5 h6 _=>by
   simp only[jX,fR,aa]at h5;subst h5;simp[World.cell?,hh]at h6)
  (fun T2 cs2 h4=>by rw[hb]at h4;simp at h4)
  (fun K2 E2 es2 h4=>by
   rw[hb]at h4;simp only[aa,Ob.map.injEq]at h4;obtain⟨rfl,rfl,rfl⟩:=h4;refine⟨⟨_,_,ak cM⟩,rfl,fun K3 E3 es3 bm ents3 clock3 q1 q2 q3=>?_⟩;rw[hb]at q1;simp only[aa,Ob.map.injEq]at q1;obtain⟨rfl,rfl,rfl⟩:=q1;rw[jX]at q2;simp only[Value.map.injEq,aa]at q2;subst q2;rw[hh]at q3;simp only[aa,Obj.map.injEq]at q3;obtain⟨rfl,rfl⟩:=q3;exact⟨jX,K,E',es',ents',clock',ak cM,iS,hE,hl⟩)
  (fun E2 sz2 by2 g2 sh2 xs2 _ h4=>by simp[cM]at h4)
  (fun uC o2 h4=>by
   simp only[ak cM,aa]at h4;subst h4;exact⟨rr,ents',clock',jX,hB,iS,I7.dY uC.dY⟩)
  (fun st m E2 n ps c h4=>by rw[hb]at h4;simp at h4)
omit hF hS in
theorem qH.push{es:List (V×V)}{ents:Array MapEntry}{clock:Nat}(hR:qH w J μ es ents clock){k x:V}{kv xv:Value}(hk:VR w J μ k kv)(hx:VR w J μ x xv)(h1:k.mZ=true)(h2:x.gx=true):
  qH w J μ (es++[(k,x)]) (ents.push { key:=kv,val:=xv,born:=clock }) (clock+1):=by
 refine⟨by simp[hR.1],fun i a2 y hi=>?_,fun i e he=>?_,fun i j e e' he he' N2=>?_⟩
 ·by_cases u5:i<es.length
  ·rw[ag u5]at hi;obtain⟨h4,h5,e,h6,h7⟩:=hR.2.1 i a2 y hi;exact⟨h4,h5,e,by rw[xG (by rw[hR.1];exact u5)];have:=h6;rw[aS (by rw[hR.1];exact u5)]at this;exact this,h7⟩
  ·have hie:i=es.length:=by
    have:=(ab.1 hi).1;simp at this;omega
   subst hie;simp only[List.getElem?_concat_length,aa,ao]at hi;obtain⟨rfl,rfl⟩:=hi;exact⟨h1,h2,_,by rw[← hR.1];exact lJ,hk,hx⟩
 ·rw[pP]at he;split at he
  ·simp only[aa]at he;subst he;exact Nat.lt_succ_self _
  ·exact Nat.lt_succ_of_lt (hR.2.2.1 i e he)
 ·rw[pP]at he he';split at he
  ·split at he'
   ·omega
   ·simp only[aa]at he;subst he;have:=hR.2.2.1 j e' he';simp only at N2;omega
  ·split at he'
   ·simp only[aa]at he';subst he';have:=hR.2.2.1 i e he;simp only at N2;omega
   ·exact hR.2.2.2 i j e e' he he' N2
omit hF hS in
theorem yS{es:List (V×V)}{ents:Array MapEntry}{clock:Nat}(hR:qH w J μ es ents clock)(k x:V)(e0:MapEntry){E E':Nat}:E'=E→es.length≤(es++[(k,x)]).length∧((es++[(k,x)]).length=es.length→clock+1=clock∧∀ (i:Nat) (e':MapEntry),(ents.push e0)[i]?=some e'→∃ e,ents[i]?=some e∧e.born=e'.born) ∧
  ∀ (i:Nat) (e:MapEntry),ents[i]?=some e→∃ e',(ents.push e0)[i]?=some e'∧e'.born=e.born:=by
 refine fun _=>⟨by simp,fun h=>by simp at h,fun i e h=>⟨e,?_,rfl⟩⟩;have hl:=(aN.1 h).1;rw[xG hl];rw[aS hl]at h;exact h
omit hF hS in
theorem qH.modify{es:List (V×V)}{ents:Array MapEntry}{clock i0:Nat}(hR:qH w J μ es ents clock){k x:V}{kv xv:Value}{e2:MapEntry}(h9:ents[i0]?=some e2)(u5:i0<es.length)(hk:VR w J μ k kv)(hx:VR w J μ x xv)(h1:k.mZ=true)(h2:x.gx=true):
  qH w J μ (es.set i0 (k,x)) (ents.modify i0 fun e=>{ e with key:=kv,val:=xv }) clock:=by
 have KZ:∀ (i:Nat) (e3:MapEntry),(ents.modify i0 fun e=>{ e with key:=kv,val:=xv })[i]?=some e3→∃ e4,ents[i]?=some e4∧e4.born=e3.born:=by
  intro i e3 he;rw[bH]at he;split at he
  ·simp only[ah]at he;obtain⟨e4,uG,rfl⟩:=he;exact⟨e4,uG,rfl⟩
  ·exact⟨e3,he,rfl⟩
 refine⟨by simp[hR.1],fun i a3 y hi=>?_,fun i e3 he=>?_,fun i j e3 e4 he he' N2=>?_⟩
 ·by_cases EI:i=i0
  ·subst EI;rw[ak u5]at hi;simp only[aa,ao]at hi;obtain⟨rfl,rfl⟩:=hi;exact⟨h1,h2,{ e2 with key:=kv,val:=xv },by rw[bH,aQ rfl,h9];rfl,hk,hx⟩
  ·rw[ay (fun e=>EI e.symm)]at hi;obtain⟨uG,Mm,e3,VH,Y3⟩:=hR.2.1 i a3 y hi;exact⟨uG,Mm,e3,by rw[bH,aC (fun e=>EI e.symm)];exact VH,Y3⟩
 ·obtain⟨e4,uG,Mm⟩:=KZ i e3 he;rw[← Mm];exact hR.2.2.1 i e4 uG
 ·obtain⟨e5,uG,Mm⟩:=KZ i e3 he;obtain⟨e6,VH,Y3⟩:=KZ j e4 he';exact hR.2.2.2 i j e5 e6 uG VH (by rw[Mm,Y3,N2])
omit hF hS in
theorem oT{ents:Array MapEntry}{clock i0:Nat}(f:MapEntry→MapEntry)(hf:∀ e,(f e).born=e.born){n n' E E':Nat}(hn:n'=n):E'=E→n≤n'∧(n'=n→clock=clock∧∀ (i:Nat) (e':MapEntry),(ents.modify i0 f)[i]?=some e'→∃ e,ents[i]?=some e∧e.born=e'.born) ∧
  ∀ (i:Nat) (e:MapEntry),ents[i]?=some e→∃ e',(ents.modify i0 f)[i]?=some e'∧e'.born=e.born:=by
 refine fun _=>⟨by omega,fun _=>⟨rfl,fun i e' h=>?_⟩,fun i e h=>?_⟩
 ·rw[bH]at h;split at h
  ·simp only[ah]at h;obtain⟨e4,uG,rfl⟩:=h;exact⟨e4,uG,(hf e4).symm⟩
  ·exact⟨e',h,rfl⟩
 ·rw[bH];split
  ·rw[h];exact⟨_,rfl,hf e⟩
  ·exact⟨e,h,rfl⟩
theorem RU{T K E:TypeId}{m k x:Operand}{m' k' x':O}{kd:Nat}{szs:List (Option Nat)}(ho:o.op=.mapUpdate T m k x)(hT:P.underlying T=some (.map K E))(hm:cO m=some m')(hk:cO k=some k')(hx:cO x=some x')(nP:im P K=some kd)
  {ob:Prop} {r:V} {J':ae} (h:bC fr J (.qu kd szs m' k' x')=some (ob,r,J')) (cK:ob):nZ P o a B w0 w J μ r J':=by
 have h1:=cn hF hm;have h2:=cn hF hk;have h3:=cn hF hx
 have Ws:ja kd (ev fr k')=true:=by
  simp only[bC]at h;split at h
  ·split at h
   ·split at h<;>simp only[aa,ao,reduceCtorEq]at h<;>(obtain⟨rfl,_⟩:=h;exact cK.1)
   ·simp at h
  ·simp at h
 simp only[bC]at h;generalize XM:cz szs (ev fr x')=xv at h
 have h3':VR w J μ xv (a.eval x):=by
  rw[← XM];unfold cz;split
  ·rename_i xs hp;rw[hp]at h3;obtain⟨vs,hv,hl,s8⟩:=h3.fX;rw[hv];exact CR.oO (xs:=xs) szs ⟨hl,s8⟩
  ·exact h3
 split at h
 ·rename_i id hp;rw[hp]at h1;obtain⟨rr,hv,jX,_⟩:=h1.oV;split at h
  ·rename_i K' E' es hb;obtain⟨r',ents,clock,hm',hB,hh,hR⟩:=hS.obj id _ hb;rw[jX]at hm';simp only[Value.map.injEq,aa]at hm';subst hm';have cM:id<J.length:=(ab.1 hb).1;have kV:rr<w.heap.size:=(aN.1 hh).1;have hg:∀ (w2:World),w2.heap[rr]?=some (.map ents clock)→(getObj rr).run P w2=.ok (.map ents clock) w2:=fun w2 h=>by simp[getObj,Sem.run,h]
   have ta:=run_checkKey (P:=P) (w:=w) nP false 9998 h2 Ws
   have fin:∀ (es':List (V×V)) (ents':Array MapEntry) (clock':Nat),(execOp a.eval o).run P w=.ok .skip { w with heap:=w.heap.setIfInBounds rr (.map ents' clock') }→qH w J μ es' ents' clock' →
     (E'=E'→es.length≤es'.length∧(es'.length=es.length→clock'=clock∧∀ (i:Nat) (e':MapEntry),ents'[i]?=some e'→∃ e,ents[i]?=some e∧e.born=e'.born) ∧
      ∀ (i:Nat) (e:MapEntry),ents[i]?=some e→∃ e',ents'[i]?=some e'∧e'.born=e.born)→nZ P o a B w0 w J μ .u (J.set id (.map K' E' es')):=by
    intro es' ents' clock' hr I7 hle;have mh:=hS.fm hb jX hh E' es' ents' clock' I7 (aq _) hle;exact⟨undef,_,μ,.inr ⟨hr,rfl⟩,mh.1,.u _,mh.2⟩
   have iS:∀ ob2,(setObj rr ob2).run P w=.ok () { w with heap:=w.heap.setIfInBounds rr ob2 }:=fun ob2=>by simp[setObj,Sem.run,hh]
   split at h
   ·rename_i hf;simp only[aa,ao]at h;obtain⟨rfl,rfl,rfl⟩:=h
    have wH:=iz nP h2 es ents.toList none (by rw[aF];exact hR.1) (fun i a x hi=>by
     obtain⟨_,_,e,h3,h4,h5⟩:=hR.2.1 i a x hi;exact⟨e,by simpa using h3,h4,h5⟩) hf
    have hfn':(Instr.findKey K (a.eval k) ents.toList).run P w=.ok none w:=by
     rcases wH with⟨_,h⟩ | ⟨i,x,e,a2,h,_⟩
     ·exact h
     ·simp at h
    refine fin _ (ents.push { key:=a.eval k,val:=a.eval x,born:=clock }) (clock+1) ?_ (hR.push h2 h3' (qv cK.1) cK.2) (yS hR _ _ _);simp[execOp,ho,hv,Instr.mapUpdate,run_underlying hT,hg w hh,ta,hfn',iS]
   ·rename_i i0 x0 hf;simp only[aa,ao]at h;obtain⟨rfl,rfl,rfl⟩:=h
    have wH:=iz nP h2 es ents.toList _ (by rw[aF];exact hR.1) (fun i a x hi=>by
     obtain⟨_,_,e,h3,h4,h5⟩:=hR.2.1 i a x hi;exact⟨e,by simpa using h3,h4,h5⟩) hf
    rcases wH with⟨h4,_⟩ | ⟨i,y,e,a2,h4,h5,h6,h7,h8⟩
    ·simp at h4
    ·simp only[aa,ao]at h4;obtain⟨rfl,rfl⟩:=h4;obtain⟨_,_,e2,h9,CZ,_⟩:=hR.2.1 i0 a2 x0 h5
     have YD:e2=e:=by
      have:ents[i0]?=some e:=by simpa using h6
      rw[h9]at this;simpa using this
     subst YD;have UU:=VR.sameBits hF hS h2 CZ h7;refine fin _ (ents.modify i0 fun e=>{ e with key:=a.eval k,val:=a.eval x }) clock ?_ (hR.modify h9 (ab.1 h5).1 h2 h3' (qv cK.1) cK.2) (oT (fun e:MapEntry=>{ e with key:=a.eval k,val:=a.eval x }) (fun _=>rfl) (by simp));simp[execOp,ho,hv,Instr.mapUpdate,run_underlying hT,hg w hh,ta,h8,h9,Instr.keyThatStays,UU,iS]
   ·simp at h
  ·simp at h
 ·simp at h
omit hF hS in
theorem VR.zQ{k a:V}{kd:Nat}{kv av:Value}(hk:VR w J μ k kv)(ha:VR w J μ a av)(h:bI kd k a=some true):VR w J μ a kv:=by
 rw[← oK h];exact hk
omit hF hS in
theorem fe.fL(hS:fe P B w0 w J μ){id K E rr clock c:Nat}{es:List (V×V)}{ents:Array MapEntry}{e:MapEntry}(hb:J[id]?=some (.map K E es))(jX:μ id=.map (some rr))(hh:w.heap[rr]?=some (.map ents clock))(he:ents[c]?=some e):
  fe P B w0 w (J++[.iter true id E es.length [] (some c)]) (oh μ J.length (.int .i64 e.born))∧ky w J μ w (J++[.iter true id E es.length [] (some c)]) (oh μ J.length (.int .i64 e.born)):=by
 have cM:id<J.length:=(ab.1 hb).1;refine hS.ov _ _ (grownBy_refl w none) (by simp[fR]) fun hp=>⟨e.born,rfl,rr,?_,K,E,es,ents,clock,?_,hh,aq _,fun _=>⟨aq _,fun c' hc=>?_⟩⟩
 ·rw[ki _ _ _ _ (by omega)];exact jX
 ·rw[ag cM];exact hb
 ·simp only[aa]at hc;subst hc;exact⟨e,he,rfl⟩
theorem RW{T K E:TypeId}{m k:Operand}{m' k':O}{kd:Nat}{z:V}(ho:o.op=.mapEntry T m k)(hT:P.underlying T=some (.map K E))(hm:cO m=some m')(hk:cO k=some k')(nP:im P K=some kd)(hz:zeroV P E=some z)
  {ob:Prop} {r:V} {J':ae} (h:bC fr J (.rE kd z m' k')=some (ob,r,J')) (cK:ob):nZ P o a B w0 w J μ r J':=by
 have h1:=cn hF hm;have h2:=cn hF hk;obtain⟨zv,Wj,QK⟩:=Bw (w:=w) (J:=J) (μ:=μ) hz;simp only[bC]at h;split at h
 ·rename_i id hp;rw[hp]at h1;obtain⟨rr,hv,jX,_⟩:=h1.oV;split at h
  ·rename_i K' E' es hb;obtain⟨r',ents,clock,hm',hB,hh,hR⟩:=hS.obj id _ hb;rw[jX]at hm';simp only[Value.map.injEq,aa]at hm';subst hm';have cM:id<J.length:=(ab.1 hb).1;have kV:rr<w.heap.size:=(aN.1 hh).1;have hg:(getObj rr).run P w=.ok (.map ents clock) w:=by simp[getObj,Sem.run,hh]
   have iS:∀ ob2,(setObj rr ob2).run P w=.ok () { w with heap:=w.heap.setIfInBounds rr ob2 }:=fun ob2=>by simp[setObj,Sem.run,hh]
   split at h
   ·rename_i hf;simp only[aa,ao]at h;obtain⟨rfl,rfl,rfl⟩:=h;have ta:=run_checkKey (P:=P) (w:=w) nP false 9998 h2 cK.1
    have wH:=iz nP h2 es ents.toList none (by rw[aF];exact hR.1) (fun i a x hi=>by
     obtain⟨_,_,e,h3,h4,h5⟩:=hR.2.1 i a x hi;exact⟨e,by simpa using h3,h4,h5⟩) hf
    have hfn':(Instr.findKey K (a.eval k) ents.toList).run P w=.ok none w:=by
     rcases wH with⟨_,h⟩ | ⟨i,x,e,a2,h,_⟩
     ·exact h
     ·simp at h
    have I7:=hR.push h2 QK (qv cK.1) cK.2;have mh:=hS.fm hb jX hh E' (es++[(ev fr k',z)]) (ents.push { key:=a.eval k,val:=zv,born:=clock }) (clock+1) I7 (aq _) (yS hR _ _ _);have hh':(w.heap.setIfInBounds rr (.map (ents.push { key:=a.eval k,val:=zv,born:=clock }) (clock+1)))[rr]?=some (.map (ents.push { key:=a.eval k,val:=zv,born:=clock }) (clock+1)):=by simp[kV]
    have pE:=mh.1.fL (c:=es.length) (e:={ key:=a.eval k,val:=zv,born:=clock }) (ak cM) jX hh' (by rw[← hR.1];exact lJ);simp only[al,ai,aK,bj,cJ]at pE;refine⟨.tuple #[zv,.int .i64 clock],_,_,.inl ?_,pE.1,?_,mh.2.trans pE.2⟩
    ·simp[execOp,ho,hv,Instr.mapEntry,run_underlying hT,hg,ta,hfn',iS,Wj,goInt]
    ·refine .fa _ _ rfl fun i x hx=>?_
     match i with
     | 0=>simp only[au,aa]at hx;subst hx;exact(QK.mono mh.2).mono pE.2
     | 1=>simp only[bA,au,aa]at hx;subst hx;exact .it _ _ ⟨_,_,_,_,_,_,by rw[aw (by simp)];simp;exact⟨rfl,rfl,rfl,rfl,rfl,rfl⟩⟩ (by simp[oh])
     | i+2=>simp at hx
   ·rename_i i0 x0 hf;simp only[aa,ao]at h;obtain⟨rfl,rfl,rfl⟩:=h;have ta:=run_checkKey (P:=P) (w:=w) nP false 9998 h2 cK
    have wH:=iz nP h2 es ents.toList _ (by rw[aF];exact hR.1) (fun i a x hi=>by
     obtain⟨_,_,e,h3,h4,h5⟩:=hR.2.1 i a x hi;exact⟨e,by simpa using h3,h4,h5⟩) hf
    rcases wH with⟨h4,_⟩ | ⟨i,y,e,a2,h4,h5,h6,h7,h8⟩
    ·simp at h4
    ·simp only[aa,ao]at h4;obtain⟨rfl,rfl⟩:=h4;obtain⟨EH,Bm,e2,h9,CZ,uG⟩:=hR.2.1 i0 a2 x0 h5
     have YD:e2=e:=by
      have:ents[i0]?=some e:=by simpa using h6
      rw[h9]at this;simpa using this
     subst YD;have u5:=(ab.1 h5).1;have UU:=VR.sameBits hF hS h2 CZ h7
     have I7:qH w J μ es (ents.modify i0 fun e=>{ e with key:=a.eval k }) clock:=by
      have:=hR.modify (k:=a2) (x:=x0) (kv:=a.eval k) (xv:=e2.val) h9 u5 (VR.zQ h2 CZ h7) uG EH Bm;rw[show es.set i0 (a2,x0)=es by obtain⟨hq,e⟩:=ab.1 h5;rw[← e];exact nA hq]at this
      have e3:(ents.modify i0 fun e=>{ e with key:=a.eval k,val:=e2.val })=ents.modify i0 fun e=>{ e with key:=a.eval k }:=by
       apply Fm;intro i;rw[bH,bH];split
       ·rename_i EI;subst EI;rw[h9];rfl
       ·rfl
      rwa [e3]at this
     have mh:=hS.fm hb jX hh E' es (ents.modify i0 fun e=>{ e with key:=a.eval k }) clock I7 (aq _) (oT (fun e:MapEntry=>{ e with key:=a.eval k }) (fun _=>rfl) rfl);have KB:J.set id (.map K' E' es)=J:=by obtain⟨hq,e⟩:=ab.1 hb;rw[← e];exact nA hq
     rw[KB]at mh;have hh':(w.heap.setIfInBounds rr (.map (ents.modify i0 fun e=>{ e with key:=a.eval k }) clock))[rr]?=some (.map (ents.modify i0 fun e=>{ e with key:=a.eval k }) clock):=by simp[kV]
     have pE:=mh.1.fL (c:=i0) (e:={ e2 with key:=a.eval k }) hb jX hh' (by rw[bH,aQ rfl,h9];rfl);refine⟨.tuple #[e2.val,.int .i64 e2.born],_,_,.inl ?_,pE.1,?_,mh.2.trans pE.2⟩
     ·simp[execOp,ho,hv,Instr.mapEntry,run_underlying hT,hg,ta,h8,h9,Instr.keyThatStays,UU,iS,goInt]
     ·refine .fa _ _ rfl fun i x hx=>?_
      match i with
      | 0=>simp only[au,aa]at hx;subst hx;exact(uG.mono mh.2).mono pE.2
      | 1=>simp only[bA,au,aa]at hx;subst hx;exact .it _ _ ⟨_,_,_,_,_,_,by simp;exact⟨rfl,rfl,rfl,rfl,rfl,rfl⟩⟩ (by simp[oh])
      | i+2=>simp at hx
   ·simp at h
  ·simp at h
 ·simp at h
theorem RV{T K E:TypeId}{m q x:Operand}{m' q' x':O}{szs:List (Option Nat)}(ho:o.op=.entryStore T m q x)(hm:cO m=some m')(hq:cO q=some q')(hx:cO x=some x')
  {ob:Prop} {r:V} {J':ae} (h:bC fr J (.rD szs m' q' x')=some (ob,r,J')) (cK:ob):nZ P o a B w0 w J μ r J':=by
 have h1:=cn hF hm;have h2:=cn hF hq;have h3:=cn hF hx;simp only[bC]at h;generalize XM:cz szs (ev fr x')=xv at h
 have h3':VR w J μ xv (a.eval x):=by
  rw[← XM];unfold cz;split
  ·rename_i xs hp;rw[hp]at h3;obtain⟨vs,hv,hl,s8⟩:=h3.fX;rw[hv];exact CR.oO (xs:=xs) szs ⟨hl,s8⟩
  ·exact h3
 split at h
 ·rename_i id j hp uC;rw[hp]at h1;rw[uC]at h2;obtain⟨rr,hv,jX,_⟩:=h1.oV;split at h
  ·rename_i K' E' es id' E2 n ps c hb hj;split at h
   ·rename_i hc;obtain⟨rfl,rfl⟩:=hc;split at h
    ·rename_i k0 y0 Sy;simp only[aa,ao]at h;obtain⟨rfl,rfl,rfl⟩:=h;obtain⟨r',ents,clock,hm',hB,hh,hR⟩:=hS.obj _ _ hb;rw[jX]at hm';simp only[Value.map.injEq,aa]at hm';subst hm';obtain⟨born,WC,bm,YR,K3,E3,es3,ents3,clock3,q1,q2,q3,q4⟩:=hS.obj _ _ hj;rw[hb]at q1;simp only[aa,Ob.map.injEq]at q1;obtain⟨rfl,rfl,rfl⟩:=q1;rw[jX]at YR;simp only[Value.map.injEq,aa]at YR;subst YR;rw[hh]at q2;simp only[aa,Obj.map.injEq]at q2;obtain⟨rfl,rfl⟩:=q2;obtain⟨_,q5⟩:=q4 rfl;obtain⟨e0,Sv,WD⟩:=q5 c rfl;have cM:id'<J.length:=(ab.1 hb).1;have kV:rr<w.heap.size:=(aN.1 hh).1;have bz:c<es.length:=(ab.1 Sy).1;obtain⟨EH,_,e1,YF,ny,_⟩:=hR.2.1 c k0 y0 Sy;rw[Sv]at YF;simp only[aa]at YF;subst YF;have I7:=hR.modify (k:=k0) (x:=xv) (kv:=e0.key) (xv:=a.eval x) Sv bz ny h3' EH cK
     have e3:(ents.modify c fun e=>{ e with key:=e0.key,val:=a.eval x })=ents.modify c fun e=>{ e with val:=a.eval x }:=by
      apply Fm;intro i;rw[bH,bH];split
      ·rename_i EI;subst EI;rw[Sv];rfl
      ·rfl
     rw[e3]at I7;have mh:=hS.fm hb jX hh _ (es.set c (k0,xv)) (ents.modify c fun e=>{ e with val:=a.eval x }) clock I7 (aq _) (oT (fun e:MapEntry=>{ e with val:=a.eval x }) (fun _=>rfl) (by simp));have hg:(getObj rr).run P w=.ok (.map ents clock) w:=by simp[getObj,Sem.run,hh]
     have iS:∀ ob2,(setObj rr ob2).run P w=.ok () { w with heap:=w.heap.setIfInBounds rr ob2 }:=fun ob2=>by simp[setObj,Sem.run,hh]
     have hqv:a.eval q=.int .i64 born:=by rw[h2.Ex.1,WC]
     have PF:ents.findIdx? (fun e=>(e.born:Int)==born)=some c:=by
      have kN:c<ents.size:=(aN.1 Sv).1;have YE:ents[c]=e0:=(aN.1 Sv).2;rw[Array.findIdx?_eq_some_iff_getElem];refine⟨kN,by rw[YE];simp[WD],fun j hjc=>?_⟩;have hjs:j<ents.size:=by omega
      simp only[Bool.not_eq_true,dv,gC,eH,IW];intro EK;have:=hR.2.2.2 j c ents[j] e0 (aS hjs) Sv (by omega);omega
     refine⟨undef,_,μ,.inr ⟨?_,rfl⟩,mh.1,.u _,mh.2⟩;simp[execOp,ho,hv,Instr.entryStore,hg,hqv,asInt,asIntOf,PF,iS]
    ·simp at h
   ·simp at h
  ·simp at h
 ·simp at h
theorem RX{T K E K2:TypeId}{m k:Operand}{m' k':O}{kd:Nat}(ho:o.op=.call { callee:=.builtin .delete,args:=#[m,k],argTypes:=#[T,K2] })(hT:P.underlying T=some (.map K E))(hm:cO m=some m')(hk:cO k=some k')(nP:im P K=some kd)
  {ob:Prop} {r:V} {J':ae} (h:bC fr J (.yb kd m' k')=some (ob,r,J')) (cK:ob):nZ P o a B w0 w J μ r J':=by
 have h1:=cn hF hm;have h2:=cn hF hk;simp only[bC]at h;split at h
 ·rename_i id hp;rw[hp]at h1;obtain⟨rr,hv,jX,_⟩:=h1.oV;split at h
  ·rename_i K' E' es hb;obtain⟨r',ents,clock,hm',hB,hh,hR⟩:=hS.obj id _ hb;rw[jX]at hm';simp only[Value.map.injEq,aa]at hm';subst hm';have cM:id<J.length:=(ab.1 hb).1;have kV:rr<w.heap.size:=(aN.1 hh).1;have hg:(getObj rr).run P w=.ok (.map ents clock) w:=by simp[getObj,Sem.run,hh]
   have iS:∀ ob2,(setObj rr ob2).run P w=.ok () { w with heap:=w.heap.setIfInBounds rr ob2 }:=fun ob2=>by simp[setObj,Sem.run,hh]
   split at h
   ·rename_i hf;simp only[aa,ao]at h;obtain⟨rfl,rfl,rfl⟩:=h;have ta:=run_checkKey (P:=P) (w:=w) nP ents.isEmpty 9998 h2 cK
    have wH:=iz nP h2 es ents.toList none (by rw[aF];exact hR.1) (fun i a x hi=>by
     obtain⟨_,_,e,h3,h4,h5⟩:=hR.2.1 i a x hi;exact⟨e,by simpa using h3,h4,h5⟩) hf
    have hfn':(Instr.findKey K (a.eval k) ents.toList).run P w=.ok none w:=by
     rcases wH with⟨_,h⟩ | ⟨i,x,e,a2,h,_⟩
     ·exact h
     ·simp at h
    have mh:=hS.fm hb jX hh E' es ents clock hR (aq _) (fun _=>⟨aq _,fun _=>⟨rfl,fun i e' h=>⟨e',h,rfl⟩⟩,fun i e h=>⟨e,h,rfl⟩⟩);have KB:J.set id (.map K' E' es)=J:=by obtain⟨hq,e⟩:=ab.1 hb;rw[← e];exact nA hq
    rw[KB]at mh;refine⟨.tuple #[],_,μ,.inl ?_,mh.1,.fa _ _ rfl (by simp),mh.2⟩;simp[execOp,ho,resolve,invoke,builtin,hv,Builtin.delete_,run_underlying hT,hg,ta,hfn',iS]
   ·rename_i i0 x0 hf;simp only[aa,ao]at h;obtain⟨rfl,rfl,rfl⟩:=h;have ta:=run_checkKey (P:=P) (w:=w) nP ents.isEmpty 9998 h2 cK
    have wH:=iz nP h2 es ents.toList _ (by rw[aF];exact hR.1) (fun i a x hi=>by
     obtain⟨_,_,e,h3,h4,h5⟩:=hR.2.1 i a x hi;exact⟨e,by simpa using h3,h4,h5⟩) hf
    rcases wH with⟨h4,_⟩ | ⟨i,y,e,a2,h4,h5,h6,h7,h8⟩
    ·simp at h4
    ·simp only[aa,ao]at h4;obtain⟨rfl,rfl⟩:=h4;have u5:i0<es.length:=(ab.1 h5).1;have KS:i0<ents.size:=by rw[hR.1];exact u5
     have eJ:∀ i,(ents.eraseIdxIfInBounds i0)[i]?=ents[if i<i0 then i else i+1]?:=by
      intro i;rw[← Array.getElem?_toList,← Array.getElem?_toList]
      have:(ents.eraseIdxIfInBounds i0).toList=ents.toList.eraseIdx i0:=by
       unfold Array.eraseIdxIfInBounds;rw[dif_pos KS];simp
      rw[this,aap];split<;>rfl
     have I7:qH w J μ (es.eraseIdx i0) (ents.eraseIdxIfInBounds i0) clock:=by
      refine⟨?_,fun i k x hi=>?_,fun i e he=>?_,fun i j e e' he he' N2=>?_⟩
      ·have:(ents.eraseIdxIfInBounds i0).size=ents.size - 1:=by
        unfold Array.eraseIdxIfInBounds;rw[dif_pos KS];simp
       rw[this,List.length_eraseIdx,aQ u5,hR.1]
      ·rw[aap]at hi;rw[eJ];split at hi<;>rename_i hc<;>simp only[hc,aR,aO]<;>exact hR.2.1 _ k x hi
      ·rw[eJ]at he;exact hR.2.2.1 _ e he
      ·rw[eJ]at he he';have:=hR.2.2.2 _ _ e e' he he' N2;split at this<;>split at this<;>omega
     have mh:=hS.fm hb jX hh (E'+1) (es.eraseIdx i0) (ents.eraseIdxIfInBounds i0) clock I7 (by omega) (fun h=>by omega);refine⟨.tuple #[],_,μ,.inl ?_,mh.1,.fa _ _ rfl (by simp),mh.2⟩;simp[execOp,ho,resolve,invoke,builtin,hv,Builtin.delete_,run_underlying hT,hg,ta,h8,iS]
   ·simp at h
  ·simp at h
 ·simp at h
theorem ON{T K E:TypeId}{x:Operand}{x':O}(ho:o.op=.range T x)(hT:P.underlying T=some (.map K E))(hx:cO x=some x')
  {ob:Prop} {r:V} {J':ae} (h:bC fr J (.range x')=some (ob,r,J')):nZ P o a B w0 w J μ r J':=by
 have h1:=cn hF hx;simp only[bC]at h;split at h
 ·rename_i id hp;rw[hp]at h1;obtain⟨rr,hv,jX,_⟩:=h1.oV;split at h
  ·rename_i K' E' es hb;simp only[aa,ao]at h;obtain⟨rfl,rfl,rfl⟩:=h;obtain⟨r',ents,clock,hm',hB,hh,hR⟩:=hS.obj id _ hb;rw[jX]at hm';simp only[Value.map.injEq,aa]at hm';subst hm';have cM:id<J.length:=(ab.1 hb).1;have kV:rr<w.heap.size:=(aN.1 hh).1
   have zn:(w.alloc (.mapIter (some rr) clock #[] clock)).heap[rr]?=some (.map ents clock):=by
    rw[(World.grownBy_alloc w (.mapIter (some rr) clock #[] clock) none).block rr kV (by simp)];exact hh
   have hn:=hS.ov (w':=w.alloc (.mapIter (some rr) clock #[] clock)) (.iter false id E' es.length (List.range es.length) none) (.pointer (some ⟨w.heap.size,0,none⟩)) (World.grownBy_alloc w _ none) (by simp[fR])
    (fun hp=>⟨w.heap.size,rr,clock,#[],rfl,hS.base,heap_alloc_new w _,by rw[ki _ _ _ _ (by omega)];exact jX,fun p hp=>by simpa using hp,K',E',es,ents,clock,by rw[ag cM];exact hb,zn,aq _,
     fun _=>⟨aq _,fun _=>⟨rfl,fun i e hi=>by
      have:=(aN.1 hi).1;rw[hR.1]at this;simp[this],fun c hc=>by simp at hc⟩⟩⟩)
   refine⟨_,_,_,.inl ?_,hn.1,.it _ _ ⟨_,_,_,_,_,_,by simp;exact⟨rfl,rfl,rfl,rfl,rfl,rfl⟩⟩ (cX _ _ _),hn.2⟩;simp[execOp,ho,hv,run_range_map (P:=P) w T K E rr ents clock hT hh]
  ·simp at h
 ·simp at h
omit hS in
theorem SG(hS:fe P B w0 w J μ){x:Operand}{x':O}(ho:o.op=.entry x)(hx:cO x=some x'){ob:Prop}{y:V}(h:aJ fr J (.Gy x')=some (ob,y)):Yields P o a w J μ y:=by
 have h1:=cn hF hx;simp only[aJ]at h;split at h
 ·rename_i j hp;rw[hp]at h1;split at h
  ·rename_i m E n ps c hj;split at h
   ·rename_i K E' es hb;split at h
    ·rename_i hc;obtain⟨rfl,rfl⟩:=hc;split at h
     ·rename_i k y0 hce;simp only[aa,ao]at h;obtain⟨_,rfl⟩:=h;obtain⟨r,bm,since,seen,q1,_,q3,q4,_,K3,E3,es3,ents,clock,q5,q6,q7,q8⟩:=hS.obj _ _ hj;rw[hb]at q5;simp only[aa,Ob.map.injEq]at q5;obtain⟨rfl,rfl,rfl⟩:=q5;obtain⟨q9,q10,q11⟩:=(q8 rfl).2 rfl;subst q9;obtain⟨e,he,YT⟩:=q11 c rfl;obtain⟨r',ents',clock',hm',_,hh,hR⟩:=hS.obj _ _ hb;rw[q4]at hm';simp only[Value.map.injEq,aa]at hm';subst hm';rw[q6]at hh;simp only[aa,Obj.map.injEq]at hh;obtain⟨rfl,rfl⟩:=hh;obtain⟨_,_,e2,PH,hk,hv⟩:=hR.2.1 c k y0 hce;rw[he]at PH;simp only[aa]at PH;subst PH;have kN:c<ents.size:=(aN.1 he).1;have YE:ents[c]=e:=(aN.1 he).2
      have Vn:ents.find? (fun x=>x.born==e.born)=some e:=by
       rw[Array.find?_eq_some_iff_getElem];refine⟨by simp,c,kN,YE,fun i hi=>?_⟩;have KS:i<ents.size:=by omega
       simp only[eH,dv,gC];intro EK;have:=hR.2.2.2 i c ents[i] e (aS KS) he EK;omega
      have Sp:a.eval x=.pointer (some ⟨r,0,none⟩):=h1.Ex.1.trans q1;refine .pure (v:=.tuple #[e.key,e.val]) ?_ (.fa _ _ rfl fun i z hz=>?_)
      ·simp[execOp,ho,Sp,Instr.entry,getObj,Sem.run,q3,q6,YT,Vn]
      ·match i with
       | 0=>simp only[au,aa]at hz;subst hz;exact hk
       | 1=>simp only[bA,au,aa]at hz;subst hz;exact hv
       | i+2=>simp at hz
     ·simp at h
    ·simp at h
   ·simp at h
  ·simp at h
 ·simp at h
theorem VQ{T E:TypeId}{t:TypeInfo}{z:Value}{x:Operand}{x':O}{zs0:List V}{szs:List (Option Nat)}(ho:o.op=.call { callee:=.builtin .clear,args:=#[x],argTypes:=#[T] })(hT:P.underlying T=some (.slice E))(ht:P.info? E=some t)(hz:t.zero=some z)
  (eI:0<t.size) (lh:z.cells.size=t.size) (IZ:fY z.cells.toList=some zs0) (hx:cO x=some x')
  {ob:Prop} {r:V} {J':ae} (h:bC fr J (.Bu t.size (bW szs zs0) x')=some (ob,r,J')) (cK:ob):nZ P o a B w0 w J μ r J':=by
 have h1:=cn hF hx;have K7:CR w J μ (bW szs zs0) z.cells:=(js IZ).bW szs;generalize bW szs zs0=zs at h K7;have Sj:zs.length=t.size:=by rw[K7.1];exact lh
 simp only[bC]at h;split at h
 ·rename_i id g lo hi hp;split at h
  ·rename_i E' sz by' g' sh xs hb;split at h
   ·rename_i hg;obtain⟨rfl,rfl,rfl⟩:=hg;simp only[aa,ao]at h;obtain⟨rfl,rfl,rfl⟩:=h;rw[hp]at h1;obtain⟨hlh,DJ,hv⟩:=h1.mF hb;have cM:id<J.length:=(ab.1 hb).1;obtain⟨Gq,vals,⟨I0,hw⟩,bT,KC⟩:=hS.obj id _ hb;have UP:VR w (J.set id (.row E' t.size by' g false (xs.take lo++List.replicate (hi - lo) zs++xs.drop hi))) μ (.fa []) (.tuple #[]):=.fa _ _ rfl (by simp)
    by_cases h0:lo=hi
    ·subst h0
     have e1:J.set id (.row E' t.size by' g false (xs.take lo++List.replicate (lo - lo) zs++xs.drop lo))=J:=by
      simp only[eQ,List.replicate_zero,bF,jS];obtain⟨hq,e⟩:=ab.1 hb;rw[← e];exact nA hq
     have cx:(execOp a.eval o).run P w=.ok (.value (.tuple #[])) w:=by
      have NN:∃ ad cap,a.eval x=.slice ad 0 cap:=by
       rw[hv];rcases hw with⟨hm,_⟩ | ⟨b,cap,cur,hm,_⟩
       ·rw[hm];exact⟨_,_,by simp only[iR,eQ];rfl⟩
       ·rw[hm];exact⟨_,_,by simp only[iR,eQ];rfl⟩
      obtain⟨ad,cap,NN⟩:=NN;cases ad<;>simp[execOp,ho,resolve,invoke,builtin,NN,Builtin.clear_,run_underlying hT]
     rw[e1]at UP ⊢;exact⟨_,w,μ,.inl cx,hS,UP,ky.refl _ _ _⟩
    ·rcases hw with⟨_,hn⟩ | ⟨b,cap,cur,hm,hB,hh,CQ,wI,kN,wE⟩
     ·omega
     ·have gr:¬ cap=lo:=by omega
      have Sn:a.eval x=.slice (some ⟨b,lo*t.size,none⟩) (hi - lo) (cap - lo):=by rw[hv,hm];simp[iR,gr,Addr.add_lit]
      obtain⟨m,Ym⟩:∃ m,hi - lo=m+1:=⟨hi - lo - 1,by omega⟩;generalize bz:(Builtin.zeroCells z.cells (hi - lo)).toList=cl;have Il:cl.length=(hi - lo)*t.size:=by rw[← bz];simp[Builtin.zeroCells,lh]
      have Vv:∀ q,q<(hi - lo)*t.size→cl[q]?=some (z.cells.getD (q % t.size) undef):=by
       intro q hq;rw[← bz];have KN:q % t.size<z.cells.size:=by rw[lh];exact qN _ eI
       simp only[Builtin.zeroCells,lg,Array.toList_range,aW,lh,iP hq,bL];rw[rO _ _ KN]
      have hmul:lo*t.size+(hi - lo)*t.size=hi*t.size:=by rw[← Nat.add_mul];congr 1;omega
      have acg:hi*t.size≤xs.length*t.size:=aY _ DJ;have Ys:xs.length*t.size≤cap*t.size:=aY _ CQ
      have KI:∀ v∈cl,v.oneCell'=true:=by
       intro v XQ;obtain⟨q,hq⟩:=cU.1 XQ;have u4:q<(hi - lo)*t.size:=by rw[← Il];exact(ab.1 hq).1
       rw[Vv q u4]at hq;simp only[aa]at hq;subst hq;have hj:q % t.size<zs.length:=by rw[Sj];exact qN _ eI
       have:=K7.2 (q % t.size) zs[q % t.size] (an hj);exact(l3 hS this (mu (cK _ (cg hj)))).1
      have pE:=run_storeCells_at P b (lo*t.size) E' cl 0 cur w hh (by rw[Il,kN];omega) KI;generalize ik:(cur.toList.take (lo*t.size+0)++cl++cur.toList.drop (lo*t.size+0+cl.length)).toArray=arr at pE
      have cx:(execOp a.eval o).run P w=.ok (.value (.tuple #[])) (w.setRow b arr):=by
       rw[Ym]at bz Sn;simp[execOp,ho,resolve,invoke,builtin,Sn,Builtin.clear_,run_underlying hT,zeroValue,typeInfo,ht,hz,bz,pE]
      have qy:∀ j,arr.toList[j]?=if lo*t.size≤j∧j<hi*t.size then cl[j - lo*t.size]? else cur.toList[j]?:=by
       intro j;rw[← ik];have:=nF cur.toList cl (lo*t.size) j (by rw[Il,aF,kN];omega);rw[Il,hmul]at this;simpa[Il,hmul]using this
      have wN:arr.size=cur.size:=by
       rw[← ik];simp only[de,al,ba,bJ,aF,Il,kN,eA];omega
      have qU:(xs.take lo++List.replicate (hi - lo) zs++xs.drop hi).length=xs.length:=by simp;omega
      have mh:=hS.update (w':=w.setRow b arr) (J':=J.set id (.row E' t.size by' g false (xs.take lo++List.replicate (hi - lo) zs++xs.drop hi))) (μ':=μ) id (some b)
       ⟨rfl,rfl,rfl,by simp,fun k _ hk=>setRow_other w b k _ (fun e=>hk (by simp[e]))⟩
       (fun b2 iX=>⟨_,hb,by simp,by simp only[aa]at iX;subst iX;simp[hm,fR]⟩)
       (by simp) (fun j hj=>ay (fun e=>hj e.symm)) (fun _ _=>rfl)
       (fun b2 iX=>.inl ⟨_,hb,by simp,iX⟩)
       (fun b2 off2 v2 o2 h3 _ h4 _ h5=>absurd ⟨id,o2,h3,h4,by rw[hb]at h3;simp only[aa]at h3;subst h3;intro hf;simp at hf⟩ h5)
       (fun T2 cs2 h3=>by rw[hb]at h3;simp at h3)
       (fun K E es h3=>by rw[hb]at h3;simp at h3)
       (fun E2 sz2 by2 g2 sh2 xs2 _ h3=>by
        simp only[ak cM,aa,Ob.row.injEq]at h3;obtain⟨rfl,rfl,rfl,rfl,rfl,rfl⟩:=h3;exact⟨g,false,xs,hb,aq _,fun _=>⟨qU.symm,rfl⟩⟩)
       (fun uC o2 h3=>by
        simp only[ak cM,aa]at h3;subst h3;refine⟨Gq,arr.toList.take (xs.length*t.size),⟨?_,.inr ⟨b,cap,arr,by rw[qU];exact hm,hB,setRow_heap w b cur arr E' (0,0) hh,by rw[qU];exact CQ,wI,by rw[wN,kN],by rw[qU]⟩⟩,?_,?_⟩
        ·rw[qU];simp only[ba,aF,wN,kN];omega
        ·intro r hr';simp only[bQ,List.mem_replicate]at hr';rcases hr' with(h5 | ⟨_,rfl⟩) | h5
         ·exact bT r (df h5)
         ·exact Sj
         ·exact bT r (dh h5)
        ·intro i2 j2 y hy;obtain⟨r,h5,h6⟩:=eP hy;have Bp:i2<xs.length:=by have:=(ab.1 h5).1;rw[qU]at this;exact this
         have Gg:=nF xs (List.replicate (hi - lo) zs) lo i2 (by rw[yq];omega);rw[yq,show lo+(hi - lo)=hi by omega]at Gg;rw[Gg]at h5
         have kV:r.length=t.size:=by
          by_cases hc:lo≤i2∧i2<hi
          ·rw[aQ hc,uR,aQ (by omega)]at h5;simp only[aa]at h5;rw[← h5];exact Sj
          ·rw[aC hc]at h5;exact bT r (aL h5)
         have Ss:j2<t.size:=by rw[← kV];exact(ab.1 h6).1
         have uD:i2*t.size+j2<xs.length*t.size:=by
          have:(i2+1)*t.size≤xs.length*t.size:=aY _ Bp;rw[bO,eG]at this;omega
         by_cases hc:lo≤i2∧i2<hi
         ·rw[aQ hc,uR,aQ (by omega)]at h5;simp only[aa]at h5;subst h5;have I4:lo*t.size≤i2*t.size:=aY _ hc.1;have s9:(i2+1)*t.size≤hi*t.size:=aY _ hc.2;rw[bO,eG]at s9;refine⟨cK y (aL h6),z.cells.getD j2 undef,?_,(K7.2 j2 y h6).mono uC⟩;rw[aU uD,qy,aQ (by omega),Vv _ (by omega)]
          have e2:i2*t.size+j2 - lo*t.size=j2+t.size*(i2 - lo):=by
           rw[eR t.size,Nat.sub_mul];omega
          rw[e2,Nat.add_mul_mod_self_left,uO Ss]
         ·rw[aC hc]at h5;have eJ:eV xs i2 j2=some y:=by rw[l8 h5];exact h6
          obtain⟨UZ,u,h7,h8⟩:=KC i2 j2 y eJ;refine⟨UZ,u,?_,h8.mono uC⟩;rw[aU uD,qy,aC ?_]
          ·rw[← wE,aU uD]at h7;exact h7
          ·rintro⟨h9,CZ⟩;rcases ft i2 lo with uG | uG
           ·have:(i2+1)*t.size≤lo*t.size:=aY _ uG;rw[bO,eG]at this;omega
           ·have:hi*t.size≤i2*t.size:=aY _ (by omega);omega)
      exact⟨_,_,μ,.inl cx,mh.1,.fa _ _ rfl (by simp),mh.2⟩
   ·simp at h
  ·simp at h
 ·simp at h
end Cp
end Go.Pm

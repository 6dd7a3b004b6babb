/- A part of a proof; the claim's last text says of what. -/
import Derived.Maps.RangeRun
import Derived.Test.YtlakkaamfadipaaGreatDoorV9
set_option linter.all false

namespace Go.Pm
open Go Go.RowKit
section D7
variable {P:Program} {o:Oper} {a:Act} {B:Nat} {w0 w:World} {J:ae} {μ:Mem} {fr:List V} (hF:FR w J μ fr a) (hS:fF P B w0 w J μ)
include hF hS
theorem abE{T E:TypeId}{t:TypeInfo}{z:Value}{l c:Operand}{l' c':O}{zs0:List V}{szs:List (Option Nat)}(ho:o.op=.makeSlice T l c)(hT:P.underlying T=some (.slice E))(ht:P.info? E=some t)(hz:t.zero=some z)
  (fE:0<t.size) (lR:z.cells.size=t.size) (QC:gL z.cells.toList=some zs0) (hl:cO l=some l') (hc:cO c=some c')
  {ob:Prop} {r:V} {J':ae} (h:bO fr J (.mk E t.size t.bytes (cx szs zs0) l' c')=some (ob,r,J')) (cX:ob):oX P o a B w0 w J μ r J':=by
 have h1:=cK hF hl;have h2:=cK hF hc;simp only[bO]at h;split at h
 ·rename_i k n k2 m hn hm;simp only[aa,an]at h;obtain⟨rfl,rfl,rfl⟩:=h;obtain⟨Nx,TZ,hm0,Yt,NA,Nr⟩:=cX;rw[hn]at h1;rw[hm]at h2;have Ix:Ti P E t.size t.bytes:=⟨fE,t,z,ht,hz,rfl,rfl,lR⟩;obtain⟨M,rfl⟩:=wo hm0;have NP:CR w J μ (cx szs zs0) z.cells:=(jY QC).cx szs;have Vl:(cx szs zs0).length=t.size:=by rw[NP.1];exact lR
  have jA:t.bytes*M≤281474976710656:=by
   have h3:((M*t.bytes:Nat):Int)≤281474976710656:=by rw[Int.natCast_mul];exact Yt
   rw[fm];exact Int.ofNat_le.1 h3
  have hM:M≤maxLen:=Int.ofNat_le.1 NA
  have fin:∀ (v:Value) (w':World) (N:Nat) (vals:List Value),(Instr.makeSlice T (a.eval l) (a.eval c)).run P w=.ok v w'→w'.ownsRow B E t.size v N vals→w.grownBy w' none→(∀ b,ir v=some b→w.heap.size≤b)→n.toNat=N →
    ma w J μ (List.replicate N (cx szs zs0)) t.size vals→oX P o a B w0 w J μ (.own J.length 0) (J++[.row E t.size t.bytes 0 false (List.replicate n.toNat (cx szs zs0))]):=by
   intro v w' N vals hr fx hg hbk hN ck;rw[hN];have jg:=hS.ph (w':=w') (.row E t.size t.bytes 0 false (List.replicate N (cx szs zs0))) v hg hbk (fun hp=>⟨Ix,vals,by rw[Ag];exact fx,ck.eO hp.eO⟩);refine⟨v,w',_,.inl (by simp only[execOp,ho,Sem.run_bind,hr,Result.andThen_ok,Sem.run_pure]),jg.1,?_,jg.2⟩;have:=VR.nD (w:=w') (J:=J++[.row E t.size t.bytes 0 false (List.replicate N (cx szs zs0))]) (μ:=pD μ J.length v) (id:=J.length) (E:=E) (sz:=t.size) (by':=t.bytes) (g:=0) (sh:=false) (xs:=List.replicate N (cx szs zs0)) (by simp)
   rwa [dV]at this
  rcases TZ with rfl | rfl
  ·obtain⟨w',hr,fx,hg⟩:=run_make_full (P:=P) w B T E t z t.size hT ht hz rfl k k2 M jA hM hS.base;refine fin _ w' M _ (by rw[h1.ey,h2.ey];exact hr) fx hg (fun b hb=>by simp only[ir,aa]at hb;omega) (by simp) ⟨fun r hr=>by rw[YY hr];exact Vl,fun i j x hx=>?_⟩;obtain⟨hi,hj⟩:=N6 hx;have kH:j<t.size:=by rw[← Vl];exact(ab.1 hj).1
   have vW:i*t.size+j<M*t.size:=by
    have:(i+1)*t.size≤M*t.size:=bJ _ hi;rw[cB,gE]at this;omega
   refine⟨Nr x (aV hj),z.cells.getD j undef,?_,NP.2 j x hj⟩;have Ny:(i*t.size+j) % z.cells.size=j:=by rw[lR,Nat.add_comm,Nat.add_mul_mod_self_right,wh kH]
   simp only[madeCells,lL,Array.toList_range,bf,gS vW,bY,Ny];rw[tl _ _ (by omega)]
  ·obtain⟨w',hr,fx,hg⟩:=run_make_own (P:=P) w B T E t z t.size hT ht hz rfl k k2 M jA hM hS.base;exact fin _ w' 0 _ (by rw[h1.ey,h2.ey];exact hr) fx hg (fun b hb=>by simp only[ir,aa]at hb;omega) (by simp) ⟨by simp,fun i j x hx=>by simp[fw]at hx⟩
 ·simp at h
theorem YK{T E:TypeId}{t:TypeInfo}{l c:Operand}{l' c':O}(ho:o.op=.makeSlice T l c)(hT:P.underlying T=some (.slice E))(ht:P.info? E=some t)(hz:t.zero=some (.slice none 0 0))(Gw:t.size=1)(hl:cO l=some l')(hc:cO c=some c')
  {ob:Prop} {r:V} {J':ae} (h:bO fr J (.Tj E t.bytes l' c')=some (ob,r,J')) (cX:ob):oX P o a B w0 w J μ r J':=by
 have h1:=cK hF hl;have h2:=cK hF hc;simp only[bO]at h;split at h
 ·rename_i k n k2 m hn hm;simp only[aa,an]at h;obtain⟨rfl,rfl,rfl⟩:=h;obtain⟨rfl,Nx,Yt,NA⟩:=cX;rw[hn]at h1;rw[hm]at h2;have Vs:(maxLen:Int)≤9223372036854775807:=by decide
  have hr:=run_make (P:=P) w T E t (.slice none 0 0) hT ht hz k k2 n n Nx (cj _) (by rw[Int.mul_comm];exact Yt) (dL NA Vs)
  have NP:CR w J μ (List.replicate n.toNat .nil) (madeCells (Value.slice none 0 0).cells (n.toNat*t.size)):=by
   refine⟨by simp[size_madeCells,Gw],fun i x hx=>?_⟩;have hi:i<n.toNat:=by have:=(ab.1 hx).1;simpa using this
   have TR:x=.nil:=YY (aV hx);subst TR
   have:(madeCells (Value.slice none 0 0).cells (n.toNat*t.size)).getD i undef=.slice none 0 0:=by
    have hc:(Value.slice none 0 0).cells=#[.slice none 0 0]:=rfl;simp only[madeCells,hc,Gw,CV];simp[bl,hi,Nat.mod_one]
   rw[this];exact .nil
  obtain⟨μ',g1,g2,g3⟩:=Ck hS E _ _ NP;cases g2 with
  | ptr _ _ b Yu kB =>
   refine⟨_,_,μ',.inl (by simp only[execOp,ho,Sem.run_bind,h1.ey,h2.ey,hr,Result.andThen_ok,Sem.run_pure]),g1,.tL _ _ _ Yu kB,g3⟩
 ·simp at h
theorem UZ{T E:TypeId}{len:Nat}{parts:Array (Nat×Operand)}{t:TypeInfo}{z:Value}{xs:List O}{szs:List (Option Nat)}(ho:o.op=.buildSlice T len parts)(hT:P.underlying T=some (.slice E))(ht:P.info? E=some t)(hz:t.zero=some z)
  (hn:parts.size=len) (fE:0<t.size) (QC:z.cells.size=t.size) (QT:len*t.size≤2^24) (lx:qo 0 parts.toList=some xs) {ob:Prop} {r:V} {J':ae} (h:bO fr J (.Ha E t.size t.bytes szs xs)=some (ob,r,J')) (cX:ob):oX P o a B w0 w J μ r J':=by
 simp only[bO,aa,an]at h;obtain⟨rfl,rfl,rfl⟩:=h;obtain⟨gU,td⟩:=cX;obtain⟨cells',cQ,qZ,mS,yg⟩:=yQ hF hS ho hT ht hz hn fE QC QT lx gU (fun r hr=>(td r hr).1);generalize Za:(xs.map fun x=>cx szs (er (ev fr x)))=rows at td qZ yg ⊢;have Ix:Ti P E t.size t.bytes:=⟨fE,t,z,ht,hz,rfl,rfl,QC⟩;have hg:w.grownBy (w.alloc (.cells cells' E)) none:=World.grownBy_alloc w _ none
 have NA:len≤maxLen:=by
  have:len≤len*t.size:=ZB _ fE;unfold maxLen;omega
 have fx:=World.ownsRow_lit (e:=E) w cells' len hS.base NA mS
 have jg:=hS.ph (w':=w.alloc (.cells cells' E)) (.row E t.size t.bytes 0 false rows) (.slice (some ⟨w.heap.size,0,none⟩) len len) hg (fun b hb=>by simp only[ir,aa]at hb;omega)
  (fun hp=>⟨Ix,cells'.toList,by rw[qZ];exact fx,fun r hr=>(td r hr).1,fun i j x hx=>by
   obtain⟨dp,hv⟩:=yg i j x hx;obtain⟨r,hr,hj⟩:=ib hx;refine⟨(td r (aV hr)).2 x (aV hj),_,?_,hp.eO _ _ hv⟩;simp[dp]⟩)
 refine⟨_,_,_,.inl cQ,jg.1,?_,jg.2⟩;have:=VR.nD (w:=w.alloc (.cells cells' E)) (J:=J++[.row E t.size t.bytes 0 false rows]) (μ:=pD μ J.length (.slice (some ⟨w.heap.size,0,none⟩) len len)) (id:=J.length) (E:=E) (sz:=t.size) (by':=t.bytes) (g:=0) (sh:=false) (xs:=rows) (by simp)
 rwa [dV]at this
omit hF hS in
theorem VR.HD{xs:List V}{kv av:Value}(hk:VR w J μ (.agg xs) kv)(ha:VR w J μ (.agg xs) av)(hx:∀ x∈xs,x.Jh=true):Instr.sameBits 10000 av kv=true:=by
 obtain⟨us,rfl,l1,v1⟩:=hk.gA;obtain⟨vs,rfl,l2,v2⟩:=ha.gA;simp only[Instr.sameBits,aG,bR,bU];refine⟨by omega,fun p hp=>?_⟩;obtain⟨i,hi⟩:=eZ.1 hp;rw[List.getElem?_zip_eq_some]at hi;obtain⟨h1,h2⟩:=hi
 have dp:i<xs.length:=by
  have:=(ab.1 h1).1;simp at this;omega
 have Gu:=al dp;have e1:=v1 i _ Gu;have e2:=v2 i _ Gu;have g1:vs.getD i undef=p.1:=by simp at h1;simp[bl,h1]
 have g2:us.getD i undef=p.2:=by simp at h2;simp[bl,h2]
 rw[g2]at e1;rw[g1]at e2;have hs:=hx _ (cF dp);generalize xs[i]=x at *;obtain⟨a,b⟩:=p;cases x<;>simp[V.Jh]at hs
 ·rw[e1.mE,e2.mE];simp[Instr.sameBits]
 ·rw[e1.ey,e2.ey];simp[Instr.sameBits]
 ·obtain⟨s,h3,h4,_⟩:=e1.kG;obtain⟨s',h5,h6,_⟩:=e2.kG;simp only at h3 h5;subst h3;subst h5;simp only[Instr.sameBits];rw[beq_toListBytes,toList_data,toList_data,h4,h6];simp
theorem VR.sameBits{k a:V}{kv av:Value}{kd:Nat}(hk:VR w J μ k kv)(ha:VR w J μ a av)(h:bX kd k a=some true):Instr.sameBits 10000 av kv=true:=by
 cases k<;>cases a<;>(try (simp[bX]at h;done))
 ·rw[hk.mE,ha.mE]
  match kd with
  | 2=>simp only[bX,aa,bR]at h;subst h;simp[Instr.sameBits]
  | 0=>simp[bX]at h
  | 1=>simp[bX]at h
  | n+3=>simp[bX]at h
 ·rw[hk.ey,ha.ey]
  match kd with
  | 0 =>
   simp only[bX]at h;split at h<;>simp only[aa,bR,reduceCtorEq]at h;rename_i ND;subst ND;subst h;simp[Instr.sameBits]
  | 1=>simp[bX]at h
  | 2=>simp[bX]at h
  | n+3=>simp[bX]at h
 ·obtain⟨s,rfl,hs,_⟩:=hk.kG;obtain⟨s',rfl,hs',_⟩:=ha.kG
  match kd with
  | 1 =>
   simp only[bX,aa,bR]at h;subst h;simp only[Instr.sameBits];rw[beq_toListBytes,toList_data,toList_data,hs,hs'];simp
  | 0=>simp[bX]at h
  | 2=>simp[bX]at h
  | n+3=>simp[bX]at h
 ·match kd with
  | 3 =>
   simp only[bX]at h;obtain⟨k1,a1,l1,b1,a2,b2,rfl,rfl,hr⟩:=p5 h;rw[hk.pair,ha.pair];have hr':=hr.symm;simp only[aG,bR]at hr';obtain⟨rfl,rfl⟩:=hr';simp[Instr.sameBits]
  | 4 =>
   simp only[bX]at h;obtain⟨a1,b1,a2,b2,rfl,rfl,hr⟩:=pK h;have hr':=hr.symm;simp only[aG,bR]at hr';obtain⟨rfl,rfl⟩:=hr';exact VR.HD hk ha (by simp[V.Jh])
  | 5 =>
   simp only[bX]at h;obtain⟨k1,a1,b1,l1,c1,a2,b2,c2,rfl,rfl,hr⟩:=rJ h;have hr':=hr.symm;simp only[aG,bR]at hr';obtain⟨rfl,rfl,rfl⟩:=hr';exact VR.HD hk ha (by simp[V.Jh])
  | 0=>simp[bX]at h
  | 1=>simp[bX]at h
  | 2=>simp[bX]at h
  | n+6=>simp[bX]at h
omit hF hS in
theorem fF.fL(hS:fF P B w0 w J μ){id K E rr clock:Nat}{es:List (V×V)}{ents:Array MapEntry}(hb:J[id]?=some (.map K E es))(kB:μ id=.map (some rr))(hh:w.heap[rr]?=some (.map ents clock))
  (E':Nat) (es':List (V×V)) (ents':Array MapEntry) (clock':Nat) (LD:sc w J μ es' ents' clock') (hE:E≤E')
  (hl:E'=E→es.length≤es'.length∧(es'.length=es.length→clock'=clock∧∀ (i:Nat) (e':MapEntry),ents'[i]?=some e'→∃ e,ents[i]?=some e∧e.born=e'.born) ∧
    ∀ (i:Nat) (e:MapEntry),ents[i]?=some e→∃ e',ents'[i]?=some e'∧e'.born=e.born) :
  fF P B w0 { w with heap:=w.heap.setIfInBounds rr (.map ents' clock') } (J.set id (.map K E' es')) μ∧kW w J μ { w with heap:=w.heap.setIfInBounds rr (.map ents' clock') } (J.set id (.map K E' es')) μ:=by
 have dp:id<J.length:=(ab.1 hb).1;have qZ:rr<w.heap.size:=(aX.1 hh).1;have mG:(w.heap.setIfInBounds rr (.map ents' clock'))[rr]?=some (.map ents' clock'):=by simp[qZ]
 obtain⟨r',_,_,hm',hB,_,_⟩:=hS.obj id _ hb;rw[kB]at hm';simp only[Value.map.injEq,aa]at hm';subst hm'
 exact hS.update (w':={ w with heap:=w.heap.setIfInBounds rr (.map ents' clock') }) (J':=J.set id (.map K E' es')) (μ':=μ) id (some rr)
  ⟨rfl,rfl,rfl,by simp,fun j _ hj=>by simp only[];rw[cd (fun e=>hj (by rw[e]))]⟩
  (fun b jA=>⟨_,hb,by simp,by simp only[aa]at jA;subst jA;simp[kB,ir]⟩)
  (by simp) (fun j hj=>aK (fun e=>hj e.symm)) (fun _ _=>rfl)
  (fun b jA=>.inl ⟨_,hb,by simp,jA⟩)
  (fun b off v2 o2 h4 _ h5 h6 _=>by
   simp only[kB,ir,aa]at h5;subst h5;simp[World.cell?,hh]at h6)
  (fun T2 cs2 h4=>by rw[hb]at h4;simp at h4)
  (fun K2 E2 es2 h4=>by
   rw[hb]at h4;simp only[aa,Ob.map.injEq]at h4;obtain⟨rfl,rfl,rfl⟩:=h4;refine⟨⟨_,_,ao dp⟩,rfl,fun K3 E3 es3 bm ents3 clock3 q1 q2 q3=>?_⟩;rw[hb]at q1;simp only[aa,Ob.map.injEq]at q1;obtain⟨rfl,rfl,rfl⟩:=q1;rw[kB]at q2;simp only[Value.map.injEq,aa]at q2;subst q2;rw[hh]at q3;simp only[aa,Obj.map.injEq]at q3;obtain⟨rfl,rfl⟩:=q3;exact⟨kB,K,E',es',ents',clock',ao dp,mG,hE,hl⟩)
  (fun E2 sz2 by2 g2 sh2 xs2 _ h4=>by simp[dp]at h4)
  (fun yc o2 h4=>by
   simp only[ao dp,aa]at h4;subst h4;exact⟨rr,ents',clock',kB,hB,mG,LD.eO yc.eO⟩)
  (fun st m E2 n ps c h4=>by rw[hb]at h4;simp at h4)
omit hF hS in
theorem sc.push{es:List (V×V)}{ents:Array MapEntry}{clock:Nat}(hR:sc w J μ es ents clock){k x:V}{kv xv:Value}(hk:VR w J μ k kv)(hx:VR w J μ x xv)(h1:k.nX=true)(h2:x.iR=true):
  sc w J μ (es++[(k,x)]) (ents.push { key:=kv,val:=xv,born:=clock }) (clock+1):=by
 refine⟨by simp[hR.1],fun i a2 y hi=>?_,fun i e he=>?_,fun i j e e' he he' NO=>?_⟩
 ·by_cases rz:i<es.length
  ·rw[ai rz]at hi;obtain⟨h4,h5,e,h6,h7⟩:=hR.2.1 i a2 y hi;exact⟨h4,h5,e,by rw[zh (by rw[hR.1];exact rz)];have:=h6;rw[bc (by rw[hR.1];exact rz)]at this;exact this,h7⟩
  ·have hie:i=es.length:=by
    have:=(ab.1 hi).1;simp at this;omega
   subst hie;simp only[List.getElem?_concat_length,aa,an]at hi;obtain⟨rfl,rfl⟩:=hi;exact⟨h1,h2,_,by rw[← hR.1];exact mc,hk,hx⟩
 ·rw[qY]at he;split at he
  ·simp only[aa]at he;subst he;exact Nat.lt_succ_self _
  ·exact Nat.lt_succ_of_lt (hR.2.2.1 i e he)
 ·rw[qY]at he he';split at he
  ·split at he'
   ·omega
   ·simp only[aa]at he;subst he;have:=hR.2.2.1 j e' he';simp only at NO;omega
  ·split at he'
   ·simp only[aa]at he';subst he';have:=hR.2.2.1 i e he;simp only at NO;omega
   ·exact hR.2.2.2 i j e e' he he' NO
omit hF hS in
theorem AK{es:List (V×V)}{ents:Array MapEntry}{clock:Nat}(hR:sc w J μ es ents clock)(k x:V)(e0:MapEntry){E E':Nat}:E'=E→es.length≤(es++[(k,x)]).length∧((es++[(k,x)]).length=es.length→clock+1=clock∧∀ (i:Nat) (e':MapEntry),(ents.push e0)[i]?=some e'→∃ e,ents[i]?=some e∧e.born=e'.born) ∧
  ∀ (i:Nat) (e:MapEntry),ents[i]?=some e→∃ e',(ents.push e0)[i]?=some e'∧e'.born=e.born:=by
 refine fun _=>⟨by simp,fun h=>by simp at h,fun i e h=>⟨e,?_,rfl⟩⟩;have hl:=(aX.1 h).1;rw[zh hl];rw[bc hl]at h;exact h
omit hF hS in
theorem sc.modify{es:List (V×V)}{ents:Array MapEntry}{clock i0:Nat}(hR:sc w J μ es ents clock){k x:V}{kv xv:Value}{e2:MapEntry}(h9:ents[i0]?=some e2)(rz:i0<es.length)(hk:VR w J μ k kv)(hx:VR w J μ x xv)(h1:k.nX=true)(h2:x.iR=true):
  sc w J μ (es.set i0 (k,x)) (ents.modify i0 fun e=>{ e with key:=kv,val:=xv }) clock:=by
 have NM:∀ (i:Nat) (e3:MapEntry),(ents.modify i0 fun e=>{ e with key:=kv,val:=xv })[i]?=some e3→∃ e4,ents[i]?=some e4∧e4.born=e3.born:=by
  intro i e3 he;rw[cz]at he;split at he
  ·simp only[aj]at he;obtain⟨e4,vZ,rfl⟩:=he;exact⟨e4,vZ,rfl⟩
  ·exact⟨e3,he,rfl⟩
 refine⟨by simp[hR.1],fun i a3 y hi=>?_,fun i e3 he=>?_,fun i j e3 e4 he he' NO=>?_⟩
 ·by_cases GF:i=i0
  ·subst GF;rw[ao rz]at hi;simp only[aa,an]at hi;obtain⟨rfl,rfl⟩:=hi;exact⟨h1,h2,{ e2 with key:=kv,val:=xv },by rw[cz,aI rfl,h9];rfl,hk,hx⟩
  ·rw[aK (fun e=>GF e.symm)]at hi;obtain⟨vZ,Pd,e3,YC,h14⟩:=hR.2.1 i a3 y hi;exact⟨vZ,Pd,e3,by rw[cz,aw (fun e=>GF e.symm)];exact YC,h14⟩
 ·obtain⟨e4,vZ,Pd⟩:=NM i e3 he;rw[← Pd];exact hR.2.2.1 i e4 vZ
 ·obtain⟨e5,vZ,Pd⟩:=NM i e3 he;obtain⟨e6,YC,h14⟩:=NM j e4 he';exact hR.2.2.2 i j e5 e6 vZ YC (by rw[Pd,h14,NO])
omit hF hS in
theorem p6{ents:Array MapEntry}{clock i0:Nat}(f:MapEntry→MapEntry)(hf:∀ e,(f e).born=e.born){n n' E E':Nat}(hn:n'=n):E'=E→n≤n'∧(n'=n→clock=clock∧∀ (i:Nat) (e':MapEntry),(ents.modify i0 f)[i]?=some e'→∃ e,ents[i]?=some e∧e.born=e'.born) ∧
  ∀ (i:Nat) (e:MapEntry),ents[i]?=some e→∃ e',(ents.modify i0 f)[i]?=some e'∧e'.born=e.born:=by
 refine fun _=>⟨by omega,fun _=>⟨rfl,fun i e' h=>?_⟩,fun i e h=>?_⟩
 ·rw[cz]at h;split at h
  ·simp only[aj]at h;obtain⟨e4,vZ,rfl⟩:=h;exact⟨e4,vZ,(hf e4).symm⟩
  ·exact⟨e',h,rfl⟩
 ·rw[cz];split
  ·rw[h];exact⟨_,rfl,hf e⟩
  ·exact⟨e,h,rfl⟩
theorem UU{T K E:TypeId}{m k x:Operand}{m' k' x':O}{kd:Nat}{szs:List (Option Nat)}(ho:o.op=.mapUpdate T m k x)(hT:P.underlying T=some (.map K E))(hm:cO m=some m')(hk:cO k=some k')(hx:cO x=some x')(oL:iW P K=some kd)
  {ob:Prop} {r:V} {J':ae} (h:bO fr J (.uw kd szs m' k' x')=some (ob,r,J')) (cX:ob):oX P o a B w0 w J μ r J':=by
 have h1:=cK hF hm;have h2:=cK hF hk;have h3:=cK hF hx
 have Zd:jI kd (ev fr k')=true:=by
  simp only[bO]at h;split at h
  ·split at h
   ·split at h<;>simp only[aa,an,reduceCtorEq]at h<;>(obtain⟨rfl,_⟩:=h;exact cX.1)
   ·simp at h
  ·simp at h
 simp only[bO]at h;generalize hxv:cW szs (ev fr x')=xv at h
 have h3':VR w J μ xv (a.eval x):=by
  rw[← hxv];unfold cW;split
  ·rename_i xs hp;rw[hp]at h3;obtain⟨vs,hv,hl,AY⟩:=h3.gA;rw[hv];exact CR.pW (xs:=xs) szs ⟨hl,AY⟩
  ·exact h3
 split at h
 ·rename_i id hp;rw[hp]at h1;obtain⟨rr,hv,kB,_⟩:=h1.qb;split at h
  ·rename_i K' E' es hb;obtain⟨r',ents,clock,hm',hB,hh,hR⟩:=hS.obj id _ hb;rw[kB]at hm';simp only[Value.map.injEq,aa]at hm';subst hm';have dp:id<J.length:=(ab.1 hb).1;have qZ:rr<w.heap.size:=(aX.1 hh).1;have hg:∀ (w2:World),w2.heap[rr]?=some (.map ents clock)→(getObj rr).run P w2=.ok (.map ents clock) w2:=fun w2 h=>by simp[getObj,Sem.run,h]
   have tj:=run_checkKey (P:=P) (w:=w) oL false 9998 h2 Zd
   have fin:∀ (es':List (V×V)) (ents':Array MapEntry) (clock':Nat),(execOp a.eval o).run P w=.ok .skip { w with heap:=w.heap.setIfInBounds rr (.map ents' clock') }→sc w J μ es' ents' clock' →
     (E'=E'→es.length≤es'.length∧(es'.length=es.length→clock'=clock∧∀ (i:Nat) (e':MapEntry),ents'[i]?=some e'→∃ e,ents[i]?=some e∧e.born=e'.born) ∧
      ∀ (i:Nat) (e:MapEntry),ents[i]?=some e→∃ e',ents'[i]?=some e'∧e'.born=e.born)→oX P o a B w0 w J μ .u (J.set id (.map K' E' es')):=by
    intro es' ents' clock' hr LD hle;have oe:=hS.fL hb kB hh E' es' ents' clock' LD (au _) hle;exact⟨undef,_,μ,.inr ⟨hr,rfl⟩,oe.1,.u _,oe.2⟩
   have mG:∀ ob2,(setObj rr ob2).run P w=.ok () { w with heap:=w.heap.setIfInBounds rr ob2 }:=fun ob2=>by simp[setObj,Sem.run,hh]
   split at h
   ·rename_i hf;simp only[aa,an]at h;obtain⟨rfl,rfl,rfl⟩:=h
    have yf:=jh oL h2 es ents.toList none (by rw[a6];exact hR.1) (fun i a x hi=>by
     obtain⟨_,_,e,h3,h4,h5⟩:=hR.2.1 i a x hi;exact⟨e,by simpa using h3,h4,h5⟩) hf
    have hfn':(Instr.findKey K (a.eval k) ents.toList).run P w=.ok none w:=by
     rcases yf with⟨_,h⟩ | ⟨i,x,e,a2,h,_⟩
     ·exact h
     ·simp at h
    refine fin _ (ents.push { key:=a.eval k,val:=a.eval x,born:=clock }) (clock+1) ?_ (hR.push h2 h3' (rP cX.1) cX.2) (AK hR _ _ _);simp[execOp,ho,hv,Instr.mapUpdate,run_underlying hT,hg w hh,tj,hfn',mG]
   ·rename_i i0 x0 hf;simp only[aa,an]at h;obtain⟨rfl,rfl,rfl⟩:=h
    have yf:=jh oL h2 es ents.toList _ (by rw[a6];exact hR.1) (fun i a x hi=>by
     obtain⟨_,_,e,h3,h4,h5⟩:=hR.2.1 i a x hi;exact⟨e,by simpa using h3,h4,h5⟩) hf
    rcases yf with⟨h4,_⟩ | ⟨i,y,e,a2,h4,h5,h6,h7,h8⟩
    ·simp at h4
    ·simp only[aa,an]at h4;obtain⟨rfl,rfl⟩:=h4;obtain⟨_,_,e2,h9,C0,_⟩:=hR.2.1 i0 a2 x0 h5
     have hee:e2=e:=by
      have:ents[i0]?=some e:=by simpa using h6
      rw[h9]at this;simpa using this
     subst hee;have XW:=VR.sameBits hF hS h2 C0 h7;refine fin _ (ents.modify i0 fun e=>{ e with key:=a.eval k,val:=a.eval x }) clock ?_ (hR.modify h9 (ab.1 h5).1 h2 h3' (rP cX.1) cX.2) (p6 (fun e:MapEntry=>{ e with key:=a.eval k,val:=a.eval x }) (fun _=>rfl) (by simp));simp[execOp,ho,hv,Instr.mapUpdate,run_underlying hT,hg w hh,tj,h8,h9,Instr.keyThatStays,XW,mG]
   ·simp at h
  ·simp at h
 ·simp at h
omit hF hS in
theorem VR.Bw{k a:V}{kd:Nat}{kv av:Value}(hk:VR w J μ k kv)(ha:VR w J μ a av)(h:bX kd k a=some true):VR w J μ a kv:=by
 rw[← pL h];exact hk
omit hF hS in
theorem fF.gD(hS:fF P B w0 w J μ){id K E rr clock c:Nat}{es:List (V×V)}{ents:Array MapEntry}{e:MapEntry}(hb:J[id]?=some (.map K E es))(kB:μ id=.map (some rr))(hh:w.heap[rr]?=some (.map ents clock))(he:ents[c]?=some e):
  fF P B w0 w (J++[.iter true id E es.length [] (some c)]) (pD μ J.length (.int .i64 e.born))∧kW w J μ w (J++[.iter true id E es.length [] (some c)]) (pD μ J.length (.int .i64 e.born)):=by
 have dp:id<J.length:=(ab.1 hb).1;refine hS.ph _ _ (grownBy_refl w none) (by simp[ir]) fun hp=>⟨e.born,rfl,rr,?_,K,E,es,ents,clock,?_,hh,au _,fun _=>⟨au _,fun c' hc=>?_⟩⟩
 ·rw[mf _ _ _ _ (by omega)];exact kB
 ·rw[ai dp];exact hb
 ·simp only[aa]at hc;subst hc;exact⟨e,he,rfl⟩
theorem UX{T K E:TypeId}{m k:Operand}{m' k':O}{kd:Nat}{z:V}(ho:o.op=.mapEntry T m k)(hT:P.underlying T=some (.map K E))(hm:cO m=some m')(hk:cO k=some k')(oL:iW P K=some kd)(hz:zeroV P E=some z)
  {ob:Prop} {r:V} {J':ae} (h:bO fr J (.s0 kd z m' k')=some (ob,r,J')) (cX:ob):oX P o a B w0 w J μ r J':=by
 have h1:=cK hF hm;have h2:=cK hF hk;obtain⟨zv,Y7,TL⟩:=C5 (w:=w) (J:=J) (μ:=μ) hz;simp only[bO]at h;split at h
 ·rename_i id hp;rw[hp]at h1;obtain⟨rr,hv,kB,_⟩:=h1.qb;split at h
  ·rename_i K' E' es hb;obtain⟨r',ents,clock,hm',hB,hh,hR⟩:=hS.obj id _ hb;rw[kB]at hm';simp only[Value.map.injEq,aa]at hm';subst hm';have dp:id<J.length:=(ab.1 hb).1;have qZ:rr<w.heap.size:=(aX.1 hh).1;have hg:(getObj rr).run P w=.ok (.map ents clock) w:=by simp[getObj,Sem.run,hh]
   have mG:∀ ob2,(setObj rr ob2).run P w=.ok () { w with heap:=w.heap.setIfInBounds rr ob2 }:=fun ob2=>by simp[setObj,Sem.run,hh]
   split at h
   ·rename_i hf;simp only[aa,an]at h;obtain⟨rfl,rfl,rfl⟩:=h;have tj:=run_checkKey (P:=P) (w:=w) oL false 9998 h2 cX.1
    have yf:=jh oL h2 es ents.toList none (by rw[a6];exact hR.1) (fun i a x hi=>by
     obtain⟨_,_,e,h3,h4,h5⟩:=hR.2.1 i a x hi;exact⟨e,by simpa using h3,h4,h5⟩) hf
    have hfn':(Instr.findKey K (a.eval k) ents.toList).run P w=.ok none w:=by
     rcases yf with⟨_,h⟩ | ⟨i,x,e,a2,h,_⟩
     ·exact h
     ·simp at h
    have LD:=hR.push h2 TL (rP cX.1) cX.2;have oe:=hS.fL hb kB hh E' (es++[(ev fr k',z)]) (ents.push { key:=a.eval k,val:=zv,born:=clock }) (clock+1) LD (au _) (AK hR _ _ _);have hh':(w.heap.setIfInBounds rr (.map (ents.push { key:=a.eval k,val:=zv,born:=clock }) (clock+1)))[rr]?=some (.map (ents.push { key:=a.eval k,val:=zv,born:=clock }) (clock+1)):=by simp[qZ]
    have rT:=oe.1.gD (c:=es.length) (e:={ key:=a.eval k,val:=zv,born:=clock }) (ao dp) kB hh' (by rw[← hR.1];exact mc);simp only[ak,ag,ay,bo,zt]at rT;refine⟨.tuple #[zv,.int .i64 clock],_,_,.inl ?_,rT.1,?_,oe.2.trans rT.2⟩
    ·simp[execOp,ho,hv,Instr.mapEntry,run_underlying hT,hg,tj,hfn',mG,Y7,goInt]
    ·refine .fu _ _ rfl fun i x hx=>?_
     match i with
     | 0=>simp only[aq,aa]at hx;subst hx;exact(TL.mono oe.2).mono rT.2
     | 1=>simp only[bF,aq,aa]at hx;subst hx;exact .it _ _ ⟨_,_,_,_,_,_,by rw[aH (by simp)];simp;exact⟨rfl,rfl,rfl,rfl,rfl,rfl⟩⟩ (by simp[pD])
     | i+2=>simp at hx
   ·rename_i i0 x0 hf;simp only[aa,an]at h;obtain⟨rfl,rfl,rfl⟩:=h;have tj:=run_checkKey (P:=P) (w:=w) oL false 9998 h2 cX
    have yf:=jh oL h2 es ents.toList _ (by rw[a6];exact hR.1) (fun i a x hi=>by
     obtain⟨_,_,e,h3,h4,h5⟩:=hR.2.1 i a x hi;exact⟨e,by simpa using h3,h4,h5⟩) hf
    rcases yf with⟨h4,_⟩ | ⟨i,y,e,a2,h4,h5,h6,h7,h8⟩
    ·simp at h4
    ·simp only[aa,an]at h4;obtain⟨rfl,rfl⟩:=h4;obtain⟨rV,vV,e2,h9,C0,vZ⟩:=hR.2.1 i0 a2 x0 h5
     have hee:e2=e:=by
      have:ents[i0]?=some e:=by simpa using h6
      rw[h9]at this;simpa using this
     subst hee;have rz:=(ab.1 h5).1;have XW:=VR.sameBits hF hS h2 C0 h7
     have LD:sc w J μ es (ents.modify i0 fun e=>{ e with key:=a.eval k }) clock:=by
      have:=hR.modify (k:=a2) (x:=x0) (kv:=a.eval k) (xv:=e2.val) h9 rz (VR.Bw h2 C0 h7) vZ rV vV;rw[show es.set i0 (a2,x0)=es by obtain⟨hq,e⟩:=ab.1 h5;rw[← e];exact ox hq]at this
      have e3:(ents.modify i0 fun e=>{ e with key:=a.eval k,val:=e2.val })=ents.modify i0 fun e=>{ e with key:=a.eval k }:=by
       apply Hk;intro i;rw[cz,cz];split
       ·rename_i GF;subst GF;rw[h9];rfl
       ·rfl
      rwa [e3]at this
     have oe:=hS.fL hb kB hh E' es (ents.modify i0 fun e=>{ e with key:=a.eval k }) clock LD (au _) (p6 (fun e:MapEntry=>{ e with key:=a.eval k }) (fun _=>rfl) rfl);have Nj:J.set id (.map K' E' es)=J:=by obtain⟨hq,e⟩:=ab.1 hb;rw[← e];exact ox hq
     rw[Nj]at oe;have hh':(w.heap.setIfInBounds rr (.map (ents.modify i0 fun e=>{ e with key:=a.eval k }) clock))[rr]?=some (.map (ents.modify i0 fun e=>{ e with key:=a.eval k }) clock):=by simp[qZ]
     have rT:=oe.1.gD (c:=i0) (e:={ e2 with key:=a.eval k }) hb kB hh' (by rw[cz,aI rfl,h9];rfl);refine⟨.tuple #[e2.val,.int .i64 e2.born],_,_,.inl ?_,rT.1,?_,oe.2.trans rT.2⟩
     ·simp[execOp,ho,hv,Instr.mapEntry,run_underlying hT,hg,tj,h8,h9,Instr.keyThatStays,XW,mG,goInt]
     ·refine .fu _ _ rfl fun i x hx=>?_
      match i with
      | 0=>simp only[aq,aa]at hx;subst hx;exact(vZ.mono oe.2).mono rT.2
      | 1=>simp only[bF,aq,aa]at hx;subst hx;exact .it _ _ ⟨_,_,_,_,_,_,by simp;exact⟨rfl,rfl,rfl,rfl,rfl,rfl⟩⟩ (by simp[pD])
      | i+2=>simp at hx
   ·simp at h
  ·simp at h
 ·simp at h
theorem UW{T K E:TypeId}{m q x:Operand}{m' q' x':O}{szs:List (Option Nat)}(ho:o.op=.entryStore T m q x)(hm:cO m=some m')(hq:cO q=some q')(hx:cO x=some x')
  {ob:Prop} {r:V} {J':ae} (h:bO fr J (.sZ szs m' q' x')=some (ob,r,J')) (cX:ob):oX P o a B w0 w J μ r J':=by
 have h1:=cK hF hm;have h2:=cK hF hq;have h3:=cK hF hx;simp only[bO]at h;generalize hxv:cW szs (ev fr x')=xv at h
 have h3':VR w J μ xv (a.eval x):=by
  rw[← hxv];unfold cW;split
  ·rename_i xs hp;rw[hp]at h3;obtain⟨vs,hv,hl,AY⟩:=h3.gA;rw[hv];exact CR.pW (xs:=xs) szs ⟨hl,AY⟩
  ·exact h3
 split at h
 ·rename_i id j hp yc;rw[hp]at h1;rw[yc]at h2;obtain⟨rr,hv,kB,_⟩:=h1.qb;split at h
  ·rename_i K' E' es id' E2 n ps c hb hj;split at h
   ·rename_i hc;obtain⟨rfl,rfl⟩:=hc;split at h
    ·rename_i k0 y0 Vz;simp only[aa,an]at h;obtain⟨rfl,rfl,rfl⟩:=h;obtain⟨r',ents,clock,hm',hB,hh,hR⟩:=hS.obj _ _ hb;rw[kB]at hm';simp only[Value.map.injEq,aa]at hm';subst hm';obtain⟨born,Zp,bm,hbm,K3,E3,es3,ents3,clock3,q1,q2,q3,q4⟩:=hS.obj _ _ hj;rw[hb]at q1;simp only[aa,Ob.map.injEq]at q1;obtain⟨rfl,rfl,rfl⟩:=q1;rw[kB]at hbm;simp only[Value.map.injEq,aa]at hbm;subst hbm;rw[hh]at q2;simp only[aa,Obj.map.injEq]at q2;obtain⟨rfl,rfl⟩:=q2;obtain⟨_,q5⟩:=q4 rfl;obtain⟨e0,Vx,VA⟩:=q5 c rfl;have dp:id'<J.length:=(ab.1 hb).1;have qZ:rr<w.heap.size:=(aX.1 hh).1;have bz:c<es.length:=(ab.1 Vz).1;obtain⟨rV,_,e1,he1,po,_⟩:=hR.2.1 c k0 y0 Vz;rw[Vx]at he1;simp only[aa]at he1;subst he1;have LD:=hR.modify (k:=k0) (x:=xv) (kv:=e0.key) (xv:=a.eval x) Vx bz po h3' rV cX
     have e3:(ents.modify c fun e=>{ e with key:=e0.key,val:=a.eval x })=ents.modify c fun e=>{ e with val:=a.eval x }:=by
      apply Hk;intro i;rw[cz,cz];split
      ·rename_i GF;subst GF;rw[Vx];rfl
      ·rfl
     rw[e3]at LD;have oe:=hS.fL hb kB hh _ (es.set c (k0,xv)) (ents.modify c fun e=>{ e with val:=a.eval x }) clock LD (au _) (p6 (fun e:MapEntry=>{ e with val:=a.eval x }) (fun _=>rfl) (by simp));have hg:(getObj rr).run P w=.ok (.map ents clock) w:=by simp[getObj,Sem.run,hh]
     have mG:∀ ob2,(setObj rr ob2).run P w=.ok () { w with heap:=w.heap.setIfInBounds rr ob2 }:=fun ob2=>by simp[setObj,Sem.run,hh]
     have hqv:a.eval q=.int .i64 born:=by rw[h2.Gp.1,Zp]
     have LA:ents.findIdx? (fun e=>(e.born:Int)==born)=some c:=by
      have mS:c<ents.size:=(aX.1 Vx).1;have hec:ents[c]=e0:=(aX.1 Vx).2;rw[Array.findIdx?_eq_some_iff_getElem];refine⟨mS,by rw[hec];simp[VA],fun j hjc=>?_⟩;have hjs:j<ents.size:=by omega
      simp only[Bool.not_eq_true,cT,eX,cS,Lh];intro GJ;have:=hR.2.2.2 j c ents[j] e0 (bc hjs) Vx (by omega);omega
     refine⟨undef,_,μ,.inr ⟨?_,rfl⟩,oe.1,.u _,oe.2⟩;simp[execOp,ho,hv,Instr.entryStore,hg,hqv,asInt,asIntOf,LA,mG]
    ·simp at h
   ·simp at h
  ·simp at h
 ·simp at h
theorem UY{T K E K2:TypeId}{m k:Operand}{m' k':O}{kd:Nat}(ho:o.op=.call { callee:=.builtin .delete,args:=#[m,k],argTypes:=#[T,K2] })(hT:P.underlying T=some (.map K E))(hm:cO m=some m')(hk:cO k=some k')(oL:iW P K=some kd)
  {ob:Prop} {r:V} {J':ae} (h:bO fr J (.Ge kd m' k')=some (ob,r,J')) (cX:ob):oX P o a B w0 w J μ r J':=by
 have h1:=cK hF hm;have h2:=cK hF hk;simp only[bO]at h;split at h
 ·rename_i id hp;rw[hp]at h1;obtain⟨rr,hv,kB,_⟩:=h1.qb;split at h
  ·rename_i K' E' es hb;obtain⟨r',ents,clock,hm',hB,hh,hR⟩:=hS.obj id _ hb;rw[kB]at hm';simp only[Value.map.injEq,aa]at hm';subst hm';have dp:id<J.length:=(ab.1 hb).1;have qZ:rr<w.heap.size:=(aX.1 hh).1;have hg:(getObj rr).run P w=.ok (.map ents clock) w:=by simp[getObj,Sem.run,hh]
   have mG:∀ ob2,(setObj rr ob2).run P w=.ok () { w with heap:=w.heap.setIfInBounds rr ob2 }:=fun ob2=>by simp[setObj,Sem.run,hh]
   split at h
   ·rename_i hf;simp only[aa,an]at h;obtain⟨rfl,rfl,rfl⟩:=h;have tj:=run_checkKey (P:=P) (w:=w) oL ents.isEmpty 9998 h2 cX
    have yf:=jh oL h2 es ents.toList none (by rw[a6];exact hR.1) (fun i a x hi=>by
     obtain⟨_,_,e,h3,h4,h5⟩:=hR.2.1 i a x hi;exact⟨e,by simpa using h3,h4,h5⟩) hf
    have hfn':(Instr.findKey K (a.eval k) ents.toList).run P w=.ok none w:=by
     rcases yf with⟨_,h⟩ | ⟨i,x,e,a2,h,_⟩
     ·exact h
     ·simp at h
    have oe:=hS.fL hb kB hh E' es ents clock hR (au _) (fun _=>⟨au _,fun _=>⟨rfl,fun i e' h=>⟨e',h,rfl⟩⟩,fun i e h=>⟨e,h,rfl⟩⟩);have Nj:J.set id (.map K' E' es)=J:=by obtain⟨hq,e⟩:=ab.1 hb;rw[← e];exact ox hq
    rw[Nj]at oe;refine⟨.tuple #[],_,μ,.inl ?_,oe.1,.fu _ _ rfl (by simp),oe.2⟩;simp[execOp,ho,resolve,invoke,builtin,hv,Builtin.delete_,run_underlying hT,hg,tj,hfn',mG]
   ·rename_i i0 x0 hf;simp only[aa,an]at h;obtain⟨rfl,rfl,rfl⟩:=h;have tj:=run_checkKey (P:=P) (w:=w) oL ents.isEmpty 9998 h2 cX
    have yf:=jh oL h2 es ents.toList _ (by rw[a6];exact hR.1) (fun i a x hi=>by
     obtain⟨_,_,e,h3,h4,h5⟩:=hR.2.1 i a x hi;exact⟨e,by simpa using h3,h4,h5⟩) hf
    rcases yf with⟨h4,_⟩ | ⟨i,y,e,a2,h4,h5,h6,h7,h8⟩
    ·simp at h4
    ·simp only[aa,an]at h4;obtain⟨rfl,rfl⟩:=h4;have rz:i0<es.length:=(ab.1 h5).1;have NG:i0<ents.size:=by rw[hR.1];exact rz
     have eH:∀ i,(ents.eraseIdxIfInBounds i0)[i]?=ents[if i<i0 then i else i+1]?:=by
      intro i;rw[← Array.getElem?_toList,← Array.getElem?_toList]
      have:(ents.eraseIdxIfInBounds i0).toList=ents.toList.eraseIdx i0:=by
       unfold Array.eraseIdxIfInBounds;rw[dif_pos NG];simp
      rw[this,ac5];split<;>rfl
     have LD:sc w J μ (es.eraseIdx i0) (ents.eraseIdxIfInBounds i0) clock:=by
      refine⟨?_,fun i k x hi=>?_,fun i e he=>?_,fun i j e e' he he' NO=>?_⟩
      ·have:(ents.eraseIdxIfInBounds i0).size=ents.size - 1:=by
        unfold Array.eraseIdxIfInBounds;rw[dif_pos NG];simp
       rw[this,List.length_eraseIdx,aI rz,hR.1]
      ·rw[ac5]at hi;rw[eH];split at hi<;>rename_i hc<;>simp only[hc,aO,aJ]<;>exact hR.2.1 _ k x hi
      ·rw[eH]at he;exact hR.2.2.1 _ e he
      ·rw[eH]at he he';have:=hR.2.2.2 _ _ e e' he he' NO;split at this<;>split at this<;>omega
     have oe:=hS.fL hb kB hh (E'+1) (es.eraseIdx i0) (ents.eraseIdxIfInBounds i0) clock LD (by omega) (fun h=>by omega);refine⟨.tuple #[],_,μ,.inl ?_,oe.1,.fu _ _ rfl (by simp),oe.2⟩;simp[execOp,ho,resolve,invoke,builtin,hv,Builtin.delete_,run_underlying hT,hg,tj,h8,mG]
   ·simp at h
  ·simp at h
 ·simp at h
theorem RA{T K E:TypeId}{x:Operand}{x':O}(ho:o.op=.range T x)(hT:P.underlying T=some (.map K E))(hx:cO x=some x')
  {ob:Prop} {r:V} {J':ae} (h:bO fr J (.range x')=some (ob,r,J')):oX P o a B w0 w J μ r J':=by
 have h1:=cK hF hx;simp only[bO]at h;split at h
 ·rename_i id hp;rw[hp]at h1;obtain⟨rr,hv,kB,_⟩:=h1.qb;split at h
  ·rename_i K' E' es hb;simp only[aa,an]at h;obtain⟨rfl,rfl,rfl⟩:=h;obtain⟨r',ents,clock,hm',hB,hh,hR⟩:=hS.obj id _ hb;rw[kB]at hm';simp only[Value.map.injEq,aa]at hm';subst hm';have dp:id<J.length:=(ab.1 hb).1;have qZ:rr<w.heap.size:=(aX.1 hh).1
   have A7:(w.alloc (.mapIter (some rr) clock #[] clock)).heap[rr]?=some (.map ents clock):=by
    rw[(World.grownBy_alloc w (.mapIter (some rr) clock #[] clock) none).block rr qZ (by simp)];exact hh
   have hn:=hS.ph (w':=w.alloc (.mapIter (some rr) clock #[] clock)) (.iter false id E' es.length (List.range es.length) none) (.pointer (some ⟨w.heap.size,0,none⟩)) (World.grownBy_alloc w _ none) (by simp[ir])
    (fun hp=>⟨w.heap.size,rr,clock,#[],rfl,hS.base,heap_alloc_new w _,by rw[mf _ _ _ _ (by omega)];exact kB,fun p hp=>by simpa using hp,K',E',es,ents,clock,by rw[ai dp];exact hb,A7,au _,
     fun _=>⟨au _,fun _=>⟨rfl,fun i e hi=>by
      have:=(aX.1 hi).1;rw[hR.1]at this;simp[this],fun c hc=>by simp at hc⟩⟩⟩)
   refine⟨_,_,_,.inl ?_,hn.1,.it _ _ ⟨_,_,_,_,_,_,by simp;exact⟨rfl,rfl,rfl,rfl,rfl,rfl⟩⟩ (dV _ _ _),hn.2⟩;simp[execOp,ho,hv,run_range_map (P:=P) w T K E rr ents clock hT hh]
  ·simp at h
 ·simp at h
omit hS in
theorem VJ(hS:fF P B w0 w J μ){x:Operand}{x':O}(ho:o.op=.entry x)(hx:cO x=some x'){ob:Prop}{y:V}(h:aQ fr J (.KN x')=some (ob,y)):Yields P o a w J μ y:=by
 have h1:=cK hF hx;simp only[aQ]at h;split at h
 ·rename_i j hp;rw[hp]at h1;split at h
  ·rename_i m E n ps c hj;split at h
   ·rename_i K E' es hb;split at h
    ·rename_i hc;obtain⟨rfl,rfl⟩:=hc;split at h
     ·rename_i k y0 hce;simp only[aa,an]at h;obtain⟨_,rfl⟩:=h;obtain⟨r,bm,since,seen,q1,_,q3,q4,_,K3,E3,es3,ents,clock,q5,q6,q7,q8⟩:=hS.obj _ _ hj;rw[hb]at q5;simp only[aa,Ob.map.injEq]at q5;obtain⟨rfl,rfl,rfl⟩:=q5;obtain⟨q9,q10,q11⟩:=(q8 rfl).2 rfl;subst q9;obtain⟨e,he,hbk⟩:=q11 c rfl;obtain⟨r',ents',clock',hm',_,hh,hR⟩:=hS.obj _ _ hb;rw[q4]at hm';simp only[Value.map.injEq,aa]at hm';subst hm';rw[q6]at hh;simp only[aa,Obj.map.injEq]at hh;obtain⟨rfl,rfl⟩:=hh;obtain⟨_,_,e2,O9,hk,hv⟩:=hR.2.1 c k y0 hce;rw[he]at O9;simp only[aa]at O9;subst O9;have mS:c<ents.size:=(aX.1 he).1;have hec:ents[c]=e:=(aX.1 he).2
      have Yl:ents.find? (fun x=>x.born==e.born)=some e:=by
       rw[Array.find?_eq_some_iff_getElem];refine⟨by simp,c,mS,hec,fun i hi=>?_⟩;have NG:i<ents.size:=by omega
       simp only[cS,cT,eX];intro GJ;have:=hR.2.2.2 i c ents[i] e (bc NG) he GJ;omega
      have QI:a.eval x=.pointer (some ⟨r,0,none⟩):=h1.Gp.1.trans q1;refine .pure (v:=.tuple #[e.key,e.val]) ?_ (.fu _ _ rfl fun i z hz=>?_)
      ·simp[execOp,ho,QI,Instr.entry,getObj,Sem.run,q3,q6,hbk,Yl]
      ·match i with
       | 0=>simp only[aq,aa]at hz;subst hz;exact hk
       | 1=>simp only[bF,aq,aa]at hz;subst hz;exact hv
       | i+2=>simp at hz
     ·simp at h
    ·simp at h
   ·simp at h
  ·simp at h
 ·simp at h
theorem YL{T E:TypeId}{t:TypeInfo}{z:Value}{x:Operand}{x':O}{zs0:List V}{szs:List (Option Nat)}(ho:o.op=.call { callee:=.builtin .clear,args:=#[x],argTypes:=#[T] })(hT:P.underlying T=some (.slice E))(ht:P.info? E=some t)(hz:t.zero=some z)
  (fE:0<t.size) (lR:z.cells.size=t.size) (QC:gL z.cells.toList=some zs0) (hx:cO x=some x')
  {ob:Prop} {r:V} {J':ae} (h:bO fr J (.ET t.size (cx szs zs0) x')=some (ob,r,J')) (cX:ob):oX P o a B w0 w J μ r J':=by
 have h1:=cK hF hx;have NP:CR w J μ (cx szs zs0) z.cells:=(jY QC).cx szs;generalize cx szs zs0=zs at h NP;have Vl:zs.length=t.size:=by rw[NP.1];exact lR
 simp only[bO]at h;split at h
 ·rename_i id g lo hi hp;split at h
  ·rename_i E' sz by' g' sh xs hb;split at h
   ·rename_i hg;obtain⟨rfl,rfl,rfl⟩:=hg;simp only[aa,an]at h;obtain⟨rfl,rfl,rfl⟩:=h;rw[hp]at h1;obtain⟨hlh,Iv,hv⟩:=h1.oI hb;have dp:id<J.length:=(ab.1 hb).1;obtain⟨Ix,vals,⟨QH,hw⟩,ck,Nl⟩:=hS.obj id _ hb;have XO:VR w (J.set id (.row E' t.size by' g false (xs.take lo++List.replicate (hi - lo) zs++xs.drop hi))) μ (.fu []) (.tuple #[]):=.fu _ _ rfl (by simp)
    by_cases h0:lo=hi
    ·subst h0
     have e1:J.set id (.row E' t.size by' g false (xs.take lo++List.replicate (lo - lo) zs++xs.drop lo))=J:=by
      simp only[eT,List.replicate_zero,bV,gm];obtain⟨hq,e⟩:=ab.1 hb;rw[← e];exact ox hq
     have cQ:(execOp a.eval o).run P w=.ok (.value (.tuple #[])) w:=by
      have QG:∃ ad cap,a.eval x=.slice ad 0 cap:=by
       rw[hv];rcases hw with⟨hm,_⟩ | ⟨b,cap,cur,hm,_⟩
       ·rw[hm];exact⟨_,_,by simp only[kK,eT];rfl⟩
       ·rw[hm];exact⟨_,_,by simp only[kK,eT];rfl⟩
      obtain⟨ad,cap,QG⟩:=QG;cases ad<;>simp[execOp,ho,resolve,invoke,builtin,QG,Builtin.clear_,run_underlying hT]
     rw[e1]at XO ⊢;exact⟨_,w,μ,.inl cQ,hS,XO,kW.refl _ _ _⟩
    ·rcases hw with⟨_,hn⟩ | ⟨b,cap,cur,hm,hB,hh,Gz,CZ,mS,ya⟩
     ·omega
     ·have ig:¬ cap=lo:=by omega
      have Vo:a.eval x=.slice (some ⟨b,lo*t.size,none⟩) (hi - lo) (cap - lo):=by rw[hv,hm];simp[kK,ig,Addr.add_lit]
      obtain⟨m,Vt⟩:∃ m,hi - lo=m+1:=⟨hi - lo - 1,by omega⟩;generalize bz:(Builtin.zeroCells z.cells (hi - lo)).toList=cl;have Kv:cl.length=(hi - lo)*t.size:=by rw[← bz];simp[Builtin.zeroCells,lR]
      have Yr:∀ q,q<(hi - lo)*t.size→cl[q]?=some (z.cells.getD (q % t.size) undef):=by
       intro q hq;rw[← bz];have Ny:q % t.size<z.cells.size:=by rw[lR];exact si _ fE
       simp only[Builtin.zeroCells,lL,Array.toList_range,bf,lR,gS hq,bY];rw[tl _ _ Ny]
      have hmul:lo*t.size+(hi - lo)*t.size=hi*t.size:=by rw[← Nat.add_mul];congr 1;omega
      have aft:hi*t.size≤xs.length*t.size:=bJ _ Iv;have aa6:xs.length*t.size≤cap*t.size:=bJ _ Gz
      have Nu:∀ v∈cl,v.oneCell'=true:=by
       intro v hv3;obtain⟨q,hq⟩:=eZ.1 hv3;have A0:q<(hi - lo)*t.size:=by rw[← Kv];exact(ab.1 hq).1
       rw[Yr q A0]at hq;simp only[aa]at hq;subst hq;have hj:q % t.size<zs.length:=by rw[Vl];exact si _ fE
       have:=NP.2 (q % t.size) zs[q % t.size] (al hj);exact(mK hS this (mY (cX _ (cF hj)))).1
      have rT:=run_storeCells_at P b (lo*t.size) E' cl 0 cur w hh (by rw[Kv,mS];omega) Nu;generalize jg:(cur.toList.take (lo*t.size+0)++cl++cur.toList.drop (lo*t.size+0+cl.length)).toArray=arr at rT
      have cQ:(execOp a.eval o).run P w=.ok (.value (.tuple #[])) (w.setRow b arr):=by
       rw[Vt]at bz Vo;simp[execOp,ho,resolve,invoke,builtin,Vo,Builtin.clear_,run_underlying hT,zeroValue,typeInfo,ht,hz,bz,rT]
      have rW:∀ j,arr.toList[j]?=if lo*t.size≤j∧j<hi*t.size then cl[j - lo*t.size]? else cur.toList[j]?:=by
       intro j;rw[← jg];have:=oD cur.toList cl (lo*t.size) j (by rw[Kv,a6,mS];omega);rw[Kv,hmul]at this;simpa[Kv,hmul]using this
      have yj:arr.size=cur.size:=by
       rw[← jg];simp only[fQ,ak,bT,cy,a6,Kv,mS,dm];omega
      have qd:(xs.take lo++List.replicate (hi - lo) zs++xs.drop hi).length=xs.length:=by simp;omega
      have oe:=hS.update (w':=w.setRow b arr) (J':=J.set id (.row E' t.size by' g false (xs.take lo++List.replicate (hi - lo) zs++xs.drop hi))) (μ':=μ) id (some b)
       ⟨rfl,rfl,rfl,by simp,fun k _ hk=>setRow_other w b k _ (fun e=>hk (by simp[e]))⟩
       (fun b2 jA=>⟨_,hb,by simp,by simp only[aa]at jA;subst jA;simp[hm,ir]⟩)
       (by simp) (fun j hj=>aK (fun e=>hj e.symm)) (fun _ _=>rfl)
       (fun b2 jA=>.inl ⟨_,hb,by simp,jA⟩)
       (fun b2 off2 v2 o2 h3 _ h4 _ h5=>absurd ⟨id,o2,h3,h4,by rw[hb]at h3;simp only[aa]at h3;subst h3;intro hf;simp at hf⟩ h5)
       (fun T2 cs2 h3=>by rw[hb]at h3;simp at h3)
       (fun K E es h3=>by rw[hb]at h3;simp at h3)
       (fun E2 sz2 by2 g2 sh2 xs2 _ h3=>by
        simp only[ao dp,aa,Ob.row.injEq]at h3;obtain⟨rfl,rfl,rfl,rfl,rfl,rfl⟩:=h3;exact⟨g,false,xs,hb,au _,fun _=>⟨qd.symm,rfl⟩⟩)
       (fun yc o2 h3=>by
        simp only[ao dp,aa]at h3;subst h3;refine⟨Ix,arr.toList.take (xs.length*t.size),⟨?_,.inr ⟨b,cap,arr,by rw[qd];exact hm,hB,setRow_heap w b cur arr E' (0,0) hh,by rw[qd];exact Gz,CZ,by rw[yj,mS],by rw[qd]⟩⟩,?_,?_⟩
        ·rw[qd];simp only[bT,a6,yj,mS];omega
        ·intro r hr';simp only[bP,List.mem_replicate]at hr';rcases hr' with(h5 | ⟨_,rfl⟩) | h5
         ·exact ck r (dT h5)
         ·exact Vl
         ·exact ck r (pz h5)
        ·intro i2 j2 y hy;obtain⟨r,h5,h6⟩:=ib hy;have GG:i2<xs.length:=by have:=(ab.1 h5).1;rw[qd]at this;exact this
         have AZ:=oD xs (List.replicate (hi - lo) zs) lo i2 (by rw[Ag];omega);rw[Ag,show lo+(hi - lo)=hi by omega]at AZ;rw[AZ]at h5
         have qZ:r.length=t.size:=by
          by_cases hc:lo≤i2∧i2<hi
          ·rw[aI hc,wj,aI (by omega)]at h5;simp only[aa]at h5;rw[← h5];exact Vl
          ·rw[aw hc]at h5;exact ck r (aV h5)
         have Vu:j2<t.size:=by rw[← qZ];exact(ab.1 h6).1
         have vW:i2*t.size+j2<xs.length*t.size:=by
          have:(i2+1)*t.size≤xs.length*t.size:=bJ _ GG;rw[cB,gE]at this;omega
         by_cases hc:lo≤i2∧i2<hi
         ·rw[aI hc,wj,aI (by omega)]at h5;simp only[aa]at h5;subst h5;have Ly:lo*t.size≤i2*t.size:=bJ _ hc.1;have yd:(i2+1)*t.size≤hi*t.size:=bJ _ hc.2;rw[cB,gE]at yd;refine⟨cX y (aV h6),z.cells.getD j2 undef,?_,(NP.2 j2 y h6).mono yc⟩;rw[bj vW,rW,aI (by omega),Yr _ (by omega)]
          have e2:i2*t.size+j2 - lo*t.size=j2+t.size*(i2 - lo):=by
           rw[fm t.size,Nat.sub_mul];omega
          rw[e2,Nat.add_mul_mod_self_left,wh Vu]
         ·rw[aw hc]at h5;have eH:fw xs i2 j2=some y:=by rw[nK h5];exact h6
          obtain⟨X0,u,h7,h8⟩:=Nl i2 j2 y eH;refine⟨X0,u,?_,h8.mono yc⟩;rw[bj vW,rW,aw ?_]
          ·rw[← ya,bj vW]at h7;exact h7
          ·rintro⟨h9,C0⟩;rcases fp i2 lo with vZ | vZ
           ·have:(i2+1)*t.size≤lo*t.size:=bJ _ vZ;rw[cB,gE]at this;omega
           ·have:hi*t.size≤i2*t.size:=bJ _ (by omega);omega)
      exact⟨_,_,μ,.inl cQ,oe.1,.fu _ _ rfl (by simp),oe.2⟩
   ·simp at h
  ·simp at h
 ·simp at h
end D7
end Go.Pm

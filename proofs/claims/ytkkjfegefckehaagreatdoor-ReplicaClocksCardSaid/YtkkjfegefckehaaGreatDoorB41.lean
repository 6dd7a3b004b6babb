/- A part of the proof of the statement of the last text of this claim; its conditions stand there. -/
import Derived.StillTailTactics
import Derived.LoopN
import Derived.Test.YtkkjfegefckehaaGreatDoorB34
import Derived.Test.YtkkjfegefckehaaGreatDoorB40
set_option linter.all false

namespace Go.Proofs.Tryz
open Go Go.Pm Go.Bt Go.RowKit Go.Sort
theorem T7(a b:Int):Lib.compareInt a b=eV a b:=by
 simp only[Lib.compareInt,eV]
set_option maxHeartbeats 1000000 in
theorem PF(x y:Int)(b T:Nat)(W:World)(hb:W.heap[b]?=some (.cells #[.int .i64 x,.int .i64 y] T (0,0))):
  Calls prog 101 #[.slice (some ⟨b,0,none⟩) 2 2] W fun e w'=>e=.returned (.int .i64 (rz [x,y]))∧w'=W:=by
 have c0:W.cell? ⟨b,0,none⟩=some (.int .i64 x):=by simp[World.cell?,hb]
 have c1:W.cell? ⟨b,1,none⟩=some (.int .i64 y):=by simp[World.cell?,hb]
 go_enter func101,Tryz.ntmps101
 go_wp2
 refine wp_loop_rounds 3 ?_;rw[rounds_succ]
 go_wp2
 ·rename_i hx
  go_ret
  exact⟨by simp[rz,show x≠0 by simpa using hx],rfl⟩
 ·rename_i hx;rw[rounds_succ]
  go_wp2
  ·rename_i hy
   go_ret
   exact⟨by simp[rz,show x=0 by simpa using hx,show y≠0 by simpa using hy],rfl⟩
  ·rename_i hy;rw[rounds_succ]
   go_wp2
   go_ret
   exact⟨by simp[rz,show x=0 by simpa using hx,show y=0 by simpa using hy],rfl⟩
theorem LC{W w:World}{A B:Obj}(h:w.heap=(W.heap.push A).push B):w.heap[W.heap.size]?=some A∧w.heap[W.heap.size+1]?=some B:=by
 have e:W.heap.size+1=(W.heap.push A).size:=by simp
 rw[h];refine⟨?_,by rw[e];exact AS⟩;rw[akZ (by simp),Array.getElem_push_eq]
set_option maxRecDepth 4000 in
set_option maxHeartbeats 4000000 in
theorem Mf(xs ys:List Value)(hx:xs.length=13)(hy:ys.length=13)(a b c d:Int)(h1:xs[1]?=some (.int .i64 a))(h2:xs[2]?=some (.int .i64 b))(h3:ys[1]?=some (.int .i64 c))(h4:ys[2]?=some (.int .i64 d))(W:World):
  Calls prog 57 #[.agg xs.toArray,.agg ys.toArray] W fun e w'=>e=.returned (.int .i64 (rz [eV a c,eV b d]))∧∃ q os',w'=grow (W.drewN q) os':=by
 match xs,hx with
 | [x0,x1,x2,x3,x4,x5,x6,x7,x8,x9,x10,x11,x12],_ =>
 match ys,hy with
 | [y0,y1,y2,y3,y4,y5,y6,y7,y8,y9,y10,y11,y12],_ =>
 simp only[ao,bQ,aa]at h1 h2 h3 h4;subst h1 h2 h3 h4
 have WJ:∀ (x y:Int) (W':World),Calls prog 102 #[.int .i64 x,.int .i64 y] W' fun e w'=>e=.returned (.int .i64 (eV x y))∧w'=W':=fun x y W'=>by
  have:=AnyG.cmp_Compare_int Tryz.aaL x y W';rw[T7]at this;exact this
 go_enter func57,Tryz.ntmps57
 go_wp2
 generalize FZ:(W.alloc (.cells #[x0,.int .i64 a,.int .i64 b,x3,x4,x5,x6,x7,x8,x9,x10,x11,x12] 29)).alloc (.cells #[y0,.int .i64 c,.int .i64 d,y3,y4,y5,y6,y7,y8,y9,y10,y11,y12] 29)=w2;refine wp_region_still_tail 14 (by kernel_rfl) (by kernel_rfl) ?_;have hw:w2.drew.heap=(W.heap.push (.cells #[x0,.int .i64 a,.int .i64 b,x3,x4,x5,x6,x7,x8,x9,x10,x11,x12] 29)).push (.cells #[y0,.int .i64 c,.int .i64 d,y3,y4,y5,y6,y7,y8,y9,y10,y11,y12] 29):=by rw[← FZ];rfl
 obtain⟨Tw,rl⟩:=LC hw;have k1:w2.drew.cell? ⟨W.heap.size,1,none⟩=some (.int .i64 a):=by simp[World.cell?,Tw,rl]
 have k2:w2.drew.cell? ⟨W.heap.size,2,none⟩=some (.int .i64 b):=by simp[World.cell?,Tw,rl]
 have k3:w2.drew.cell? ⟨W.heap.size+1,1,none⟩=some (.int .i64 c):=by simp[World.cell?,Tw,rl]
 have k4:w2.drew.cell? ⟨W.heap.size+1,2,none⟩=some (.int .i64 d):=by simp[World.cell?,Tw,rl]
 have k5:∃ q os',w2.drew=grow (W.drewN q) os':=⟨1,_,by rw[← FZ,alloc_eq_grow,alloc_eq_grow,grow_grow];rfl⟩;simp only[cC,fJ,gN,mg];change wpStill _ _ w2.drew (fun a'=>wpList _ _ _ _ a' w2.drew) _ _;have gO:w2.drew.heap.size=W.heap.size+2:=by simp[hw]
 generalize w2.drew=w3 at *;clear Tw rl hw FZ w2
 still_step
 still_step
 still_step
 still_step
 still_step
 still_step
 refine wpStill_step (fun K hK=>?_)
 go_simp
 refine⟨_,WJ a c w3,hK _ ?_⟩;clear hK K
 still_step
 still_step
 still_step
 still_step
 still_step
 still_step
 refine wpStill_step (fun K hK=>?_)
 go_simp
 refine⟨_,WJ b d w3,hK _ ?_⟩;clear hK K;refine wpStill_nil ?_
 go_wp2_with (go_at_call 101;refine(PF (eV a c) (eV b d) (W.heap.size+2) 3 _ (by rw[← gO];exact AS)).mono ?_;rintro e w' ⟨rfl,rfl⟩)
 go_ret
 obtain⟨q,os,rfl⟩:=k5;exact⟨rfl,q,_,by rw[alloc_eq_grow,grow_grow]⟩
theorem Cw{α:Type}[Inhabited α]{enc:α→List Value}{k n gb E:Nat}{w:World}{cur:Array Value}{dk:Array α}{os:Array Obj}(hg:w.heap[gb]?=some (.cells cur E (0,0))):
  (sortWorldK enc k w gb 0 n dk os).heap[gb]?=some (.cells (putCells id 0 (flatK enc k dk) cur) E (0,0)):=by
 have fk:=(cg.1 hg).1
 have e:(putRowK enc k (Sort.ahead w n) gb 0 dk).heap[gb]?=some (.cells (putCells id 0 (flatK enc k dk) cur) E (0,0)):=by
  simp only[putRowK,putRow,mapBlock,Sort.ahead,fU,if_true,hg,cU];rfl
 simp only[sortWorldK,grow];rw[ot (by have:=(cg.1 e).1;exact this)];exact e
theorem BG{α:Type}[Inhabited α]{enc:α→List Value}{k n gb:Nat}{w:World}{dk:Array α}{os:Array Obj}:
  w.grownBy (sortWorldK enc k w gb 0 n dk os) (some gb):=by
 have hs:(putRowK enc k (Sort.ahead w n) gb 0 dk).heap.size=w.heap.size:=by rw[putRowK,size_putRow];rfl
 refine⟨rfl,rfl,rfl,?_,fun j hj iQ=>?_⟩
 ·simp only[sortWorldK,grow,lJ,hs];omega
 ·have tK:¬ gb=j:=fun e=>iQ (by rw[e]);simp only[sortWorldK,grow];rw[ot (by rw[hs];exact hj)];simp only[putRowK,putRow,mapBlock,Sort.ahead,fU,if_neg tK]
theorem O2{l:List aJ}(hd:l.Pairwise fun a b=>da a b≠0){d:List (Fin l.length)}(hp:d.Perm (List.finRange l.length))(hs:d.Pairwise fun i j=>¬ da l[j] l[i]<0):d.map (fun i=>l[i])=dz l:=by
 have KI:d.Nodup:=hp.nodup_iff.2 (List.nodup_finRange _);refine Fz ?_ (nS hd) fun x=>?_
 ·refine Q1.2 ?_;refine(hs.and KI).imp fun {i j} ⟨h1,h2⟩=>?_
  have h3:da l[i] l[j]≠0:=by
   rcases Nat.lt_or_gt_of_ne (fun e=>h2 (Fin.ext e))with h | h
   ·exact gE.1 hd i j i.2 j.2 h
   ·exact fun e=>gE.1 hd j i j.2 i.2 h (Mg e)
  rw[kD]at h1 ⊢;rw[ne_eq,ja]at h3;omega
 ·rw[bK,dA];constructor
  ·rintro⟨i,_,rfl⟩;exact cK _
  ·intro hx;obtain⟨i,hi,rfl⟩:=List.getElem_of_mem hx;exact⟨⟨i,hi⟩,hp.mem_iff.2 (List.mem_finRange _),rfl⟩
theorem PE(l:List aJ):SWO (ltOf fun(i j:Fin l.length)=>da l[i] l[j]):=by
 refine⟨fun x=>?_,fun x y z h1 h2=>?_,fun x y z h1 h2=>?_⟩
 ·simp only[ltOf,decide_eq_false_iff_not,kD];omega
 ·simp only[ltOf,decide_eq_true_eq,kD]at *;omega
 ·simp only[ltOf,decide_eq_false_iff_not,kD]at *;omega
set_option maxHeartbeats 1000000 in
theorem RD(l:List aJ)(id g:Nat)(hd:l.Pairwise fun a b=>da a b≠0)(hl:l.length<2^30)(σ:ag)(h1:σ[id]?=some (.row 29 13 184 g false (l.map aJ.cells))):
  PC prog 56 [.own id g,.fn 57 []] σ (fun r σ'=>r=.iK []∧σ'=σ.set id (.row 29 13 184 g false ((dz l).map aJ.cells))):=by
 have IN:=nU l;refine PC.YU h1 (by simp[IN]) fun B w0 w μ vs hS hv=>?_;have a0:=(hv.2 0 _ rfl).lX h1;have a1:=hv.2 1 _ rfl;obtain⟨_,vals,gD,cP⟩:=hS.obj id _ h1;have Tk:(l.map aJ.cells).length=l.length:=List.length_map ..
 have e:vs=#[μ id,.func (.func 57) #[] #[]]:=by
  obtain⟨q⟩:=vs
  match q,hv.1 with
  | [u,v],_ =>
   simp at a0 a1;cases a1 with
   | fn _ _ fs hlf _ =>
    obtain rfl:fs=#[]:=by apply UA;simpa using hlf.symm
    rw[a0]
 rw[e];rw[Tk]at gD;have Wo:vals.length=l.length*13:=gD.1;have o1:=mq.one hS cP (by rw[Tk];exact Wo)
 by_cases h0:l.length=0
 ·have Tj:l=[]:=bL h0;have ZH:vals=[]:=bL (by omega)
  have hm:∃ p cap,μ id=.slice p 0 cap:=by
   rcases gD.2 with⟨h,_⟩ | ⟨gb,cap,cur,h,_⟩
   ·exact⟨_,_,h⟩
   ·rw[h0]at h;exact⟨_,_,h⟩
  obtain⟨p,cap,hm⟩:=hm;rw[hm];refine(AnyF.slices_SortFunc_none Tryz.RB p cap _ w).mono ?_;rintro e w' ⟨rfl,rfl⟩;refine⟨[],rfl,grownBy_refl _ _,?_,?_⟩
  ·rw[ZH]at gD;rw[List.length_map,IN,← hm];exact gD
  ·have:dz l=[]:=by rw[Tj];rfl
   rw[this,ZH]at *;exact⟨by simp,fun i j x hx=>by simp[fe]at hx⟩
 have Qi:0<l.length:=Nat.pos_of_ne_zero h0;rcases gD.2 with⟨_,hn⟩ | ⟨gb,cap,cur,zi,hB,hg,UF,Il,qV,OD⟩
 ·omega
 haveI:Inhabited (Fin l.length):=⟨⟨0,Qi⟩⟩
 have WH:∀ i:Fin l.length,((vals.drop (i*13)).take 13).length=13:=fun i=>by
  rw[aR,bH,Wo];have:=i.2;omega
 have dY:∀ (i:Fin l.length) (j:Nat),j<13→((vals.drop (i*13)).take 13)[j]?=vals[i*13+j]?:=fun i j hj=>by
  rw[bz hj,dV]
 have jy:∀ (i:Fin l.length) (j:Nat) (x:V),(l[i]).cells[j]?=some x→x.pure=true∧∃ u,((vals.drop (i*13)).take 13)[j]?=some u∧VR w σ μ x u:=fun i j x hx=>by
  have hj:j<13:=by
   have:=(ae.1 hx).1
   rwa [jT]at this
  have h2:fe (l.map aJ.cells) i j=some x:=by
   simp only[fe,aZ,aw i.2,cU,jG];exact hx
  obtain⟨q1,u,q2,q3⟩:=cP.2 _ _ _ h2;exact⟨q1,u,by rw[dY i j hj];exact q2,q3⟩
 have hint:∀ i:Fin l.length,((vals.drop (i*13)).take 13)[1]?=some (.int .i64 (l[i]).aA.aS)∧((vals.drop (i*13)).take 13)[2]?=some (.int .i64 (l[i]).aA.number):=fun i=>by
  obtain⟨_,u,q2,q3⟩:=jy i 1 (.i .i64 (l[i]).aA.aS) rfl;obtain⟨_,u2,q4,q5⟩:=jy i 2 (.i .i64 (l[i]).aA.number) rfl;rw[q3.iP]at q2;rw[q5.iP]at q4;exact⟨q2,q4⟩
 generalize ae2:(fun i:Fin l.length=>(vals.drop (i*13)).take 13)=enc;have hen:∀ i,enc i=(vals.drop (i*13)).take 13:=fun i=>by rw[← ae2]
 have X9:(List.finRange l.length).toArray.size=l.length:=by simp
 have hdg:∀ j (h:j<l.length),(List.finRange l.length).toArray[j]! = ⟨j,h⟩:=fun j h=>by
  rw[getElem!_pos _ j (by rw[X9];exact h)];simp
 have X6:∀ (d:Array (Fin l.length)) (t:Nat),d.size=l.length→t<l.length*13→(flatK enc 13 d)[t]?=vals[(d[t / 13]!).1*13+t % 13]?:=fun d t hd ht=>by
  have h1:t<(flatK enc 13 d).size:=by rw[size_flatK,hd];exact ht
  have h2:=get_flatK enc 13 d t (by rw[hd];exact ht);have hm:t % 13<13:=Nn _ (by decide);rw[getElem!_pos _ t h1]at h2;rw[Array.getElem?_eq_getElem h1,h2,hen,← dY _ _ hm];rw[getElem!_pos _ (t % 13) (by rw[WH];exact hm),aw]
 have hH:HoldsK enc 13 w gb 0 (List.finRange l.length).toArray:=fun t ht=>by
  rw[size_flatK,X9]at ht;have h1:=X6 (List.finRange l.length).toArray t X9 ht;have hq:t / 13<l.length:=om (by omega);rw[hdg _ hq]at h1;have e2:t / 13*13+t % 13=t:=by omega
  simp only[e2]at h1;have h3:t<(flatK enc 13 (List.finRange l.length).toArray).size:=by rw[size_flatK,X9];exact ht
  have h4:cur.toList[t]?=vals[t]?:=by rw[← OD,bz ht]
  refine⟨?_,by simp[World.frozen?,hg]⟩;simp only[World.cell?,hg,aK,id_eq];rw[getElem!_pos _ t h3,← Array.getElem?_eq_getElem h3,h1,← h4];simp
 have hS2:=AnyQ.slices_SortFunc Tryz.RB 13 Tryz.isAgg29 Tryz.sizeOf29 enc (fun i=>by rw[hen];exact WH i) (fun i v hv=>o1 v (by rw[hen]at hv;exact gk (ct hv))) (fun i j=>da l[i] l[j]) (PE l) 57 #[] gb 0 cap (List.finRange l.length).toArray w
  (enters_of func57 (by kernel_rfl) rfl)
  (fun m os dk _ x y=>by
   rw[Array.append_empty,hen,hen];exact Mf _ _ (WH x) (WH y) _ _ _ _ (hint x).1 (hint x).2 (hint y).1 (hint y).2 _) hH (cg.1 hg).1 (by rw[X9];omega)
 rw[X9,← zi]at hS2;refine hS2.mono ?_;rintro e w' ⟨rfl,d',n,os,KG,aev,rfl⟩;have hd's:d'.size=l.length:=by have:=KG.1;rw[X9]at this;exact this
 have XY:d'.toList.map (fun i=>l[i])=dz l:=by
  refine O2 hd ?_ ?_
  ·have h1:=KG.2.2
   have e1:d'.extract 0 l.length=d':=by
    have:=Array.extract_size (xs:=d')
    rwa [hd's]at this
   have e2:(List.finRange l.length).toArray.extract 0 l.length=(List.finRange l.length).toArray:=by
    have:=Array.extract_size (xs:=(List.finRange l.length).toArray)
    rwa [X9]at this
   rw[e1,e2]at h1;simpa using h1
  ·refine gE.2 fun i j hi hj Lu=>?_;rw[aY]at hi hj;have:=aev i j (iF _) Lu (by rw[← hd's];exact hj);rw[getElem!_pos _ i hi,getElem!_pos _ j hj]at this;simp only[ltOf,decide_eq_false_iff_not]at this;simpa using this
 have hblk:lf (μ id)=some gb:=by rw[zi];rfl
 have u0:(flatK enc 13 d').size=l.length*13:=by rw[size_flatK,hd's]
 refine⟨(flatK enc 13 d').toList,rfl,by rw[hblk];exact BG,⟨by rw[List.length_map,IN,aY,u0],.inr ⟨gb,cap,putCells _root_.id 0 (flatK enc 13 d') cur,by rw[List.length_map,IN,zi],hB,Cw hg,by rw[List.length_map,IN];exact UF,Il,?_,?_⟩⟩,?_,?_⟩
 ·simp[putCells,qV]
 ·rw[List.length_map,IN];apply kg;intro t
  by_cases ht:t<l.length*13
  ·rw[bz ht];have h3:t<(flatK enc 13 d').size:=by rw[u0];exact ht
   have h4:t<cur.size:=by rw[qV];have:=cA 13 UF;omega
   simp only[putCells,sa,Array.getElem?_mapIdx,Array.getElem?_eq_getElem h4,cU,iF,true_and,aK,if_pos h3,QZ,id_eq];rw[getElem!_pos _ t h3,Array.getElem?_eq_getElem h3]
  ·rw[bR (by rw[aR];omega),bR (by rw[aY,u0];omega)]
 ·intro r hr;obtain⟨x,_,rfl⟩:=bK.1 hr;exact jT x
 ·intro i j x hx;obtain⟨r,hr,hj⟩:=kL hx;rw[aZ,← XY,aZ]at hr;simp only[ar]at hr;obtain⟨o,⟨q,hq,rfl⟩,rfl⟩:=hr;obtain⟨q1,u,q2,q3⟩:=jy q j x hj
  have aiH:j<13:=by
   have:=(ae.1 hj).1
   rwa [jT]at this
  have qB:i<l.length:=by
   have:=(ae.1 hq).1
   rwa [aY,hd's]at this
  refine⟨q1,u,?_,q3⟩;rw[sa,X6 d' (i*13+j) hd's (by omega),show(i*13+j) / 13=i by omega,show(i*13+j) % 13=j by omega,← dY _ j aiH]
  have OC:d'[i]! = q:=by
   rw[getElem!_pos _ i (by rw[hd's];exact qB)];rw[sa,Array.getElem?_eq_getElem (by rw[hd's];exact qB)]at hq;simpa using hq
  rw[OC];exact q2
end Go.Proofs.Tryz
namespace Go.Proofs.Tryz
open Go Go.Pm Go.Bt Go.RowKit
theorem Sd(n:List aJ)(o:aJ):n.map aJ.cells++[[.i .i64 o.aA.time,.i .i64 o.aA.aS,.i .i64 o.aA.number,.i .i64 o.kind,.sl 3 (o.entry.source.map It.cells),.sl 3 (o.entry.target.map It.cells),.s o.entry.bS,.s o.entry.next,.s o.entry.cQ,.s o.entry.cn,.i .i64 o.entry.created,.i .i64 o.entry.origin,.sl 1 (o.seen.map bj)]]=(n++[o]).map aJ.cells:=by
 simp[aJ.cells,bc.cells,En.cells]
def yS(n c:Int)(q:V)(log:List UInt8)(s:Int):Ob:=.box 36 [.i .i64 n,.i .i64 c,q,.sl 1 (al log),.i .i64 s,.b false]
theorem U5{n:Nat}{xs:List V}{σ:ag}{b1 b2:Ob}{nu c:Int}{log:List UInt8}{s:Int}:Wk prog n xs (σ++[b1,b2,yS nu c .nil log s]) xs (σ++[b1,b2,yS nu c (.own (σ.length+3) 0) log s,dR 0 false []]):=by
 have:=Wk.vd (P:=prog) (n:=n) (xs:=xs) (id:=σ.length+2) (j:=2) (T:=36) (cs:=[.i .i64 nu,.i .i64 c,.nil,.sl 1 (al log),.i .i64 s,.b false])
  (σ:=σ++[b1,b2,yS nu c .nil log s]) Rv (by simp[yS]) rfl
 simpa only[yS,dR,kb,List.append_assoc,List.length_append,ab,ah,aq,ak,dU,fb,aK,Nat.reduceAdd,az]using this
theorem U4{n g:Nat}{xs:List V}{σ:ag}{b1 b2:Ob}{nu c:Int}{log:List UInt8}{s:Int}{l:List aJ}(aQ:bP (σ++[b1,b2]))(hn:n≤σ.length)(hx:gM (σ.length+3) xs):
  Wk prog n xs (σ++[b1,b2,yS nu c (.own (σ.length+3) g) log s,dR g false l]) xs (σ++[b1,b2,yS nu c (.sl 13 (l.map aJ.cells)) log s]):=by
 have w1:=Wk.share (P:=prog) (n:=n) (xs:=xs) (σ:=σ++[b1,b2,yS nu c (.own (σ.length+3) g) log s,dR g false l]) (id:=σ.length+3) (E:=29) (sz:=13) (by':=184) (g:=g) (sh:=false) (rows:=l.map aJ.cells) (by simp[dR])
 have w2:=Wk.IH (P:=prog) (n:=n) (xs:=xs) (σ:=σ++[b1,b2,yS nu c (.own (σ.length+3) g) log s,.row 29 13 184 g true (l.map aJ.cells)]) (id:=σ.length+2) (idr:=σ.length+3) (T:=36) (j:=2) (g:=g) (E:=29) (sz:=13) (by':=184) (rows:=l.map aJ.cells)
  (cs:=[.i .i64 nu,.i .i64 c,.own (σ.length+3) g,.sl 1 (al log),.i .i64 s,.b false]) (by simp[yS]) rfl (by simp)
 simp only[kb,dU,fb]at w1 w2
 have hc:bP (σ++[b1,b2,yS nu c (.sl 13 (l.map aJ.cells)) log s]):=by
  have:=bU aQ (l:=[yS nu c (.sl 13 (l.map aJ.cells)) log s]) (by simp only[yS,bV,bD,false_imp_iff,implies_true,LW]);simpa using this
 have w3:=Wk.r3 (P:=prog) (n:=n) (xs:=xs) (σ:=σ++[b1,b2,yS nu c (.sl 13 (l.map aJ.cells)) log s]) (loc:=[.row 29 13 184 g true (l.map aJ.cells)]) (by simp;omega) hc (eX.1 (by simpa using hx));simp only[List.append_assoc,aq,ak]at w3;exact(w1.trans w2).trans w3
set_option maxRecDepth 4000 in
set_option maxHeartbeats 1000000 in
theorem Zu{σ:ag}{K:Exit→St→Prop}{b1 b2:Ob}(aQ:bP (σ++[b1,b2]))(nu:Int)(log:List UInt8)(s:Int)(arr:List aJ)(ha:∀ x∈arr,Ln x)(hl:arr.length≤1000):∀ (rest pre:List aJ) (g:Nat),arr=pre++rest →
  (∀ g,(∀ j0 j1 j3 j5 j6 j7 j8 j9 cT cS cX cR cN cM cL cW df dn dx dy dD dI dH dG dX ez eA eH eW fg fi ft fw fG fM fL fK fX gi gF gR gQ il ix iV iU iT iS iR jo jn jm jK jY kx ku kt kH lB l9 mD nr,K (.exit 0) ⟨[j0,j1,.ptr (σ.length+1) 0,j3,.ptr (σ.length+2) 0,j5,j6,j7,j8,j9,cT,cS,cX,cR,cN,cM,cL,cW,df,dn,dx,dy,dD,dI,dH,dG,dX,ez,eA,eH,eW,fg,fi,ft,fw,fG,fM,fL,fK,fX,gi,gF,gR,gQ,il,ix,iV,iU,iT,iS,iR,jo,jn,jm,jK,jY,kx,ku,kt,kH,lB,l9,mD,nr],σ++[b1,b2,yS nu (fh arr) (.own (σ.length+3) g) log s,dR g false arr]⟩)) →
  fO σ.length prog J2 K (rest.length+1) ⟨[.u,.u,.ptr (σ.length+1) 0,.u,.ptr (σ.length+2) 0,.u,.u,.u,.u,.u,.u,.u,.u,.u,.u,.u,.u,.u,.u,.u,.u,.u,.u,.u,.u,.u,.u,.u,.u,.u,.u,.sl 1 ((arr.map bX).map tc),.i .i64 arr.length,.i .i64 pre.length,.u,.u,.u,.u,.u,.u,.u,.u,.u,.u,.u,.u,.u,.u,.u,.u,.u,.u,.u,.u,.u,.u,.u,.u,.u,.u,.u,.u,.u,.u],σ++[b1,b2,yS nu (fh pre) (.own (σ.length+3) g) log s,dR g false pre]⟩:=by
 intro rest
 induction rest with
 | nil =>
  intro pre g he h1;have he:arr=pre:=by simpa using he
  subst he;refine ax fun R hR=>?_;simp only[J2,VV,seval];exact⟨fun h=>by simp at h,fun _=>h1 g ..⟩
 | cons x rest ih =>
  intro pre g he h1;have hlp:arr.length=pre.length+(rest.length+1):=by rw[he];simp
  have hx:=ha x (by rw[he];simp)
  have hw:IntKind.i64.wrap ((pre.length:Int)+1)=(((pre++[x]).length:Nat):Int):=by
   rw[aV (by omega)];simp
  have hd:decide ((pre.length:Int)<(arr.length:Int))=true:=by simp;omega
  have dY:fe ((arr.map bX).map tc) pre.length 0=some (.sl 1 (al (bX x))):=by
   rw[he,jM];exact lU
  have Ik:=sX hx.small hx.ok;refine ax fun R hR=>?_;simp only[J2,yS,dR,dY,hd,an,List.length_map,VV,seval];refine⟨⟨by omega,by omega⟩,?_⟩;have hmx:(if fh pre<x.aA.time then x.aA.time else fh pre)=fh (pre++[x]):=by rw[qY,yW]
  refine ai (J8 (bX x) (by have:=hx.enc;omega) _) rfl ?_;simp only[Ik,hmx,hw,List.length_map,maxLen,aJ.cells,bc.cells,En.cells,V.pure,VV,seval];refine⟨⟨by omega,by omega⟩,?_⟩;rw[Sd];refine hR _ (cH [b1,b2,yS nu (fh (pre++[x])) (.own (σ.length+3) (g+1)) log s,dR (g+1) false (pre++[x])] [_] ?_ ?_ ?_ (ih (pre++[x]) (g+1) (by rw[he];simp) h1))
  ·have:=bU aQ (l:=[yS nu (fh (pre++[x])) (.own (σ.length+3) (g+1)) log s,dR (g+1) false (pre++[x])]) (by
    simp only[yS,dR,bV,bD,false_imp_iff,implies_true,and_true,List.length_append,ab,ah,LW];omega)
   simpa using this
  ·repeat' constructor
  ·simp only[LW,ab,ah,aK];omega
set_option maxHeartbeats 1000000 in
theorem wU{n:Int}{arr:List aJ}{tl:List UInt8}(h:yd n arr)(hl:arr.length≤180)(ht:gA tl=0)(wH:(eD arr++tl).length<2^30)(σ:ag):
  PC prog 16 [.agg (oL n arr tl).cells] σ (fun r σ'=>r=dS (cp n arr arr.length) 0∧σ'=σ):=by
 refine PC.intro func16 c16 fun aQ cz=>?_
 have hp:∀ p∈arr.map bX,p.length≤65536:=fun p hp=>by
  obtain⟨x,hx,rfl⟩:=bK.1 hp;have:=(h.op x hx).enc;omega
 have Tj:(eD arr).length<2^30:=by rw[List.length_append]at wH;omega
 have aeE:∀ σ,PC prog 54 [.sl 1 (al (eD arr))] σ (fun r σ'=>r=.iK [.sl 1 ((arr.map bX).map tc),.i .i64 (eD arr).length]∧σ'=σ):=fun σ=>by
  have:=NC (arr.map bX) [] (by rw[bf];exact Tj) hp rfl σ;rw[bf]at this;exact this
 simp only[p16,SS,seval];refine bA.cutAt (.more (.more (.more (.more (.more (.more (.one _ _))))))) fun R hR=>?_;simp only[oL,cc.cells,VV,seval];intro X;refine ai (Pf (arr.map bX) tl wH hp ht _) rfl ?_;simp only[aL,VV,seval];refine ai (aeE _) rfl ?_;simp only[VV,seval];have hfo:bM (arr.map bX)=eD arr:=rfl;have zk:bP (σ++[.box 36 [.i .i64 n,.i .i64 0,.sl 13 [],.sl 1 (al (eD arr++tl)),.i .i64 (eD arr++tl).length,.b true],.box 36 [.i .i64 0,.i .i64 0,.nil,.nil,.i .i64 0,.b false]]):=bU aQ (by simp only[bV,bD,false_imp_iff,implies_true,LW]);refine bA.wk ((Wk.ej (ys:=[.u,.u,.ptr (σ.length+1) 0,.u,.ptr (σ.length+2) 0,.u,.u,.u,.u,.u,.u,.u,.u,.u,.u,.u,.u,.u,.u,.u,.u,.u,.u,.u,.u,.u,.u,.u,.u,.u,.u,.sl 1 ((arr.map bX).map tc),.i .i64 arr.length,.i .i64 (([]:List aJ).length:Nat),.u,.u,.u,.u,.u,.u,.u,.u,.u,.u,.u,.u,.u,.u,.u,.u,.u,.u,.u,.u,.u,.u,.u,.u,.u,.u,.u,.u,.u,.u]) ?_).trans U5) (bA.pd (arr.length+1) (Zu zk n (eD arr) (eD arr).length arr (fun x hx=>h.op x hx) (by omega) arr [] 0 rfl ?_))
 ·simp only[List.length_map]
  repeat' constructor
 intro g;intros;simp only[yS,dR,VV,seval];refine ai (RD arr (σ.length+3) g h.one (by omega) _ (by simp only[VV,seval])) rfl ?_;simp only[VV,seval];refine hR _ (bA.wk ((Wk.ej (ys:=[.u,.u,.ptr (σ.length+1) 0,.u,.ptr (σ.length+2) 0,.u,.u,.u,.u,.u,.u,.u,.u,.u,.u,.u,.u,.u,.u,.u,.u,.u,.u,.u,.u,.u,.u,.u,.u,.u,.u,.u,.u,.u,.u,.u,.u,.u,.u,.u,.u,.u,.u,.u,.u,.u,.u,.u,.u,.u,.u,.u,.u,.u,.u,.u,.u,.u,.u,.u,.u,.u,.u,.u]) ?_).trans (U4 (g:=g) (nu:=n) (c:=fh arr) (log:=eD arr) (s:=(eD arr).length) (l:=dz arr) zk (aB _) ?_)) (aj ?_))
 ·repeat' constructor
 ·simp only[LW];omega
 simp only[yS,VV,seval];have e:cp n arr arr.length=⟨n,fh arr,dz arr,eD arr,(eD arr).length,false⟩:=by simp[cp]
 simp only[dS,e,cc.cells];exact aG aQ (.inr rfl) (by simp only[RS,seval];rfl) (by simp only[LW]) ⟨rfl,rfl⟩
theorem LZ(o:cc)(hd:o.down=false)(σ:ag):PC prog 16 [.agg o.cells] σ (fun r σ'=>r=dS cc.zero 8∧σ'=σ):=by
 refine PC.intro func16 c16 fun aQ cz=>aj ?_;simp only[p16,SS,seval];simp only[cc.cells,hd,VV,seval];exact dv aQ (.inr rfl) (by simp only[RS,seval]) (.cons (Cv.ir (pg 0)) (.cons (.refl _) .nil)) (by simp only[cc.cells,LW]) ⟨rfl,rfl⟩
theorem Fx(o:cc)(hd:o.down=true)(σ:ag):PC prog 22 [.agg o.cells] σ (fun r σ'=>r=dS cc.zero 15∧σ'=σ):=by
 refine PC.intro func22 c22 fun aQ cz=>aj ?_;simp only[p22,SS,seval];simp only[cc.cells,hd,VV,seval];exact dv aQ (.inr rfl) (by simp only[RS,seval]) (.cons (Cv.ir (pg 0)) (.cons (.refl _) .nil)) (by simp only[cc.cells,LW]) ⟨rfl,rfl⟩
theorem UT(o:cc)(ho:o.small)(hd:o.down=false)(σ:ag):PC prog 22 [.agg o.cells] σ (fun r σ'=>r=dS { o with synced:=o.log.length } 0∧σ'=σ):=by
 refine PC.intro func22 c22 fun aQ cz=>aj ?_;simp only[p22,SS,seval];simp only[cc.cells,hd,VV,seval];refine ai (ou o ho _) (by simp only[cc.cells,hd,VV,seval]) ?_;simp only[dS,cc.cells,hd,aL,VV,seval];exact aG aQ (.inr rfl) (by simp only[RS,seval];rfl) (by simp only[LW]) ⟨rfl,rfl⟩
def opsV:List aJ→V
 | []=>.nil
 | l=>.sl 13 (l.map aJ.cells)
theorem Vh:∀ l:List aJ,Cv (opsV l) (.sl 13 (l.map aJ.cells))
 | []=>.nil 13
 | _::_=>.refl _
theorem Sc(l:List aJ)(x:aJ):opsV (qn l x)=.sl 13 ((qn l x).map aJ.cells):=by
 cases h:qn l x with
 | nil=>simp[qn]at h
 | cons a r=>rfl
set_option maxRecDepth 4000 in
set_option maxHeartbeats 1000000 in
theorem Zm{σ:ag}{K:Exit→St→Prop}{b1 b2:Ob}(aQ:bP (σ++[b1,b2]))(nu:Int)(log:List UInt8)(s:Int)(arr:List aJ)(ha:∀ x∈arr,Ln x)(Qk:arr.Pairwise fun a b=>da a b≠0)(hl:arr.length≤1000)(lx:Int):∀ (rest pre:List aJ),arr=pre++rest →
  ((∀ j0 j1 j3 j5 j7 j8 j9 cT cS cX cR cN cM cL cW df dn dx dy dD dI dH dG dX ez eA eH eW fg fi ft fw fG fM fL fK fX gi gF gR gQ il ix iV iU iT iS iR jo jn jm jK jY kx ku kt kH,K (.exit 0) ⟨[j0,j1,.ptr (σ.length+1) 0,j3,.ptr (σ.length+2) 0,j5,.i .i64 lx,j7,j8,j9,cT,cS,cX,cR,cN,cM,cL,cW,df,dn,dx,dy,dD,dI,dH,dG,dX,ez,eA,eH,eW,fg,fi,ft,fw,fG,fM,fL,fK,fX,gi,gF,gR,gQ,il,ix,iV,iU,iT,iS,iR,jo,jn,jm,jK,jY,kx,ku,kt,kH],σ++[b1,b2,yS nu (fh arr) (opsV (dz arr)) log s]⟩)) →
  fO σ.length prog NX K (rest.length+1) ⟨[.u,.u,.ptr (σ.length+1) 0,.u,.ptr (σ.length+2) 0,.u,.i .i64 lx,.u,.u,.u,.u,.u,.u,.u,.u,.u,.u,.u,.u,.u,.u,.u,.u,.u,.u,.u,.u,.sl 1 ((arr.map bX).map tc),.i .i64 arr.length,.i .i64 pre.length,.u,.u,.u,.u,.u,.u,.u,.u,.u,.u,.u,.u,.u,.u,.u,.u,.u,.u,.u,.u,.u,.u,.u,.u,.u,.u,.u,.u,.u,.u],σ++[b1,b2,yS nu (fh pre) (opsV (dz pre)) log s]⟩:=by
 intro rest
 induction rest with
 | nil =>
  intro pre he h1;have he:arr=pre:=by simpa using he
  subst he;refine ax fun R hR=>?_;simp only[NX,VV,seval];exact⟨fun h=>by simp at h,fun _=>h1 ..⟩
 | cons x rest ih =>
  intro pre he h1;have hlp:arr.length=pre.length+(rest.length+1):=by rw[he];simp
  have hx:=ha x (by rw[he];simp)
  have hw:IntKind.i64.wrap ((pre.length:Int)+1)=(((pre++[x]).length:Nat):Int):=by
   rw[aV (by omega)];simp
  have hd:decide ((pre.length:Int)<(arr.length:Int))=true:=by simp;omega
  have dY:fe ((arr.map bX).map tc) pre.length 0=some (.sl 1 (al (bX x))):=by
   rw[he,jM];exact lU
  have Ik:=sX hx.small hx.ok
  have iQ:∀ y∈dz pre,da y x≠0:=fun y hy=>by
   rw[he]at Qk;exact(fy.1 Qk).2.2 y (dA.1 hy) x (by simp)
  have aeJ:R7 (dz pre) x=dz (pre++[x]):=by rw[CN iQ,nT]
  have hov:opsV (dz (pre++[x]))=.sl 13 ((dz (pre++[x])).map aJ.cells):=by rw[nT];exact Sc _ _
  refine ax fun R hR=>?_;simp only[NX,yS,dY,hd,an,List.length_map,VV,seval];refine⟨⟨by omega,by omega⟩,?_⟩;have hmx:(if fh pre<x.aA.time then x.aA.time else fh pre)=fh (pre++[x]):=by rw[qY,yW]
  refine ai (G3 (bX x) (by have:=hx.enc;omega) _) rfl ?_;simp only[Ik,aJ.cells,bc.cells,En.cells,VV,seval];refine ic (zs:=[.sl 13 ((dz pre).map aJ.cells),.agg x.cells]) (.cons (Vh _) (.cons (.refl _) .nil)) (GY _ _ (by rw[nU];omega) (fun o ho=>(ha o (by rw[he];simp[dA.1 ho])).small) hx.small _) ?_;simp only[aeJ,hmx,hw,VV,seval];rw[← hov];refine hR _ (cH [b1,b2,yS nu (fh (pre++[x])) (opsV (dz (pre++[x]))) log s] [_] ?_ ?_ ?_ (ih (pre++[x]) (by rw[he];simp) h1))
  ·have:=bU aQ (l:=[yS nu (fh (pre++[x])) (opsV (dz (pre++[x]))) log s]) (by
    simp only[yS,hov,bV,bD,false_imp_iff,implies_true,LW])
   simpa using this
  ·repeat' constructor
  ·simp only[LW,ab,ah,aK];omega
set_option maxHeartbeats 1000000 in
theorem JI{n:Int}{arr:List aJ}{tl:List UInt8}(h:yd n arr)(hl:arr.length≤180)(ht:gA tl=0)(wH:(eD arr++tl).length<2^30)(σ:ag):
  PC prog 50 [.agg (oL n arr tl).cells] σ (fun r σ'=>r=dS (cp n arr arr.length) 0∧σ'=σ):=by
 refine PC.intro func50 c50 fun aQ cz=>?_
 have hp:∀ p∈arr.map bX,p.length≤65536:=fun p hp=>by
  obtain⟨x,hx,rfl⟩:=bK.1 hp;have:=(h.op x hx).enc;omega
 have Tj:(eD arr).length<2^30:=by rw[List.length_append]at wH;omega
 simp only[p50,SS,seval];refine bA.cutAt (.more (.more (.more (.more (.one _ _))))) fun R hR=>?_;simp only[oL,cc.cells,VV,seval];intro X;refine ai (L8 (arr.map bX) tl wH hp ht _) rfl ?_;simp only[VV,seval];refine ai (yJ (arr.map bX) tl wH hp ht _) rfl ?_;simp only[VV,seval];have hfo:bM (arr.map bX)=eD arr:=rfl;have zk:bP (σ++[.box 36 [.i .i64 n,.i .i64 0,.sl 13 [],.sl 1 (al (eD arr++tl)),.i .i64 (eD arr++tl).length,.b true],.box 36 [.i .i64 0,.i .i64 0,.nil,.nil,.i .i64 0,.b false]]):=bU aQ (by simp only[bV,bD,false_imp_iff,implies_true,LW]);refine bA.wk (Wk.ej (ys:=[.u,.u,.ptr (σ.length+1) 0,.u,.ptr (σ.length+2) 0,.u,.i .i64 (eD arr).length,.u,.u,.u,.u,.u,.u,.u,.u,.u,.u,.u,.u,.u,.u,.u,.u,.u,.u,.u,.u,.sl 1 ((arr.map bX).map tc),.i .i64 arr.length,.i .i64 (([]:List aJ).length:Nat),.u,.u,.u,.u,.u,.u,.u,.u,.u,.u,.u,.u,.u,.u,.u,.u,.u,.u,.u,.u,.u,.u,.u,.u,.u,.u,.u,.u,.u,.u]) ?_) (bA.pd (arr.length+1) (Zm zk n (eD arr) 0 arr (fun x hx=>h.op x hx) h.one (by omega) (eD arr).length arr [] rfl ?_))
 ·simp only[List.length_map]
  repeat' constructor
 intros;simp only[yS,VV,seval];refine hR _ (bA.ej (fr':=[.u,.u,.ptr (σ.length+1) 0,.u,.ptr (σ.length+2) 0,.u,.i .i64 (eD arr).length,.u,.u,.u,.u,.u,.u,.u,.u,.u,.u,.u,.u,.u,.u,.u,.u,.u,.u,.u,.u,.u,.u,.u,.u,.u,.u,.u,.u,.u,.u,.u,.u,.u,.u,.u,.u,.u,.u,.u,.u,.u,.u,.u,.u,.u,.u,.u,.u,.u,.u,.u,.u,.u]) (aj ?_) (by repeat' constructor));have e:cp n arr arr.length=⟨n,fh arr,dz arr,eD arr,(eD arr).length,false⟩:=by simp[cp]
 simp only[dS,e,cc.cells];generalize dz arr=so;cases so with
 | nil =>
  simp only[opsV,aL,az,VV,seval];exact dv aQ (.inr rfl) (by simp only[RS,seval]) (.cons (Cv.ir (.cons (.refl _) (.cons (.refl _) (.cons (.nil 13) (.cons (.refl _) (.cons (.refl _) (.cons (.refl _) .nil))))))) (.cons (.refl _) .nil)) (by simp only[LW]) ⟨rfl,rfl⟩
 | cons y r =>
  simp only[opsV,aL,VV,seval];exact aG aQ (.inr rfl) (by simp only[RS,seval];rfl) (by simp only[LW]) ⟨rfl,rfl⟩
theorem JH(o:cc)(hd:o.down=false)(σ:ag):PC prog 50 [.agg o.cells] σ (fun r σ'=>r=dS cc.zero 8∧σ'=σ):=by
 refine PC.intro func50 c50 fun aQ cz=>aj ?_;simp only[p50,SS,seval];simp only[cc.cells,hd,VV,seval];exact dv aQ (.inr rfl) (by simp only[RS,seval]) (.cons (Cv.ir (pg 0)) (.cons (.refl _) .nil)) (by simp only[cc.cells,LW]) ⟨rfl,rfl⟩
theorem L7(o:cc)(hd:o.down=true)(σ:ag):PC prog 48 [.agg o.cells] σ (fun r σ'=>r=dS cc.zero 15∧σ'=σ):=by
 refine PC.intro func48 c48 fun aQ cz=>aj ?_;simp only[p48,SS,seval];simp only[cc.cells,hd,VV,seval];exact dv aQ (.inr rfl) (by simp only[RS,seval]) (.cons (Cv.ir (pg 0)) (.cons (.refl _) .nil)) (by simp only[cc.cells,LW]) ⟨rfl,rfl⟩
theorem RZ(o:cc)(hd:o.down=false)(σ:ag):PC prog 48 [.agg o.cells] σ (fun r σ'=>r=dS { o with synced:=o.log.length } 0∧σ'=σ):=by
 refine PC.intro func48 c48 fun aQ cz=>aj ?_;simp only[p48,SS,seval];simp only[cc.cells,hd,VV,seval];simp only[dS,cc.cells,aL,seval];exact aG aQ (.inr rfl) (by simp only[RS,seval];rfl) (by simp only[LW]) ⟨rfl,rfl⟩
theorem Pp(o:cc)(bY:Int)(hd:o.down=true)(σ:ag):PC prog 49 [.agg o.cells,.i .i64 bY] σ (fun r σ'=>r=.agg (jd o bY).cells∧σ'=σ):=by
 refine PC.intro func49 c49 fun aQ cz=>aj ?_;simp only[p49,SS,seval];simp only[cc.cells,hd,VV,seval];rw[show jd o bY=o from if_pos hd];simp only[hd,seval];exact aG aQ (.inr rfl) (by simp only[RS,seval];rfl) (by simp only[LW]) ⟨rfl,rfl⟩
theorem Po(o:cc)(bY:Int)(ho:o.small)(hd:o.down=false)(hs:0≤o.synced∧o.synced≤o.log.length)(σ:ag):PC prog 49 [.agg o.cells,.i .i64 bY] σ (fun r σ'=>r=.agg (jd o bY).cells∧σ'=σ):=by
 refine PC.intro func49 c49 fun aQ cz=>aj ?_;have qp:=ho.log;obtain⟨y,hy⟩:∃ y:Nat,o.synced=y:=⟨o.synced.toNat,by omega⟩
 have eC:(decide ((y:Int)<0)||decide ((o.log.length:Int)<(y:Int)))=false:=by
  simp;omega
 have eR:IntKind.i64.wrap ((o.log.length:Int) - (y:Int))=((o.log.length - y:Nat):Int):=by rw[IntWalk.i64_in _ (by omega)];omega
 have eM:(if 0<if((o.log.length - y:Nat):Int)<bY then((o.log.length - y:Nat):Int)else bY then if((o.log.length - y:Nat):Int)<bY then((o.log.length - y:Nat):Int)else bY else 0)=((min bY.toNat (o.log.length - y):Nat):Int):=by
  (repeat' split)<;>omega
 have eF:IntKind.i64.wrap ((y:Int)+((min bY.toNat (o.log.length - y):Nat):Int))=((jD o bY:Nat):Int):=by
  rw[IntWalk.i64_in _ (by omega),jD,hy,an];omega
 have hk:jD o bY≤o.log.length:=by rw[jD,hy,an];omega
 have eT:(al o.log).take (jD o bY)=al (o.log.take (jD o bY)):=by simp[al,List.map_take]
 have eN:(o.log.take (jD o bY)).length=jD o bY:=by rw[aR];omega
 have hcr:jd o bY=⟨o.number,0,[],o.log.take (jD o bY),jD o bY,true⟩:=if_neg (by rw[hd];simp);simp only[p49,SS,seval];simp only[cc.cells,hd,hy,aL,VV,seval];rw[hcr];simp only[eC,eR,eM,eF,an,eT,eN,aL,az,maxLen,VV,seval];generalize o.log.take (jD o bY)=lg at eN ⊢;generalize jD o bY=kk at hk eN ⊢;cases lg with
 | nil =>
  have hb:al []=[]:=rfl;simp only[hb,me,VV,seval];refine⟨⟨by omega,by omega⟩,⟨by omega,by omega⟩,?_⟩;exact dv aQ (.inr rfl) (by simp only[RS,seval]) (.cons (Cv.ir (.cons (.refl _) (.cons (.refl _) (.cons (.nil 13) (.cons (.lit 1 []) (.cons (.refl _) (.cons (.refl _) .nil))))))) .nil) (by simp only[LW]) ⟨rfl,rfl⟩
 | cons c lg =>
  have hb:(al (c::lg)).isEmpty=false:=rfl;simp only[hb,aD,VV,seval];refine⟨⟨by omega,by omega⟩,⟨by omega,by omega⟩,?_⟩;refine ed (xs:=[.agg [.i .i64 o.number,.i .i64 0,.nil,.own (σ.length+2) 0,.i .i64 kk,.b true]]) (xs':=[.agg [.i .i64 o.number,.i .i64 0,.sl 13 [],.sl 1 (al (c::lg)),.i .i64 kk,.b true]]) (.inr rfl) (by simp only[RS,seval]) ((Wk.fz (σ.length+2) (E:=5) (sz:=1) (by':=1) (g:=0) (sh:=false) (rows:=al (c::lg)) (by rw[nC];rfl)).trans ((Wk.ej (ys:=[.agg [.i .i64 o.number,.i .i64 0,.sl 13 [],.sl 1 (al (c::lg)),.i .i64 kk,.b true]]) ?_).trans ?_)) rfl ⟨rfl,rfl⟩
  ·simp only[ay,az,Pm.fz,kc,and_self,if_true];exact .cons (Cv.ir (.cons (.refl _) (.cons (.refl _) (.cons (.nil 13) (.cons (.refl _) (.cons (.refl _) (.cons (.refl _) .nil))))))) .nil
  ·rw[kb];exact Wk.Fb aQ (by simp only[LW])
theorem EI(o:cc)(x:aJ)(hd:o.down=true)(σ:ag):PC prog 47 [.agg o.cells,.agg x.cells] σ (fun r σ'=>r=dS cc.zero 15∧σ'=σ):=by
 refine PC.intro func47 c47 fun aQ cz=>aj ?_;simp only[YJ,SS,seval];simp only[cc.cells,aJ.cells,bc.cells,En.cells,hd,VV,seval];exact dv aQ (.inr rfl) (by simp only[RS,seval]) (.cons (Cv.ir (pg 0)) (.cons (.refl _) .nil)) (by simp only[cc.cells,LW]) ⟨rfl,rfl⟩
theorem GX(o:cc)(x:aJ)(hx:x.small)(hd:o.down=false)(fD:cw x≠0)(σ:ag):PC prog 47 [.agg o.cells,.agg x.cells] σ (fun r σ'=>r=dS cc.zero (cw x)∧σ'=σ):=by
 refine PC.intro func47 c47 fun aQ cz=>aj ?_;have iQ:(cw x != 0)=true:=by simpa using fD
 simp only[YJ,SS,seval];simp only[cc.cells,aJ.cells,bc.cells,En.cells,hd,VV,seval];refine ai (gp x hx _) (by simp only[aJ.cells,bc.cells,En.cells,VV,seval]) ?_;simp only[iQ,VV,seval];exact dv aQ (.inr rfl) (by simp only[RS,seval]) (.cons (Cv.ir (pg 0)) (.cons (.refl _) .nil)) (by simp only[cc.cells,LW]) ⟨rfl,rfl⟩
theorem EH(o:cc)(x y:aJ)(ho:o.small)(hx:x.small)(hd:o.down=false)(fD:cw x=0)(hk:jQ o.ops x.aA.aS x.aA.number=some y)(he:Da x y=true)(σ:ag):
  PC prog 47 [.agg o.cells,.agg x.cells] σ (fun r σ'=>r=dS o 0∧σ'=σ):=by
 refine PC.intro func47 c47 fun aQ cz=>aj ?_;have hlen:=ho.len;simp only[YJ,SS,seval];simp only[cc.cells,aJ.cells,bc.cells,En.cells,hd,VV,seval];refine ai (gp x hx _) (by simp only[aJ.cells,bc.cells,En.cells,VV,seval]) ?_;simp only[fD,VV,seval];refine ai (pL o.ops (by omega) x.aA.aS x.aA.number _) rfl ?_;simp only[hk,sC,aJ.cells,bc.cells,En.cells,aq,ak,VV,seval];refine bg (c:=true) (by simp only[VV,seval]<;>rfl) (fun _=>nj x y _) (by simp only[aJ.cells,bc.cells,En.cells,VV,seval]) ?_;simp only[he,VV,seval];simp only[dS,cc.cells,hd,seval];exact aG aQ (.inr rfl) (by simp only[RS,seval];rfl) (by simp only[LW]) ⟨rfl,rfl⟩
theorem CJ(o:cc)(x y:aJ)(ho:o.small)(hx:x.small)(hd:o.down=false)(fD:cw x=0)(hk:jQ o.ops x.aA.aS x.aA.number=some y)(he:Da x y=false)(σ:ag):
  PC prog 47 [.agg o.cells,.agg x.cells] σ (fun r σ'=>r=dS cc.zero 11∧σ'=σ):=by
 refine PC.intro func47 c47 fun aQ cz=>aj ?_;have hlen:=ho.len;simp only[YJ,SS,seval];simp only[cc.cells,aJ.cells,bc.cells,En.cells,hd,VV,seval];refine ai (gp x hx _) (by simp only[aJ.cells,bc.cells,En.cells,VV,seval]) ?_;simp only[fD,VV,seval];refine ai (pL o.ops (by omega) x.aA.aS x.aA.number _) rfl ?_;simp only[hk,sC,aJ.cells,bc.cells,En.cells,aq,ak,VV,seval];refine bg (c:=true) (by simp only[VV,seval]<;>rfl) (fun _=>nj x y _) (by simp only[aJ.cells,bc.cells,En.cells,VV,seval]) ?_;simp only[he,VV,seval];exact dv aQ (.inr rfl) (by simp only[RS,seval]) (.cons (Cv.ir (pg 0)) (.cons (.refl _) .nil)) (by simp only[cc.cells,LW]) ⟨rfl,rfl⟩
theorem GV(o:cc)(x:aJ)(ho:o.small)(hx:x.small)(hd:o.down=false)(fD:cw x=0)(hk:jQ o.ops x.aA.aS x.aA.number=none)(iQ:x.aA.aS=o.number)(σ:ag):
  PC prog 47 [.agg o.cells,.agg x.cells] σ (fun r σ'=>r=dS cc.zero 11∧σ'=σ):=by
 refine PC.intro func47 c47 fun aQ cz=>aj ?_;have hlen:=ho.len;have KH:(x.aA.aS==o.number)=true:=by simpa using iQ
 simp only[YJ,SS,seval];simp only[cc.cells,aJ.cells,bc.cells,En.cells,hd,VV,seval];refine ai (gp x hx _) (by simp only[aJ.cells,bc.cells,En.cells,VV,seval]) ?_;simp only[fD,VV,seval];refine ai (pL o.ops (by omega) x.aA.aS x.aA.number _) rfl ?_;simp only[hk,sC,eY,aJ.cells,bc.cells,En.cells,aq,ak,az,VV,seval];refine bg (c:=false) (v:=.b false) (by simp only[VV,seval]<;>rfl) (fun h=>by simp at h) rfl ?_;simp only[KH,VV,seval];exact dv aQ (.inr rfl) (by simp only[RS,seval]) (.cons (Cv.ir (pg 0)) (.cons (.refl _) .nil)) (by simp only[cc.cells,LW]) ⟨rfl,rfl⟩
theorem GW(o:cc)(x:aJ)(ho:o.small)(hs:∀ y∈o.ops,y.small)(hx:x.small)(hd:o.down=false)(fD:cw x=0)(hp:(bX x).length≤60000)(qp:o.log.length≤4000000)(hk:jQ o.ops x.aA.aS x.aA.number=none)(iQ:x.aA.aS≠o.number)(Oz:∀ y∈o.ops,da y x≠0)(σ:ag):
  PC prog 47 [.agg o.cells,.agg x.cells] σ (fun r σ'=>r=dS (fR o x (k9 o.ops x)) 0∧σ'=σ):=by
 refine PC.intro func47 c47 fun aQ cz=>aj ?_;have hlen:=ho.len;have KH:(x.aA.aS==o.number)=false:=by simpa using iQ
 simp only[YJ,SS,seval];simp only[cc.cells,aJ.cells,bc.cells,En.cells,hd,VV,seval];refine ai (gp x hx _) (by simp only[aJ.cells,bc.cells,En.cells,VV,seval]) ?_;simp only[fD,VV,seval];refine ai (pL o.ops (by omega) x.aA.aS x.aA.number _) rfl ?_;simp only[hk,sC,eY,aJ.cells,bc.cells,En.cells,aq,ak,az,VV,seval];refine bg (c:=false) (v:=.b false) (by simp only[VV,seval]<;>rfl) (fun h=>by simp at h) rfl ?_;simp only[KH,VV,seval];refine ai (pe x hx _) (by simp only[aJ.cells,bc.cells,En.cells,VV,seval]) ?_;simp only[DU fD,VV,seval];refine ai (CK o.log (bX x) hp qp _) rfl ?_;simp only[VV,seval];refine ai (GY o.ops x (by omega) hs hx _) (by simp only[aJ.cells,bc.cells,En.cells,VV,seval]) ?_;simp only[CN Oz,VV,seval];simp only[dS,fR,cc.cells,qn,hd,seval];exact aG aQ (.inr rfl) (by simp only[RS,seval];rfl) (by simp only[LW]) ⟨rfl,rfl⟩
def kn(o:cc)(m:Nat)(kind:Int)(e:En)(c:Nat→Nat):aJ:=⟨⟨o.clock+1,o.number,(m:Int)+1⟩,kind,e,jU c⟩
def fp(o:cc)(x:aJ)(e:Int):V:=.iK [.agg o.cells,.agg x.cells,.i .i64 e]
def lI(o:cc):Nat:=(o.ops.filter fun x=>x.aA.aS==o.number).length
theorem A4(o:cc)(kind:Int)(e:En)(ho:o.small)(hl:128≤lI o∨2^30≤o.clock)(σ:ag):
  PC prog 81 [.agg o.cells,.i .i64 kind,.agg e.cells] σ (fun r σ'=>r=fp cc.zero eY 3∧σ'=σ):=by
 refine PC.intro func81 c81 fun aQ cz=>aj ?_;have hlen:=ho.len;have hle:lI o≤o.ops.length:=gS _ _;have hw:IntKind.i64.wrap ((lI o:Int)+1)=(lI o:Int)+1:=IntWalk.i64_in _ (by omega);have hlm:(decide ((128:Int)<(lI o:Int)+1)||decide ((1073741824:Int)≤o.clock))=true:=by simp;omega
 have hm:∀ σ,PC prog 133 [.agg o.cells] σ (fun r σ'=>r=.i .i64 (lI o:Nat)∧σ'=σ):=fun σ=>JJ o ho σ;simp only[p81,SS,seval];simp only[cc.cells,En.cells,VV,seval]at hm ⊢;refine ai (hm _) rfl ?_;simp only[hw,hlm,VV,seval];exact dv aQ (.inr rfl) (by simp only[RS,seval]) (.cons (Cv.ir (pg 0)) (.cons (Cv.ir Ml) (.cons (.refl _) .nil))) (by simp only[cc.cells,aJ.cells,bc.cells,En.cells,aq,ak,LW]) ⟨rfl,rfl⟩
set_option maxHeartbeats 1000000 in
theorem Mc(o:cc)(kind:Int)(e:En)(ho:o.small)(hd:o.down=false)(hs:∀ y∈o.ops,y.small)(c:Nat→Nat)(hc:jR o.ops c)(Ej:∀ q:Nat,q<8→c q≤128)(hx:(kn o (lI o) kind e c).small)(fD:cw (kn o (lI o) kind e c)=0)
  (hp:(bX (kn o (lI o) kind e c)).length≤60000) (qp:o.log.length≤4000000) (hl:lI o<128) (DD:0≤o.clock∧o.clock<2^30) (Oz:∀ y∈o.ops,da y (kn o (lI o) kind e c)≠0) (σ:ag) :
  PC prog 81 [.agg o.cells,.i .i64 kind,.agg e.cells] σ (fun r σ'=>r=fp (k7 o (kn o (lI o) kind e c) (k9 o.ops (kn o (lI o) kind e c))) (kn o (lI o) kind e c) 0∧σ'=σ):=by
 refine PC.intro func81 c81 fun aQ cz=>aj ?_;have hlen:=ho.len;have hle:lI o≤o.ops.length:=gS _ _;have hw:IntKind.i64.wrap ((lI o:Int)+1)=(lI o:Int)+1:=IntWalk.i64_in _ (by omega);have FZ:IntKind.i64.wrap (o.clock+1)=o.clock+1:=IntWalk.i64_in _ (by omega);have hm:∀ σ,PC prog 133 [.agg o.cells] σ (fun r σ'=>r=.i .i64 (lI o:Nat)∧σ'=σ):=fun σ=>JJ o ho σ;have h1:decide ((128:Int)<(lI o:Int)+1)=false:=by simp;omega
 have h2:decide ((1073741824:Int)≤o.clock)=false:=by simp;omega
 simp only[p81,SS,seval];have hS:=CI o ho c hc Ej;simp only[cc.cells,En.cells,hd,VV,seval]at hm hS ⊢;refine ai (hm _) rfl ?_;simp only[hw,h1,h2,FZ,VV,seval];intro X;refine ai (hS _) rfl ?_;simp only[VV,seval]
 have hX:aJ.cells (kn o (lI o) kind e c)=[.i .i64 (o.clock+1),.i .i64 o.number,.i .i64 ((lI o:Int)+1),.i .i64 kind,.sl 3 (e.source.map It.cells),.sl 3 (e.target.map It.cells),.s e.bS,.s e.next,.s e.cQ,.s e.cn,.i .i64 e.created,.i .i64 e.origin,.sl 1 ((jU c).map bj)]:=by
  simp only[kn,aJ.cells,bc.cells,En.cells,aq,ak]
 refine ai (pe (kn o (lI o) kind e c) hx _) (by simp only[hX,VV,seval]) ?_;simp only[DU fD,VV,seval];refine ai (CK o.log (bX (kn o (lI o) kind e c)) hp qp _) rfl ?_;simp only[VV,seval];refine ai (GY o.ops (kn o (lI o) kind e c) (by omega) hs hx _) (by simp only[hX,VV,seval]) ?_;simp only[CN Oz,FZ,aL,VV,seval];have hif:(if o.clock<(kn o (lI o) kind e c).aA.time then(kn o (lI o) kind e c).aA.time else o.clock)=o.clock+1:=if_pos (show o.clock<o.clock+1 by omega)
 have hmo:(k7 o (kn o (lI o) kind e c) (k9 o.ops (kn o (lI o) kind e c))).cells=[.i .i64 o.number,.i .i64 (o.clock+1),.sl 13 ((qn o.ops (kn o (lI o) kind e c)).map aJ.cells),.sl 1 (al (o.log++ni (bX (kn o (lI o) kind e c)))),.i .i64 ((o.log++ni (bX (kn o (lI o) kind e c))).length:Nat),.b false]:=by
  simp only[k7,fR,cc.cells,qn,hd,hif]
 simp only[fp,hmo,hX];exact aG aQ (.inr rfl) (by simp only[RS,seval];rfl) (by simp only[LW]) ⟨rfl,rfl⟩
theorem EJ(o:cc)(e:En)(hd:o.down=true)(σ:ag):PC prog 43 [.agg o.cells,.agg e.cells] σ (fun r σ'=>r=fp cc.zero eY 15∧σ'=σ):=by
 refine PC.intro func43 c43 fun aQ cz=>aj ?_;simp only[p43,SS,seval];simp only[cc.cells,En.cells,hd,VV,seval];exact dv aQ (.inr rfl) (by simp only[RS,seval]) (.cons (Cv.ir (pg 0)) (.cons (Cv.ir Ml) (.cons (.refl _) .nil))) (by simp only[cc.cells,aJ.cells,bc.cells,En.cells,aq,ak,LW]) ⟨rfl,rfl⟩
theorem A5(o:cc)(e:En)(he:e.small)(fD:cy e=0)(hd:o.down=false){o':cc}{x:aJ}{er:Int}(hm:∀ σ,PC prog 81 [.agg o.cells,.i .i64 1,.agg e.cells] σ (fun r σ'=>r=fp o' x er∧σ'=σ))(σ:ag):
  PC prog 43 [.agg o.cells,.agg e.cells] σ (fun r σ'=>r=fp o' x er∧σ'=σ):=by
 refine PC.intro func43 c43 fun aQ cz=>aj ?_;simp only[p43,SS,seval];simp only[cc.cells,En.cells,hd,VV,seval]at hm ⊢;refine ai (lO e he _) (by simp only[En.cells,VV,seval]) ?_;simp only[fD,VV,seval];refine ai (hm _) rfl ?_;simp only[fp,cc.cells,aJ.cells,bc.cells,En.cells,aq,ak,VV,seval];exact aG aQ (.inr rfl) (by simp only[RS,seval];rfl) (by simp only[LW]) ⟨rfl,rfl⟩
structure Up (m n:Int) (N:Nat) (arr:List aJ) (k:Nat):Prop where
 base:yd n arr
 len:arr.length≤N
 le:k≤arr.length
 Yc:∀ x∈arr,x.aA.aS<m
 syn:∀ x∈arr.drop k,x.aA.aS≠n
def Good(m n:Int)(N:Nat)(o:cc):Prop :=
 (∃ arr k,Up m n N arr k∧o=cp n arr k) ∨
 (∃ arr tl,Up m n N arr arr.length∧gA tl=0∧(eD arr++tl).length≤20008*N∧o=oL n arr tl)
theorem Up.mono{m n:Int}{N M:Nat}{arr:List aJ}{k:Nat}(h:Up m n N arr k)(hm:N≤M):Up m n M arr k :=
 ⟨h.base,bZ h.len hm,h.le,h.Yc,h.syn⟩
theorem Up.own{m n:Int}{N:Nat}{arr:List aJ}{k:Nat}(h:Up m n N arr k)(hn:n<m){x:aJ}(hx:Ln x)(ho:x.aA.aS=n)(qT:x.aA.number=lq n arr+1):Up m n (N+1) (arr++[x]) (arr.length+1):=by
 have:=h.len;refine⟨h.base.Jo hx ho qT,by simpa using this,by simp,fun y hy=>?_,by simp⟩;rcases List.mem_append.1 hy with hy | hy
 ·exact h.Yc y hy
 ·rw[cv.1 hy,ho];exact hn
theorem Up.ym{m n:Int}{N:Nat}{arr:List aJ}{k:Nat}(h:Up m n N arr k){x:aJ}(hx:Ln x)(hm:x.aA.aS<m)(ho:x.aA.aS≠n)(lQ:∀ y∈arr,da y x≠0):Up m n (N+1) (arr++[x]) k:=by
 have:=h.len;have hle:=h.le;refine⟨h.base.ym hx ho lQ,by simpa using this,by simp;omega,fun y hy=>?_,fun y hy=>?_⟩
 ·rcases List.mem_append.1 hy with hy | hy
  ·exact h.Yc y hy
  ·rw[cv.1 hy];exact hm
 ·rw[UJ hle]at hy;rcases List.mem_append.1 hy with hy | hy
  ·exact h.syn y hy
  ·rw[cv.1 hy];exact ho
theorem Up.all{m n:Int}{N:Nat}{arr:List aJ}{k:Nat}(h:Up m n N arr k):Up m n N arr arr.length :=
 ⟨h.base,h.len,aB _,h.Yc,by simp⟩
theorem Up.take{m n:Int}{N:Nat}{arr:List aJ}{k:Nat}(h:Up m n N arr k)(j:Nat):Up m n N (arr.take j) (arr.take j).length :=
 ⟨h.base.take j,by have:=h.len;rw[aR];omega,aB _,fun x hx=>h.Yc x (ct hx),by rw[oT];simp⟩
theorem Good.mono{m n:Int}{N M:Nat}{o:cc}(h:Good m n N o)(hm:N≤M):Good m n M o:=by
 rcases h with⟨arr,k,h1,h2⟩ | ⟨arr,tl,h1,h3,h4,h5⟩
 ·exact .inl ⟨arr,k,h1.mono hm,h2⟩
 ·exact .inr ⟨arr,tl,h1.mono hm,h3,by omega,h5⟩
theorem Good.small{m n:Int}{N:Nat}{o:cc}(h:Good m n N o)(hN:N≤180):o.small:=by
 rcases h with⟨arr,k,h1,rfl⟩ | ⟨arr,tl,h1,h3,h4,rfl⟩
 ·exact fC h1.base (by have:=h1.len;omega)
 ·exact⟨by simp[oL],by simp[oL],by simp only[oL];omega⟩
theorem rN{n:Int}{arr:List aJ}{k:Nat}(h:yd n arr)(kind:Int)(e:En)(c:Nat→Nat):(kn (cp n arr k) (lI (cp n arr k)) kind e c)=iA n arr kind e c:=by
 have:lI (cp n arr k)=lq n arr:=(mh arr n).symm;simp only[kn,iA,this];rfl
theorem Su{n:Int}{arr:List aJ}{k:Nat}(h:yd n arr)(hn:0≤n∧n<8)(hl:arr.length≤180){c:Nat→Nat}(hc:jR (dz arr) c)(Ej:∀ q:Nat,q<8→c q≤128)(kind:Int)(e:En)(hx:Ln (iA n arr kind e c))(ho:lq n arr<128)(DD:fh arr<2^30)(σ:ag):
  PC prog 81 [.agg (cp n arr k).cells,.i .i64 kind,.agg e.cells] σ (fun r σ'=>r=fp (cp n (arr++[iA n arr kind e c]) (arr.length+1)) (iA n arr kind e c) 0∧σ'=σ):=by
 have gD:lI (cp n arr k)=lq n arr:=(mh arr n).symm;have qp:=mR h.op;have hA:=h.Jo hx rfl rfl
 have:=Mc (cp n arr k) kind e (fC h (by omega)) rfl (fun y hy=>(h.op y (dA.1 hy)).small) c hc Ej
  (by rw[rN h];exact hx.small) (by rw[rN h];exact hx.ok) (by rw[rN h];exact bZ hx.enc (by decide)) (by simp only[cp];omega) (by omega) ⟨(nz fun x hx=>(h.op x hx).ok).1,DD⟩
  (by rw[rN h];exact fun y hy=>(B4.1 hA.one).2 y (dA.1 hy)) σ
 rw[rN h]at this;have e2:=xd (n:=n) (arr:=arr) (k:=k) (iA n arr kind e c);rw[k7]at this;simp only[cp]at this e2 ⊢
 rwa [e2]at this
theorem MX{m n:Int}{N:Nat}{o:cc}(h:Good m n N o)(hn:0≤n∧n<m∧m≤8)(hN:N≤180)(s t:Int):
  ∃ o' x er,(∀ σ,PC prog 17 [.agg o.cells,.agg (cJ s t).cells] σ (fun r σ'=>r=fp o' x er∧σ'=σ)) ∧
   (∀ σ,PC prog 43 [.agg o.cells,.agg (cJ s t).cells] σ (fun r σ'=>r=fp o' x er∧σ'=σ))∧(er=0→Good m n (N+1) o'):=by
 rcases h with⟨arr,k,hu,rfl⟩ | ⟨arr,tl,hu,h3,h4,rfl⟩
 all_goals have h1:=hu.base;have h2:=hu.len
 ·have DA:0≤n∧n<8:=by omega
  obtain⟨c,hc,Ej,Cb⟩:=mV h1 DA
  by_cases hl:lq n arr<128∧fh arr<2^30
  ·have hx:=HV h1 DA Ej Cb s t hl.1 hl.2;refine⟨_,_,_,s6 h1 DA (by omega) hc Cb s t hx hl.1 hl.2,A5 _ _ (jt _ _) (mS _ _) rfl (Su h1 DA (by omega) hc Ej 1 _ hx hl.1 hl.2),fun _=>.inl ⟨_,_,hu.own hn.2.1 hx rfl rfl,rfl⟩⟩
  ·have hl:128≤lq n arr∨2^30≤fh arr:=by omega
   have gD:lI (cp n arr k)=lq n arr:=(mh arr n).symm;refine⟨_,_,_,rm h1 DA (by omega) hc Cb s t hl,A5 _ _ (jt _ _) (mS _ _) rfl (A4 _ _ _ (fC h1 (by omega)) (by rw[gD];exact hl)),fun h=>by simp at h⟩
 ·exact⟨_,_,_,sZ _ _ rfl,EJ _ _ rfl,fun h=>by simp at h⟩
theorem Xf{m n:Int}{N:Nat}{o:cc}(h:Good m n N o)(hN:N≤180):
  ∃ o' er,(∀ σ,PC prog 22 [.agg o.cells] σ (fun r σ'=>r=dS o' er∧σ'=σ)) ∧
   (∀ σ,PC prog 48 [.agg o.cells] σ (fun r σ'=>r=dS o' er∧σ'=σ))∧(er=0→Good m n (N+1) o'):=by
 rcases h with⟨arr,k,hu,rfl⟩ | ⟨arr,tl,hu,h3,h4,rfl⟩
 all_goals have h1:=hu.base;have h2:=hu.len
 ·refine⟨_,_,UT _ (fC h1 (by omega)) rfl,RZ _ rfl,fun _=>.inl ⟨arr,arr.length,hu.all.mono (Nat.le_succ _),?_⟩⟩;simp[cp]
 ·exact⟨_,_,Fx _ rfl,L7 _ rfl,fun h=>by simp at h⟩
theorem DS{m n:Int}{N:Nat}{o:cc}(h:Good m n N o)(hN:N≤180):
  ∃ o' er,(∀ σ,PC prog 16 [.agg o.cells] σ (fun r σ'=>r=dS o' er∧σ'=σ)) ∧
   (∀ σ,PC prog 50 [.agg o.cells] σ (fun r σ'=>r=dS o' er∧σ'=σ))∧(er=0→Good m n (N+1) o')∧(er=0↔o.down=true):=by
 rcases h with⟨arr,k,hu,rfl⟩ | ⟨arr,tl,hu,h3,h4,rfl⟩
 all_goals have h1:=hu.base;have h2:=hu.len
 ·exact⟨_,_,LZ _ rfl,JH _ rfl,fun h=>by simp at h,by simp[cp]⟩
 ·exact⟨_,_,wU h1 (by omega) h3 (by omega),JI h1 (by omega) h3 (by omega),fun _=>.inl ⟨arr,arr.length,hu.mono (Nat.le_succ _),rfl⟩,by simp[oL]⟩
theorem oB(arr:List aJ)(k:Nat):(eD (arr.take k)).length≤(eD arr).length:=by
 have:eD arr=eD (arr.take k)++eD (arr.drop k):=by rw[← rY,List.take_append_drop]
 rw[this,List.length_append];omega
theorem K4{m n:Int}{N:Nat}{arr:List aJ}{k:Nat}(h:Up m n N arr k)(bY:Int):
  ∃ j tl,k≤j∧j≤arr.length∧gA tl=0∧(eD (arr.take j)++tl).length≤(eD arr).length∧jd (cp n arr k) bY=oL n (arr.take j) tl:=by
 have h1:=h.base
 have hp:∀ p∈arr.map bX,p.length≤65536:=fun p hp=>by
  obtain⟨x,hx,rfl⟩:=bK.1 hp;have:=(h1.op x hx).enc;omega
 obtain⟨j,tl,hm,he,ht,hj⟩:=Gb (arr.map bX) (jD (cp n arr k) bY) hp
 have he':(eD arr).take (jD (cp n arr k) bY)=eD (arr.take j)++tl:=by
  simp only[eD,List.map_take];exact he
 have Tl:(eD (arr.take k)).length≤jD (cp n arr k) bY:=by
  simp only[jD,cp,an];omega
 have hk:jD (cp n arr k) bY≤(eD arr).length:=by
  have:=oB arr k;simp only[jD,cp,an];omega
 have hlen:(eD (arr.take j)++tl).length=jD (cp n arr k) bY:=by rw[← he',aR];omega
 refine⟨j,tl,hj k (by simpa using h.le) (by simpa only[eD,List.map_take]using Tl),by simpa using hm,ht,by omega,?_⟩;rw[jd,if_neg (by simp[cp])];simp only[oL,hlen];simp only[cp,← he']
theorem M4{m n:Int}{N:Nat}{o:cc}(h:Good m n N o)(hN:N≤180)(bY:Int):Good m n N (jd o bY):=by
 rcases h with⟨arr,k,hu,rfl⟩ | ⟨arr,tl,hu,h3,h4,rfl⟩
 ·obtain⟨j,tl,h1,h2,h3,h4,h5⟩:=K4 hu bY;have qp:=mR hu.base.op;have hmul:20008*arr.length≤20008*N:=Nat.mul_le_mul_left _ hu.len;exact .inr ⟨arr.take j,tl,hu.take j,h3,by omega,h5⟩
 ·rw[jd,if_pos (by simp[oL])];exact .inr ⟨arr,tl,hu,h3,h4,rfl⟩
theorem Bn{m n:Int}{N:Nat}{o:cc}(h:Good m n N o):0≤o.synced∧o.synced≤o.log.length:=by
 rcases h with⟨arr,k,hu,rfl⟩ | ⟨arr,tl,hu,h3,h4,rfl⟩
 all_goals have h1:=hu.base;have h2:=hu.len
 ·have:=oB arr k;simp only[cp];omega
 ·simp only[oL];omega
theorem zw{m n:Int}{N:Nat}{o:cc}(h:Good m n N o)(hN:N≤180)(bY:Int):
  (∀ σ,PC prog 15 [.agg o.cells,.i .i64 bY] σ (fun r σ'=>r=.agg (jd o bY).cells∧σ'=σ)) ∧
   (∀ σ,PC prog 49 [.agg o.cells,.i .i64 bY] σ (fun r σ'=>r=.agg (jd o bY).cells∧σ'=σ))∧Good m n N (jd o bY):=by
 refine⟨QK o bY (h.small hN) (Bn h),fun σ=>?_,M4 h hN bY⟩;cases hd:o.down with
 | true=>exact Pp o bY hd σ
 | false=>exact Po o bY (h.small hN) hd (Bn h) σ
theorem QE{l:List aJ}{f n:Int}{y:aJ}(h:jQ l f n=some y):y∈l∧y.aA.aS=f∧y.aA.number=n:=by
 have h1:=vz h;simp only[aC,beq_iff_eq]at h1;exact⟨oU h,h1⟩
theorem MU{l:List aJ}{f n:Int}(h:jQ l f n=none):∀ y∈l,¬ (y.aA.aS=f∧y.aA.number=n):=fun y hy hc=>by
 have:=qz.1 h y hy;simp[hc.1,hc.2]at this
theorem DT{m n:Int}{N:Nat}{o:cc}(h:Good m n N o)(hN:N≤180)(x:aJ)(hs:x.small)(hx:cw x=0→(bX x).length≤20000∧x.aA.aS<m):
  ∃ o' er,(∀ σ,PC prog 19 [.agg o.cells,.agg x.cells] σ (fun r σ'=>r=dS o' er∧σ'=σ)) ∧
   (∀ σ,PC prog 47 [.agg o.cells,.agg x.cells] σ (fun r σ'=>r=dS o' er∧σ'=σ))∧(er=0→Good m n (N+1) o')∧(o.down=true→er=15):=by
 rcases h with⟨arr,k,hu,rfl⟩ | ⟨arr,tl,hu,h3,h4,rfl⟩
 all_goals have h1:=hu.base;have h2:=hu.len
 ·by_cases fD:cw x=0
  ·have hg:Ln x:=⟨fD,hs,(hx fD).1⟩;have ho:=fC (k:=k) h1 (by omega);have hp:=yN h1 x;have hdn:(cp n arr k).down=true→False:=by simp[cp]
   cases hf:jQ (cp n arr k).ops x.aA.aS x.aA.number with
   | some y =>
    obtain⟨hy,hyo,hyn⟩:=QE hf;have hy:y∈dz arr:=hy;have hyx:da y x=0:=ja.2 ⟨hyo,hyn⟩;have dY:(cp n arr k).ops[k9 (dz arr) x]?=some y:=MG (nS h1.one) hy hyx;have hyg:=h1.op y (dA.1 hy)
    by_cases he:x=y
    ·subst he;exact⟨_,_,GS _ x _ ho hs rfl fD hp.1 hp.2 dY,EH _ x x ho hs rfl fD hf (uA.2 rfl),fun _=>.inl ⟨arr,k,hu.mono (Nat.le_succ _),rfl⟩,fun h=>(hdn h).elim⟩
    ·have hc:mP y x≠0:=fun hc=>he (Sg hyg.ok fD hyg.small hs hc).symm
     have hq:Da x y=false:=by
      cases hq:Da x y with
      | false=>rfl
      | true=>exact(he (uA.1 hq)).elim
     exact⟨_,_,EE _ x y _ ho hs rfl fD hp.1 hp.2 dY hyg.small hyx hc,CJ _ x y ho hs rfl fD hf hq,fun h=>by simp at h,fun h=>(hdn h).elim⟩
   | none =>
    have qT:∀ y∈dz arr,da y x≠0:=fun y hy hc=>MU hf y hy (ja.1 hc);have Wx:∀ y,(cp n arr k).ops[k9 (dz arr) x]?=some y→da y x≠0:=fun y hy=>qT y (bh hy)
    by_cases iQ:x.aA.aS=n
    ·exact⟨_,_,JC _ x _ ho hs rfl fD hp.1 hp.2 Wx iQ,GV _ x ho hs rfl fD hf iQ,fun h=>by simp at h,fun h=>(hdn h).elim⟩
    ·have qp:=mR h1.op;have hle:(cp n arr k).log.length≤4000000:=by simp only[cp];omega
     have hA:=hu.ym hg (hx fD).2 iQ fun y hy=>qT y (dA.2 hy);have e:=FM (n:=n) hu.le x;have a:=wW (cp n arr k) x _ ho hs rfl fD (bZ hg.enc (by decide)) hle hp.1 hp.2 Wx iQ;have b:=GW (cp n arr k) x ho (fun y hy=>(h1.op y (dA.1 hy)).small) hs rfl fD (bZ hg.enc (by decide)) hle hf iQ qT;exact⟨_,_,a,b,fun _=>.inl ⟨arr++[x],k,hA,e⟩,fun h=>(hdn h).elim⟩
  ·exact⟨_,_,JE _ x hs rfl fD,GX _ x hs rfl fD,fun h=>(fD h).elim,fun h=>by simp[cp]at h⟩
 ·exact⟨_,_,yE _ x rfl,EI _ x rfl,fun h=>by simp at h,fun _=>rfl⟩
end Go.Proofs.Tryz

/- A part of a proof; the claim's last text says of what. -/
import Derived.Shelf.SlSortCmp.NoneTotal
import Derived.Test.YtlakkaamfadipaaGreatDoorS1
import Derived.Test.YtlakkaamfadipaaGreatDoorS25
set_option linter.all false

namespace Go.Pm
open Go Go.RowKit Go.Sort Go.Proofs
theorem Gw{W w':World}(h:Below W.heap.size W w')(hd:W.drawn≤w'.drawn):∃ q os',w'=grow (W.drewN q) os':=by
 refine⟨w'.drawn - W.drawn,w'.heap.extract W.heap.size w'.heap.size,?_⟩
 have hh:w'.heap=W.heap++w'.heap.extract W.heap.size w'.heap.size:=by
  apply Ib;intro i;rw[Array.getElem?_append];split
  ·exact h.block i ‹_›
  ·have:=h.size;rw[Array.getElem?_extract];split
   ·congr 1;omega
   ·rw[jX (by omega)]
 have e1:=h.os;have e2:=h.tape;have e3:=h.output;obtain⟨hp,tp,dr,os,out⟩:=w';simp only at hh e1 e2 e3 hd ⊢;subst e1 e2 e3;simp only[grow,World.drewN,← hh];congr 1;omega
theorem wU{α:Type}[Inhabited α]{enc:α→List Value}{k n gb E:Nat}{w:World}{cur:Array Value}{dk:Array α}{os:Array Obj}(hg:w.heap[gb]?=some (.cells cur E (0,0))):
  (sortWorldK enc k w gb 0 n dk os).heap[gb]?=some (.cells (putCells id 0 (flatK enc k dk) cur) E (0,0)):=by
 have dc:=(aX.1 hg).1
 have e:(putRowK enc k (Sort.ahead w n) gb 0 dk).heap[gb]?=some (.cells (putCells id 0 (flatK enc k dk) cur) E (0,0)):=by
  simp only[putRowK,putRow,mapBlock,Sort.ahead,cB,aL,hg,bK];rfl
 simp only[sortWorldK,grow];rw[fQ (by have:=(aX.1 e).1;exact this)];exact e
theorem kP{α:Type}[Inhabited α]{enc:α→List Value}{k n gb:Nat}{w:World}{dk:Array α}{os:Array Obj}:
  w.grownBy (sortWorldK enc k w gb 0 n dk os) (some gb):=by
 have hs:(putRowK enc k (Sort.ahead w n) gb 0 dk).heap.size=w.heap.size:=by rw[putRowK,Go.Sort.size_putRow];rfl
 refine⟨rfl,rfl,rfl,?_,fun j hj gv=>?_⟩
 ·simp only[sortWorldK,grow,uA,hs];omega
 ·have nX:¬ gb=j:=fun e=>gv (by rw[e]);simp only[sortWorldK,grow];rw[fQ (by rw[hs];exact hj)];simp only[putRowK,putRow,mapBlock,Sort.ahead,cB,aI nX]
theorem VR.bare{P:Program}{B:Nat}{w0 w W:World}{J:ae}{μ μ':Mem}{gb id:Nat}(hS:fx P B w0 w J μ){o:Ob}(ho:J[id]?=some o)(hw:∀ off,o.wat off)(hb:ic (μ id)=some gb)(hg:w.grownBy W (some gb)){x:V}{v:Value}(h:VR w J μ x v)(hp:x.pure=true):
  VR W [] μ' x v:=by
 have hc:∀ b off u,w.cell? ⟨b,off,none⟩=some u→¬ wr J μ b off→W.cell? ⟨b,off,none⟩=some u:=by
  intro b off u h1 h2;refine hg.cell h1 fun e=>h2 ⟨id,o,ho,?_,hw off⟩;rw[hb];exact e.symm
 induction h with
 | b x=>exact .b x
 | i k n=>exact .i k n
 | s l x hl hm=>exact .s l x hl hm
 | Ae sz=>exact .Ae sz
 | sle sz a=>exact .sle sz a
 | sl sz xs b o cap f hlen kV cq h1 hv ih =>
  exact .sl sz xs b o cap f hlen kV cq (fun i j x hx=>⟨hc _ _ _ (h1 i j x hx).1 (h1 i j x hx).2.1,by rintro⟨id,ob,h3,_⟩;simp at h3,(h1 i j x hx).2.2⟩) (fun i j x hx=>ih i j x hx (h1 i j x hx).2.2)
 | _=>simp[V.pure]at hp
theorem PC.Qm{P:Program}{f:Nat}{args:List V}{J:ae}{id E sz by' g:Nat}{xs:List (List V)}{R:List (List V)→Prop}(hb:J[id]?=some (.row E sz by' g false xs))
  (h:∀ (B:Nat) (w0 w:World) (μ:Mem) (vs:Array Value),fx P B w0 w J μ→Sv w J μ args vs→Calls P f vs w fun e w'=>∃ xs' vals',R xs'∧xs'.length=xs.length∧e=.returned (.tuple #[])∧w.grownBy w' (ic (μ id))∧w'.ownsRow B E sz (μ id) xs'.length vals'∧mc w J μ xs' sz vals') :
  PC P f args J (fun r J'=>∃ xs',R xs'∧r=.fi []∧J'=J.set id (.row E sz by' g false xs')):=by
 intro B w0 w μ vs hS hv;refine(h B w0 w μ vs hS hv).mono ?_;rintro e w' ⟨xs',vals',hR,hl,rfl,hg,fk,cq⟩;have dc:id<J.length:=(ab.1 hb).1
 have hn:=hS.update (w':=w') (J':=J.set id (.row E sz by' g false xs')) (μ':=μ) id (ic (μ id)) hg (fun b jr=>⟨_,hb,by simp,jr⟩) (by simp) (fun j hj=>aJ (fun e=>hj e.symm)) (fun _ _=>rfl)
  (fun b jr=>.inl ⟨_,hb,by simp,jr⟩)
  (fun b off u o h1 _ h2 _ h4=>absurd ⟨id,o,h1,h2,by rw[hb]at h1;simp only[aa]at h1;subst h1;intro hf;simp at hf⟩ h4)
  (fun T cs h3=>by rw[hb]at h3;simp at h3)
  (fun K E es h3=>by rw[hb]at h3;simp at h3)
  (fun E2 sz2 by2 g2 sh2 xs2 _ h3=>by
   simp only[ar dc,aa,Ob.row.injEq]at h3;obtain⟨rfl,rfl,rfl,rfl,rfl,rfl⟩:=h3;exact⟨g,false,xs,hb,aq _,fun _=>⟨hl.symm,rfl⟩⟩)
  (fun hp o h3=>by
   simp only[ar dc,aa]at h3;subst h3;obtain⟨Jp,_⟩:=hS.obj id _ hb;exact⟨Jp,vals',fk,cq.eH hp.eH⟩)
 exact⟨.fi [],.tuple #[],_,μ,rfl,⟨xs',hR,rfl,rfl⟩,hn.1,.fi [] #[] rfl (by simp),hn.2.eH⟩
theorem PC.lays{P:Program}{B:Nat}{w0 w W:World}{J:ae}{μ:Mem}(hS:fx P B w0 w J μ){f gb:Nat}{args:List V}{vs:Array Value}{n:Int}(hB:B≤gb)(hg:w.grownBy W (some gb))(hv:Sv W [] (fun _=>undef) args vs)
  (h:PC P f args [] (fun r _=>r=.i .i64 n)):Calls P f vs W fun e w'=>e=.returned (.int .i64 n)∧∃ q os',w'=grow (W.drewN q) os':=by
 have YV:Laid P W.heap.size W:=by
  intro t ht g hn;obtain⟨h1,_⟩:=hS.below.laid t ht g hn;have h2:=hS.below.tab ht hn;have hgw:g<w.heap.size:=cQ h1 hS.base;refine⟨cQ hgw hg.size,?_⟩;have hb:W.heap[g]?=w.heap[g]?:=hg.block g hgw (fun e=>by simp only[aa]at e;omega);unfold Lib.TabIs World.var? at h2 ⊢;simp only[hn,gp]at h2 ⊢;rw[hb];exact h2
 have UZ:fx P W.heap.size W W [] (fun _=>undef):=⟨⟨Below.refl _ _,YV⟩,aq _,fun id o ho=>by simp at ho,fun i j oi oj b hi=>by simp at hi⟩;refine(Calls.drawn (h _ _ _ _ _ UZ hv) (by rintro w' ⟨r,v,J',μ',he,_⟩;cases he)).mono ?_;rintro e w' ⟨⟨r,v,J',μ',rfl,rfl,hS',hv',_⟩,hd⟩;exact⟨by rw[hv'.ei],Gw hS'.below.toBelow hd⟩
theorem PC.Be{P:Program}{ρ:Shelf.Ren}(L:SlLaysF0.n6 P ρ){k:Nat}(aE:∀ w,(isAgg (ρ.t 24)).run P w=.ok true w)(zE:∀ w,(Go.sizeOf (ρ.t 24)).run P w=.ok k w){α:Type}(cs:α→List V)(vf:∀ x,(cs x).length=k)(Ml:0<k)(cf:α→α→Int){cmp:Nat}
  (eg:∀ args w,(callFunc cmp args).run P w=.ok (.enter cmp args) w) (l:List α) {J:ae} {id g by':Nat} {caps:List V}
  (UU:∀ (B:Nat) (w0 w:World) (μ:Mem) (cb:Array Value),fx P B w0 w J μ→caps.length=cb.size→(∀ i x,caps[i]?=some x→VR w J μ x (cb.getD i undef))→∀ (W:World) (gb:Nat),B≤gb→ic (μ id)=some gb→w.grownBy W (some gb) →
   ∀ x∈l,∀ y∈l,∀ vx vy:Value,VR W [] (fun _=>undef) (.agg (cs x)) vx→VR W [] (fun _=>undef) (.agg (cs y)) vy→Calls P cmp (#[vx,vy]++cb) W fun e w'=>e=.returned (.int .i64 (cf x y))∧∃ q os',w'=grow (W.drewN q) os')
  (hO:SWO (ltOf fun(i j:Fin l.length)=>cf l[i] l[j]))
  (hl:l.length<2^30) (h1:J[id]?=some (.row (ρ.t 24) k by' g false (l.map cs))) :
  PC P (ρ.f 6) [.own id g,.fn cmp caps] J (fun r J'=>∃ l':List α,l'.Perm l∧l'.Pairwise (fun x y=>¬ cf y x<0)∧r=.fi []∧J'=J.set id (.row (ρ.t 24) k by' g false (l'.map cs))):=by
 refine PC.mono (PC.Qm (R:=fun xs'=>∃ l':List α,l'.Perm l∧l'.Pairwise (fun x y=>¬ cf y x<0)∧xs'=l'.map cs) h1 fun B w0 w μ vs hS hv=>?_) (by
  rintro r J' ⟨xs',⟨l',h1,h2,rfl⟩,h3,h4⟩;exact⟨l',h1,h2,h3,h4⟩)
 have a0:=(hv.2 0 _ rfl).jP h1;have a1:=hv.2 1 _ rfl;obtain⟨_,vals,fk,cq⟩:=hS.obj id _ h1;have Mk:(l.map cs).length=l.length:=ag ..
 obtain⟨cb,e,bj,hcv⟩:∃ cb:Array Value,vs=#[μ id,.func (.func cmp) #[] cb]∧caps.length=cb.size∧∀ i x,caps[i]?=some x→VR w J μ x (cb.getD i undef):=by
  obtain⟨q⟩:=vs
  match q,hv.1 with
  | [u,v],_ =>
   simp at a0 a1;cases a1 with
   | fn _ _ fs hlf hvf=>exact⟨fs,by rw[a0],hlf,hvf⟩
 rw[e];rw[Mk]at fk;have Rf:vals.length=l.length*k:=fk.1;have o1:=mc.one hS cq (by rw[Mk];exact Rf)
 by_cases h0:l.length=0
 ·have PJ:l=[]:=aG h0;have hvn:vals=[]:=aG (by rw[Rf,h0,L5])
  have hm:∃ p cap,μ id=.slice p 0 cap:=by
   rcases fk.2 with⟨h,_⟩ | ⟨gb,cap,cur,h,_⟩
   ·exact⟨_,_,h⟩
   ·rw[h0]at h;exact⟨_,_,h⟩
  obtain⟨p,cap,hm⟩:=hm;rw[hm];refine(AnyF.slices_SortFunc_none { L with } p cap _ w).mono ?_;rintro e w' ⟨rfl,rfl⟩;refine⟨[],[],⟨[],by rw[PJ],.nil,rfl⟩,by simp[PJ],rfl,grownBy_refl _ _,?_,?_⟩
  ·rw[← hm];rw[hvn,h0]at fk;exact fk
  ·exact⟨by simp,fun i j x hx=>by simp[eS]at hx⟩
 have xb:0<l.length:=Nat.pos_of_ne_zero h0;rcases fk.2 with⟨_,hn⟩ | ⟨gb,cap,cur,kF,hB,hg,Ht,DJ,mi,Mm⟩
 ·omega
 haveI:Inhabited (Fin l.length):=⟨⟨0,xb⟩⟩
 have hmul:∀ (i:Fin l.length) (j:Nat),j<k→i.1*k+j<l.length*k:=fun i j hj=>by
  have:(i.1+1)*k≤l.length*k:=bM _ i.2;rw[cD,gy]at this;omega
 have UT:∀ i:Fin l.length,((vals.drop (i*k)).take k).length=k:=fun i=>by
  rw[cz,cV,Rf];have:(i.1+1)*k≤l.length*k:=bM _ i.2;rw[cD,gy]at this;omega
 have eA:∀ (i:Fin l.length) (j:Nat),j<k→((vals.drop (i*k)).take k)[j]?=vals[i*k+j]?:=fun i j hj=>by
  rw[bg hj,gq]
 have nA:∀ (i:Fin l.length) (j:Nat) (x:V),(cs l[i])[j]?=some x→x.pure=true∧∃ u,((vals.drop (i*k)).take k)[j]?=some u∧VR w J μ x u:=fun i j x hx=>by
  have hj:j<k:=by
   have:=(ab.1 hx).1
   rwa [vf]at this
  have h2:eS (l.map cs) i j=some x:=by
   simp only[eS,a8,ak i.2,bK,gp];exact hx
  obtain⟨q1,u,q2,q3⟩:=cq.2 _ _ _ h2;exact⟨q1,u,by rw[eA i j hj];exact q2,q3⟩
 generalize Y6:(fun i:Fin l.length=>(vals.drop (i*k)).take k)=enc;have S9:∀ i,enc i=(vals.drop (i*k)).take k:=fun i=>by rw[← Y6]
 have Tc:(List.finRange l.length).toArray.size=l.length:=by simp
 have hdg:∀ j (h:j<l.length),(List.finRange l.length).toArray[j]! = ⟨j,h⟩:=fun j h=>by
  rw[getElem!_pos _ j (by rw[Tc];exact h)];simp
 have S6:∀ (d:Array (Fin l.length)) (t:Nat),d.size=l.length→t<l.length*k→(flatK enc k d)[t]?=vals[(d[t / k]!).1*k+t % k]?:=fun d t hd ht=>by
  have h1:t<(flatK enc k d).size:=by rw[size_flatK,hd];exact ht
  have h2:=get_flatK enc k d t (by rw[hd];exact ht);have hm:t % k<k:=sW _ Ml;rw[getElem!_pos _ t h1]at h2;rw[bc h1,h2,S9,← eA _ _ hm];rw[getElem!_pos _ (t % k) (by rw[UT];exact hm),ak]
 have hH:HoldsK enc k w gb 0 (List.finRange l.length).toArray:=fun t ht=>by
  rw[size_flatK,Tc]at ht;have h1:=S6 (List.finRange l.length).toArray t Tc ht;have hq:t / k<l.length:=lh (by rw[fa];exact ht);rw[hdg _ hq]at h1;have e2:t / k*k+t % k=t:=by rw[fa];exact Sz t k
  simp only[e2]at h1;have h3:t<(flatK enc k (List.finRange l.length).toArray).size:=by rw[size_flatK,Tc];exact ht
  have h4:cur.toList[t]?=vals[t]?:=by rw[← Mm,bg ht]
  refine⟨?_,by simp[World.frozen?,hg]⟩;simp only[World.cell?,hg,bz,id_eq];rw[getElem!_pos _ t h3,← Array.getElem?_eq_getElem h3,h1,← h4];simp
 have hblk:ic (μ id)=some gb:=by rw[kF];rfl
 have UZ:=AnyQ.slices_SortFunc L k aE zE enc (fun i=>by rw[S9];exact UT i) (fun i v hv=>o1 v (by rw[S9]at hv;exact pN (fu hv))) (fun i j=>cf l[i] l[j]) hO cmp cb gb 0 cap (List.finRange l.length).toArray w
  eg
  (fun m os dk _ x y=>by
   have agg:∀ q:Fin l.length,VR (sortWorldK enc k w gb 0 m dk os) [] (fun _=>undef) (.agg (cs l[q])) (.agg (enc q).toArray):=fun q=>by
    refine .agg _ _ (by rw[fO,S9,UT,vf]) fun i z hz=>?_;obtain⟨q1,u,q2,q3⟩:=nA q i z hz;rw[S9]
    have:((vals.drop (q*k)).take k).toArray.getD i undef=u:=by
     simp only[bh,kC,q2,ft]
    rw[this];exact VR.bare hS h1 (fun off h=>by simp at h) hblk kP q3 q1
   exact UU B w0 w μ cb hS bj hcv _ gb hB hblk kP l[x] (cA _) l[y] (cA _) _ _ (agg x) (agg y)) hH (aX.1 hg).1 (by rw[Tc];omega)
 rw[Tc,← kF]at UZ;refine UZ.mono ?_;rintro e w' ⟨rfl,d',n,os,BF,YE,rfl⟩;have hd's:d'.size=l.length:=by have:=BF.1;rw[Tc]at this;exact this
 have yY:d'.toList.Perm (List.finRange l.length):=by
  have h1:=BF.2.2
  have e1:d'.extract 0 l.length=d':=by
   have:=Array.extract_size (xs:=d')
   rwa [hd's]at this
  have e2:(List.finRange l.length).toArray.extract 0 l.length=(List.finRange l.length).toArray:=by
   have:=Array.extract_size (xs:=(List.finRange l.length).toArray)
   rwa [Tc]at this
  rw[e1,e2]at h1;simpa using h1
 have rq:(flatK enc k d').size=l.length*k:=by rw[size_flatK,hd's]
 have hlen':((d'.toList.map fun i=>l[i]).map cs).length=l.length:=by rw[ag,ag,a6,hd's]
 refine⟨_,(flatK enc k d').toList,⟨d'.toList.map fun i=>l[i],?_,?_,rfl⟩,by rw[hlen',Mk],rfl,by rw[hblk];exact kP,⟨by rw[hlen',a6,rq],.inr ⟨gb,cap,putCells _root_.id 0 (flatK enc k d') cur,by rw[hlen',kF],hB,wU hg,by rw[hlen'];exact Ht,DJ,?_,?_⟩⟩,?_,?_⟩
 ·refine(yY.map _).trans (List.Perm.of_eq ?_);apply gK;intro i;rw[a8]
  by_cases hi:i<l.length
  ·simp[hi]
  ·rw[bl (by simpa using Py hi),bl (by omega)];rfl
 ·refine L7.2 (Wd.2 fun i j hi hj Hw=>?_);rw[a6]at hi hj;have:=YE i j (dT _) Hw (by rw[← hd's];exact hj);rw[getElem!_pos _ i hi,getElem!_pos _ j hj]at this;simp only[ltOf,b7]at this;simpa using this
 ·simp[putCells,mi]
 ·rw[hlen'];apply gK;intro t
  by_cases ht:t<l.length*k
  ·rw[bg ht];have h3:t<(flatK enc k d').size:=by rw[rq];exact ht
   have h4:t<cur.size:=by rw[mi];have:=bM k Ht;omega
   simp only[putCells,eV,A0,bc h4,bK,dT,gk,bz,bf h3,rN,id_eq];rw[getElem!_pos _ t h3,bc h3]
  ·rw[bl (by rw[cz];omega),bl (by rw[a6,rq];omega)]
 ·intro r hr;obtain⟨x,_,rfl⟩:=bH.1 hr;exact vf x
 ·intro i j x hx;obtain⟨r,hr,hj⟩:=ie hx;rw[a8,a8]at hr;simp only[aj]at hr;obtain⟨o,⟨q,hq,rfl⟩,rfl⟩:=hr;obtain⟨q1,u,q2,q3⟩:=nA q j x hj
  have Jm:j<k:=by
   have:=(ab.1 hj).1
   rwa [vf]at this
  have r8:i<l.length:=by
   have:=(ab.1 hq).1
   rwa [a6,hd's]at this
  refine⟨q1,u,?_,q3⟩;have hdiv:(i*k+j) / k=i:=by rw[fa,Nat.mul_add_div Ml,Nat.div_eq_of_lt Jm,dK]
  have Od:(i*k+j) % k=j:=by rw[fa,Nat.mul_add_mod,xo Jm]
  rw[eV,S6 d' (i*k+j) hd's (hmul ⟨i,r8⟩ j Jm),hdiv,Od,← eA _ j Jm]
  have PL:d'[i]! = q:=by
   rw[getElem!_pos _ i (by rw[hd's];exact r8)];rw[eV,bc (by rw[hd's];exact r8)]at hq;simpa using hq
  rw[PL];exact q2
theorem PC.MT{P:Program}{ρ:Shelf.Ren}(L:SlLaysF0.n6 P ρ){k:Nat}(aE:∀ w,(isAgg (ρ.t 24)).run P w=.ok true w)(zE:∀ w,(Go.sizeOf (ρ.t 24)).run P w=.ok k w){α:Type}(cs:α→List V)(vf:∀ x,(cs x).length=k)(Ml:0<k)(cf:α→α→Int){cmp:Nat}
  (eg:∀ args w,(callFunc cmp args).run P w=.ok (.enter cmp args) w) (l:List α) (UU:∀ x∈l,∀ y∈l,PC P cmp [.agg (cs x),.agg (cs y)] [] (fun r _=>r=.i .i64 (cf x y))) (hO:SWO (ltOf fun(i j:Fin l.length)=>cf l[i] l[j]))
  (hl:l.length<2^30) {J:ae} {id g by':Nat} (h1:J[id]?=some (.row (ρ.t 24) k by' g false (l.map cs))) :
  PC P (ρ.f 6) [.own id g,.fn cmp []] J (fun r J'=>∃ l':List α,l'.Perm l∧l'.Pairwise (fun x y=>¬ cf y x<0)∧r=.fi []∧J'=J.set id (.row (ρ.t 24) k by' g false (l'.map cs))) :=
 PC.Be L aE zE cs vf Ml cf eg l (fun B w0 w μ cb hS bj _ W gb hB hb hg x hx y hy vx vy h1 h2=>by
  obtain rfl:cb=#[]:=by apply pw;simpa using bj.symm
  rw[Ie];refine PC.lays hS hB hg ⟨rfl,fun i z hz=>?_⟩ (UU x hx y hy);rcases i with _ | _ | i
  ·simp only[aw,aa]at hz;subst hz;exact h1
  ·simp only[bz,bI,aw,aa]at hz;subst hz;exact h2
  ·simp at hz) hO hl h1
end Go.Pm

/- A part of the proof that for every input the law NetworkLimits returns true and leaves its argument as it was. -/
import Derived.Shelf.SlSortCmp.NoneTotal
import Derived.Test.YtgihcpilgfbggaaGreatDoorL1
import Derived.Test.YtgihcpilgfbggaaGreatDoorL25
set_option linter.all false

namespace Go.Pm
open Go Go.RowKit Go.Sort Go.Proofs
theorem FA{W w':World}(h:Below W.heap.size W w')(hd:W.drawn≤w'.drawn):∃ q os',w'=grow (W.drewN q) os':=by
 refine⟨w'.drawn - W.drawn,w'.heap.extract W.heap.size w'.heap.size,?_⟩
 have hh:w'.heap=W.heap++w'.heap.extract W.heap.size w'.heap.size:=by
  apply Array.ext_getElem?;intro i;rw[Array.getElem?_append];split
  ·exact h.block i ‹_›
  ·have:=h.size;rw[Array.getElem?_extract];split
   ·congr 1;omega
   ·rw[nS (by omega)]
 have e1:=h.os;have e2:=h.tape;have e3:=h.output;obtain⟨hp,tp,dr,os,out⟩:=w';simp only at hh e1 e2 e3 hd ⊢;subst e1 e2 e3;simp only[grow,World.drewN,← hh];congr 1;omega
theorem vL{α:Type}[Inhabited α]{enc:α→List Value}{k n gb E:Nat}{w:World}{cur:Array Value}{dk:Array α}{os:Array Obj}(hg:w.heap[gb]?=some (.cells cur E (0,0))):
  (sortWorldK enc k w gb 0 n dk os).heap[gb]?=some (.cells (putCells id 0 (flatK enc k dk) cur) E (0,0)):=by
 have eC:=(bS.1 hg).1
 have e:(putRowK enc k (Sort.ahead w n) gb 0 dk).heap[gb]?=some (.cells (putCells id 0 (flatK enc k dk) cur) E (0,0)):=by
  simp only[putRowK,putRow,mapBlock,Sort.ahead,eS,if_true,hg,cg];rfl
 simp only[sortWorldK,grow];rw[lr (by have:=(bS.1 e).1;exact this)];exact e
theorem kZ{α:Type}[Inhabited α]{enc:α→List Value}{k n gb:Nat}{w:World}{dk:Array α}{os:Array Obj}:
  w.grownBy (sortWorldK enc k w gb 0 n dk os) (some gb):=by
 have hs:(putRowK enc k (Sort.ahead w n) gb 0 dk).heap.size=w.heap.size:=by rw[putRowK,Go.Sort.size_putRow];rfl
 refine⟨rfl,rfl,rfl,?_,fun j hj js=>?_⟩
 ·simp only[sortWorldK,grow,jr,hs];omega
 ·have qR:¬ gb=j:=fun e=>js (by rw[e]);simp only[sortWorldK,grow];rw[lr (by rw[hs];exact hj)];simp only[putRowK,putRow,mapBlock,Sort.ahead,eS,if_neg qR]
theorem VR.bare{P:Program}{B:Nat}{w0 w W:World}{σ:ah}{μ μ':Mem}{gb id:Nat}(hS:gM P B w0 w σ μ){o:Ob}(ho:σ[id]?=some o)(hw:∀ off,o.Yk off)(hb:iT (μ id)=some gb)(hg:w.grownBy W (some gb)){x:V}{v:Value}(h:VR w σ μ x v)(hp:x.pure=true):
  VR W [] μ' x v:=by
 have hc:∀ b off u,w.cell? ⟨b,off,none⟩=some u→¬ wr σ μ b off→W.cell? ⟨b,off,none⟩=some u:=by
  intro b off u h1 h2;refine hg.cell h1 fun e=>h2 ⟨id,o,ho,?_,hw off⟩;rw[hb];exact e.symm
 induction h with
 | b x=>exact .b x
 | i k n=>exact .i k n
 | s l x hl hm=>exact .s l x hl hm
 | zY sz=>exact .zY sz
 | sle sz a=>exact .sle sz a
 | sl sz xs b o cap f hlen ku cm h1 hv ih =>
  exact .sl sz xs b o cap f hlen ku cm (fun i j x hx=>⟨hc _ _ _ (h1 i j x hx).1 (h1 i j x hx).2.1,by rintro⟨id,ob,h3,_⟩;simp at h3,(h1 i j x hx).2.2⟩) (fun i j x hx=>ih i j x hx (h1 i j x hx).2.2)
 | _=>simp[V.pure]at hp
theorem PC.Ov{P:Program}{f:Nat}{args:List V}{σ:ah}{id E sz by' g:Nat}{xs:List (List V)}{R:List (List V)→Prop}(hb:σ[id]?=some (.row E sz by' g false xs))
  (h:∀ (B:Nat) (w0 w:World) (μ:Mem) (vs:Array Value),gM P B w0 w σ μ→Qw w σ μ args vs→Calls P f vs w fun e w'=>∃ xs' vals',R xs'∧xs'.length=xs.length∧e=.returned (.tuple #[])∧w.grownBy w' (iT (μ id))∧w'.ownsRow B E sz (μ id) xs'.length vals'∧jT w σ μ xs' sz vals') :
  PC P f args σ (fun r σ'=>∃ xs',R xs'∧r=.gZ []∧σ'=σ.set id (.row E sz by' g false xs')):=by
 intro B w0 w μ vs hS hv;refine(h B w0 w μ vs hS hv).mono ?_;rintro e w' ⟨xs',vals',hR,hl,rfl,hg,gf,cm⟩;have eC:id<σ.length:=(ab.1 hb).1
 have hn:=hS.update (w':=w') (σ':=σ.set id (.row E sz by' g false xs')) (μ':=μ) id (iT (μ id)) hg (fun b oE=>⟨_,hb,by simp,oE⟩) (by simp) (fun j hj=>aO (fun e=>hj e.symm)) (fun _ _=>rfl)
  (fun b oE=>.inl ⟨_,hb,by simp,oE⟩)
  (fun b off u o h1 _ h2 _ h4=>absurd ⟨id,o,h1,h2,by rw[hb]at h1;simp only[aa]at h1;subst h1;intro hf;simp at hf⟩ h4)
  (fun T cs h3=>by rw[hb]at h3;simp at h3)
  (fun K E es h3=>by rw[hb]at h3;simp at h3)
  (fun E2 sz2 by2 g2 sh2 xs2 _ h3=>by
   simp only[aq eC,aa,Ob.row.injEq]at h3;obtain⟨rfl,rfl,rfl,rfl,rfl,rfl⟩:=h3;exact⟨g,false,xs,hb,aw _,fun _=>⟨hl.symm,rfl⟩⟩)
  (fun hp o h3=>by
   simp only[aq eC,aa]at h3;subst h3;obtain⟨Kr,_⟩:=hS.obj id _ hb;exact⟨Kr,vals',gf,cm.eO hp.eO⟩)
 exact⟨.gZ [],.tuple #[],_,μ,rfl,⟨xs',hR,rfl,rfl⟩,hn.1,.gZ [] #[] rfl (by simp),hn.2.eO⟩
theorem PC.lays{P:Program}{B:Nat}{w0 w W:World}{σ:ah}{μ:Mem}(hS:gM P B w0 w σ μ){f gb:Nat}{args:List V}{vs:Array Value}{n:Int}(hB:B≤gb)(hg:w.grownBy W (some gb))(hv:Qw W [] (fun _=>undef) args vs)
  (h:PC P f args [] (fun r _=>r=.i .i64 n)):Calls P f vs W fun e w'=>e=.returned (.int .i64 n)∧∃ q os',w'=grow (W.drewN q) os':=by
 have W0:Laid P W.heap.size W:=by
  intro t ht g hn;obtain⟨h1,_⟩:=hS.below.laid t ht g hn;have h2:=hS.below.tab ht hn;have X6:g<w.heap.size:=dD h1 hS.base;refine⟨dD X6 hg.size,?_⟩;have hb:W.heap[g]?=w.heap[g]?:=hg.block g X6 (fun e=>by simp only[aa]at e;omega);unfold Lib.TabIs World.var? at h2 ⊢;simp only[hn,fY]at h2 ⊢;rw[hb];exact h2
 have Ue:gM P W.heap.size W W [] (fun _=>undef):=⟨⟨Below.refl _ _,W0⟩,aw _,fun id o ho=>by simp at ho,fun i j oi oj b hi=>by simp at hi⟩;refine(Calls.drawn (h _ _ _ _ _ Ue hv) (by rintro w' ⟨r,v,σ',μ',he,_⟩;cases he)).mono ?_;rintro e w' ⟨⟨r,v,σ',μ',rfl,rfl,hS',hv',_⟩,hd⟩;exact⟨by rw[hv'.gl],FA hS'.below.toBelow hd⟩
theorem PC.KR{P:Program}{ρ:Shelf.Ren}(L:SlLaysF0.n6 P ρ){k:Nat}(aE:∀ w,(isAgg (ρ.t 24)).run P w=.ok true w)(zE:∀ w,(Go.sizeOf (ρ.t 24)).run P w=.ok k w){α:Type}(cs:α→List V)(CC:∀ x,(cs x).length=k)(Ua:0<k)(cf:α→α→Int){cmp:Nat}
  (eg:∀ args w,(callFunc cmp args).run P w=.ok (.enter cmp args) w) (l:List α) (Zk:∀ x∈l,∀ y∈l,PC P cmp [.agg (cs x),.agg (cs y)] [] (fun r _=>r=.i .i64 (cf x y))) (hO:SWO (ltOf fun(i j:Fin l.length)=>cf l[i] l[j]))
  (hl:l.length<2^30) {σ:ah} {id g by':Nat} (h1:σ[id]?=some (.row (ρ.t 24) k by' g false (l.map cs))) :
  PC P (ρ.f 6) [.own id g,.fn cmp []] σ (fun r σ'=>∃ l':List α,l'.Perm l∧l'.Pairwise (fun x y=>¬ cf y x<0)∧r=.gZ []∧σ'=σ.set id (.row (ρ.t 24) k by' g false (l'.map cs))):=by
 refine PC.mono (PC.Ov (R:=fun xs'=>∃ l':List α,l'.Perm l∧l'.Pairwise (fun x y=>¬ cf y x<0)∧xs'=l'.map cs) h1 fun B w0 w μ vs hS hv=>?_) (by
  rintro r σ' ⟨xs',⟨l',h1,h2,rfl⟩,h3,h4⟩;exact⟨l',h1,h2,h3,h4⟩)
 have a0:=(hv.2 0 _ rfl).jY h1;have a1:=hv.2 1 _ rfl;obtain⟨_,vals,gf,cm⟩:=hS.obj id _ h1;have Fs:(l.map cs).length=l.length:=ae ..
 have e:vs=#[μ id,.func (.func cmp) #[] #[]]:=by
  obtain⟨q⟩:=vs
  match q,hv.1 with
  | [u,v],_ =>
   simp at a0 a1;cases a1 with
   | fn _ _ fs Y3 _ =>
    obtain rfl:fs=#[]:=by apply NK;simpa using Y3.symm
    rw[a0]
 rw[e];rw[Fs]at gf;have Me:vals.length=l.length*k:=gf.1;have o1:=jT.one hS cm (by rw[Fs];exact Me)
 by_cases h0:l.length=0
 ·have SX:l=[]:=bq h0;have hvn:vals=[]:=bq (by rw[Me,h0,Nat.zero_mul])
  have hm:∃ p cap,μ id=.slice p 0 cap:=by
   rcases gf.2 with⟨h,_⟩ | ⟨gb,cap,cur,h,_⟩
   ·exact⟨_,_,h⟩
   ·rw[h0]at h;exact⟨_,_,h⟩
  obtain⟨p,cap,hm⟩:=hm;rw[hm];refine(AnyF.slices_SortFunc_none { L with } p cap _ w).mono ?_;rintro e w' ⟨rfl,rfl⟩;refine⟨[],[],⟨[],by rw[SX],.nil,rfl⟩,by simp[SX],rfl,grownBy_refl _ _,?_,?_⟩
  ·rw[← hm];rw[hvn,h0]at gf;exact gf
  ·exact⟨by simp,fun i j x hx=>by simp[ft]at hx⟩
 have JM:0<l.length:=Nat.pos_of_ne_zero h0;rcases gf.2 with⟨_,hn⟩ | ⟨gb,cap,cur,s6,hB,hg,H8,zr,mq,Ib⟩
 ·omega
 haveI:Inhabited (Fin l.length):=⟨⟨0,JM⟩⟩
 have hmul:∀ (i:Fin l.length) (j:Nat),j<k→i.1*k+j<l.length*k:=fun i j hj=>by
  have:(i.1+1)*k≤l.length*k:=bl _ i.2;rw[Nat.add_mul,fA]at this;omega
 have S3:∀ i:Fin l.length,((vals.drop (i*k)).take k).length=k:=fun i=>by
  rw[ba,bB,Me];have:(i.1+1)*k≤l.length*k:=bl _ i.2;rw[Nat.add_mul,fA]at this;omega
 have er:∀ (i:Fin l.length) (j:Nat),j<k→((vals.drop (i*k)).take k)[j]?=vals[i*k+j]?:=fun i j hj=>by
  rw[bn hj,dp]
 have pq:∀ (i:Fin l.length) (j:Nat) (x:V),(cs l[i])[j]?=some x→x.pure=true∧∃ u,((vals.drop (i*k)).take k)[j]?=some u∧VR w σ μ x u:=fun i j x hx=>by
  have hj:j<k:=by
   have:=(ab.1 hx).1
   rwa [CC]at this
  have h2:ft (l.map cs) i j=some x:=by
   simp only[ft,bg,ao i.2,cg,fY];exact hx
  obtain⟨q1,u,q2,q3⟩:=cm.2 _ _ _ h2;exact⟨q1,u,by rw[er i j hj];exact q2,q3⟩
 generalize Xa:(fun i:Fin l.length=>(vals.drop (i*k)).take k)=enc;have Xb:∀ i,enc i=(vals.drop (i*k)).take k:=fun i=>by rw[← Xa]
 have Q4:(List.finRange l.length).toArray.size=l.length:=by simp
 have hdg:∀ j (h:j<l.length),(List.finRange l.length).toArray[j]! = ⟨j,h⟩:=fun j h=>by
  rw[getElem!_pos _ j (by rw[Q4];exact h)];simp
 have Q2:∀ (d:Array (Fin l.length)) (t:Nat),d.size=l.length→t<l.length*k→(flatK enc k d)[t]?=vals[(d[t / k]!).1*k+t % k]?:=fun d t hd ht=>by
  have h1:t<(flatK enc k d).size:=by rw[size_flatK,hd];exact ht
  have h2:=get_flatK enc k d t (by rw[hd];exact ht);have hm:t % k<k:=sf _ Ua;rw[getElem!_pos _ t h1]at h2;rw[Array.getElem?_eq_getElem h1,h2,Xb,← er _ _ hm];rw[getElem!_pos _ (t % k) (by rw[S3];exact hm),ao]
 have hH:HoldsK enc k w gb 0 (List.finRange l.length).toArray:=fun t ht=>by
  rw[size_flatK,Q4]at ht;have h1:=Q2 (List.finRange l.length).toArray t Q4 ht;have hq:t / k<l.length:=ll (by rw[fL];exact ht);rw[hdg _ hq]at h1;have e2:t / k*k+t % k=t:=by rw[fL];exact Qy t k
  simp only[e2]at h1;have h3:t<(flatK enc k (List.finRange l.length).toArray).size:=by rw[size_flatK,Q4];exact ht
  have h4:cur.toList[t]?=vals[t]?:=by rw[← Ib,bn ht]
  refine⟨?_,by simp[World.frozen?,hg]⟩;simp only[World.cell?,hg,aI,id_eq];rw[getElem!_pos _ t h3,← Array.getElem?_eq_getElem h3,h1,← h4];simp
 have hblk:iT (μ id)=some gb:=by rw[s6];rfl
 have Ue:=AnyQ.slices_SortFunc L k aE zE enc (fun i=>by rw[Xb];exact S3 i) (fun i v hv=>o1 v (by rw[Xb]at hv;exact ff (dd hv))) (fun i j=>cf l[i] l[j]) hO cmp #[] gb 0 cap (List.finRange l.length).toArray w
  eg
  (fun m os dk _ x y=>by
   rw[Array.append_empty];refine PC.lays hS hB kZ ⟨rfl,fun i z hz=>?_⟩ (Zk l[x] (dj _) l[y] (dj _))
   have agg:∀ q:Fin l.length,VR (sortWorldK enc k w gb 0 m dk os) [] (fun _=>undef) (.agg (cs l[q])) (.agg (enc q).toArray):=fun q=>by
    refine .agg _ _ (by rw[eu,Xb,S3,CC]) fun i z hz=>?_;obtain⟨q1,u,q2,q3⟩:=pq q i z hz;rw[Xb]
    have:((vals.drop (q*k)).take k).toArray.getD i undef=u:=by
     simp only[bm,kN,q2,lI]
    rw[this];exact VR.bare hS h1 (fun off h=>by simp at h) hblk kZ q3 q1
   rcases i with _ | _ | i
   ·simp only[ax,aa]at hz;subst hz;exact agg x
   ·simp only[aI,cc,ax,aa]at hz;subst hz;exact agg y
   ·simp at hz) hH (bS.1 hg).1 (by rw[Q4];omega)
 rw[Q4,← s6]at Ue;refine Ue.mono ?_;rintro e w' ⟨rfl,d',n,os,ED,WD,rfl⟩;have hd's:d'.size=l.length:=by have:=ED.1;rw[Q4]at this;exact this
 have zk:d'.toList.Perm (List.finRange l.length):=by
  have h1:=ED.2.2
  have e1:d'.extract 0 l.length=d':=by
   have:=Array.extract_size (xs:=d')
   rwa [hd's]at this
  have e2:(List.finRange l.length).toArray.extract 0 l.length=(List.finRange l.length).toArray:=by
   have:=Array.extract_size (xs:=(List.finRange l.length).toArray)
   rwa [Q4]at this
  rw[e1,e2]at h1;simpa using h1
 have vZ:(flatK enc k d').size=l.length*k:=by rw[size_flatK,hd's]
 have hlen':((d'.toList.map fun i=>l[i]).map cs).length=l.length:=by rw[ae,ae,aL,hd's]
 refine⟨_,(flatK enc k d').toList,⟨d'.toList.map fun i=>l[i],?_,?_,rfl⟩,by rw[hlen',Fs],rfl,by rw[hblk];exact kZ,⟨by rw[hlen',aL,vZ],.inr ⟨gb,cap,putCells _root_.id 0 (flatK enc k d') cur,by rw[hlen',s6],hB,vL hg,by rw[hlen'];exact H8,zr,?_,?_⟩⟩,?_,?_⟩
 ·refine(zk.map _).trans (List.Perm.of_eq ?_);apply iw;intro i;rw[bg]
  by_cases hi:i<l.length
  ·simp[hi]
  ·rw[bo (by simpa using Nat.le_of_not_lt hi),bo (by omega)];rfl
 ·refine List.pairwise_map.2 (tC.2 fun i j hi hj yI=>?_);rw[aL]at hi hj;have:=WD i j (gF _) yI (by rw[← hd's];exact hj);rw[getElem!_pos _ i hi,getElem!_pos _ j hj]at this;simp only[ltOf,decide_eq_false_iff_not]at this;simpa using this
 ·simp[putCells,mq]
 ·rw[hlen'];apply iw;intro t
  by_cases ht:t<l.length*k
  ·rw[bn ht];have h3:t<(flatK enc k d').size:=by rw[vZ];exact ht
   have h4:t<cur.size:=by rw[mq];have:=bl k H8;omega
   simp only[putCells,zP,Array.getElem?_mapIdx,Array.getElem?_eq_getElem h4,cg,gF,true_and,aI,if_pos h3,yE,id_eq];rw[getElem!_pos _ t h3,Array.getElem?_eq_getElem h3]
  ·rw[bo (by rw[ba];omega),bo (by rw[aL,vZ];omega)]
 ·intro r hr;obtain⟨x,_,rfl⟩:=dI.1 hr;exact CC x
 ·intro i j x hx;obtain⟨r,hr,hj⟩:=ib hx;rw[bg,bg]at hr;simp only[ak]at hr;obtain⟨o,⟨q,hq,rfl⟩,rfl⟩:=hr;obtain⟨q1,u,q2,q3⟩:=pq q j x hj
  have NO:j<k:=by
   have:=(ab.1 hj).1
   rwa [CC]at this
  have pC:i<l.length:=by
   have:=(ab.1 hq).1
   rwa [aL,hd's]at this
  refine⟨q1,u,?_,q3⟩;have hdiv:(i*k+j) / k=i:=by rw[fL,Nat.mul_add_div Ua,Nat.div_eq_of_lt NO,cn]
  have Ms:(i*k+j) % k=j:=by rw[fL,Nat.mul_add_mod,wg NO]
  rw[zP,Q2 d' (i*k+j) hd's (hmul ⟨i,pC⟩ j NO),hdiv,Ms,← er _ j NO]
  have zq:d'[i]! = q:=by
   rw[getElem!_pos _ i (by rw[hd's];exact pC)];rw[zP,Array.getElem?_eq_getElem (by rw[hd's];exact pC)]at hq;simpa using hq
  rw[zq];exact q2
end Go.Pm

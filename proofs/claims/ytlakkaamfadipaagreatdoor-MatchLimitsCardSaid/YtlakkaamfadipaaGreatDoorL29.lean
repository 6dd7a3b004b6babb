/- A part of a proof; the claim's last text says of what. -/
import Derived.Shelf.SlSortCmp.NoneTotal
import Derived.Test.YtlakkaamfadipaaGreatDoorL1
import Derived.Test.YtlakkaamfadipaaGreatDoorL25
set_option linter.all false

namespace Go.Pm
open Go Go.RowKit Go.Sort Go.Proofs
theorem DR{W w':World}(h:Below W.heap.size W w')(hd:W.drawn≤w'.drawn):∃ q os',w'=grow (W.drewN q) os':=by
 refine⟨w'.drawn - W.drawn,w'.heap.extract W.heap.size w'.heap.size,?_⟩
 have hh:w'.heap=W.heap++w'.heap.extract W.heap.size w'.heap.size:=by
  apply Fm;intro i;rw[Array.getElem?_append];split
  ·exact h.block i ‹_›
  ·have:=h.size;rw[Array.getElem?_extract];split
   ·congr 1;omega
   ·rw[ju (by omega)]
 have e1:=h.os;have e2:=h.tape;have e3:=h.output;obtain⟨hp,tp,dr,os,out⟩:=w';simp only at hh e1 e2 e3 hd ⊢;subst e1 e2 e3;simp only[grow,World.drewN,← hh];congr 1;omega
theorem uw{α:Type}[Inhabited α]{enc:α→List Value}{k n gb E:Nat}{w:World}{cur:Array Value}{dk:Array α}{os:Array Obj}(hg:w.heap[gb]?=some (.cells cur E (0,0))):
  (sortWorldK enc k w gb 0 n dk os).heap[gb]?=some (.cells (putCells id 0 (flatK enc k dk) cur) E (0,0)):=by
 have cM:=(aN.1 hg).1
 have e:(putRowK enc k (Sort.ahead w n) gb 0 dk).heap[gb]?=some (.cells (putCells id 0 (flatK enc k dk) cur) E (0,0)):=by
  simp only[putRowK,putRow,mapBlock,Sort.ahead,bH,aR,hg,bL];rfl
 simp only[sortWorldK,grow];rw[fv (by have:=(aN.1 e).1;exact this)];exact e
theorem kj{α:Type}[Inhabited α]{enc:α→List Value}{k n gb:Nat}{w:World}{dk:Array α}{os:Array Obj}:
  w.grownBy (sortWorldK enc k w gb 0 n dk os) (some gb):=by
 have hs:(putRowK enc k (Sort.ahead w n) gb 0 dk).heap.size=w.heap.size:=by rw[putRowK,Go.Sort.size_putRow];rfl
 refine⟨rfl,rfl,rfl,?_,fun j hj gr=>?_⟩
 ·simp only[sortWorldK,grow,jW,hs];omega
 ·have ny:¬ gb=j:=fun e=>gr (by rw[e]);simp only[sortWorldK,grow];rw[fv (by rw[hs];exact hj)];simp only[putRowK,putRow,mapBlock,Sort.ahead,bH,aC ny]
theorem VR.bare{P:Program}{B:Nat}{w0 w W:World}{J:ae}{μ μ':Mem}{gb id:Nat}(hS:fe P B w0 w J μ){o:Ob}(ho:J[id]?=some o)(hw:∀ off,o.WT off)(hb:fR (μ id)=some gb)(hg:w.grownBy W (some gb)){x:V}{v:Value}(h:VR w J μ x v)(hp:x.pure=true):
  VR W [] μ' x v:=by
 have hc:∀ b off u,w.cell? ⟨b,off,none⟩=some u→¬ wr J μ b off→W.cell? ⟨b,off,none⟩=some u:=by
  intro b off u h1 h2;refine hg.cell h1 fun e=>h2 ⟨id,o,ho,?_,hw off⟩;rw[hb];exact e.symm
 induction h with
 | b x=>exact .b x
 | i k n=>exact .i k n
 | s l x hl hm=>exact .s l x hl hm
 | yK sz=>exact .yK sz
 | sle sz a=>exact .sle sz a
 | sl sz xs b o cap f hlen jL bT h1 hv ih =>
  exact .sl sz xs b o cap f hlen jL bT (fun i j x hx=>⟨hc _ _ _ (h1 i j x hx).1 (h1 i j x hx).2.1,by rintro⟨id,ob,h3,_⟩;simp at h3,(h1 i j x hx).2.2⟩) (fun i j x hx=>ih i j x hx (h1 i j x hx).2.2)
 | _=>simp[V.pure]at hp
theorem PC.MX{P:Program}{f:Nat}{args:List V}{J:ae}{id E sz by' g:Nat}{xs:List (List V)}{R:List (List V)→Prop}(hb:J[id]?=some (.row E sz by' g false xs))
  (h:∀ (B:Nat) (w0 w:World) (μ:Mem) (vs:Array Value),fe P B w0 w J μ→Mp w J μ args vs→Calls P f vs w fun e w'=>∃ xs' vals',R xs'∧xs'.length=xs.length∧e=.returned (.tuple #[])∧w.grownBy w' (fR (μ id))∧w'.ownsRow B E sz (μ id) xs'.length vals'∧gR w J μ xs' sz vals') :
  PC P f args J (fun r J'=>∃ xs',R xs'∧r=.fa []∧J'=J.set id (.row E sz by' g false xs')):=by
 intro B w0 w μ vs hS hv;refine(h B w0 w μ vs hS hv).mono ?_;rintro e w' ⟨xs',vals',hR,hl,rfl,hg,eu,bT⟩;have cM:id<J.length:=(ab.1 hb).1
 have hn:=hS.update (w':=w') (J':=J.set id (.row E sz by' g false xs')) (μ':=μ) id (fR (μ id)) hg (fun b iX=>⟨_,hb,by simp,iX⟩) (by simp) (fun j hj=>ay (fun e=>hj e.symm)) (fun _ _=>rfl)
  (fun b iX=>.inl ⟨_,hb,by simp,iX⟩)
  (fun b off u o h1 _ h2 _ h4=>absurd ⟨id,o,h1,h2,by rw[hb]at h1;simp only[aa]at h1;subst h1;intro hf;simp at hf⟩ h4)
  (fun T cs h3=>by rw[hb]at h3;simp at h3)
  (fun K E es h3=>by rw[hb]at h3;simp at h3)
  (fun E2 sz2 by2 g2 sh2 xs2 _ h3=>by
   simp only[ak cM,aa,Ob.row.injEq]at h3;obtain⟨rfl,rfl,rfl,rfl,rfl,rfl⟩:=h3;exact⟨g,false,xs,hb,aq _,fun _=>⟨hl.symm,rfl⟩⟩)
  (fun hp o h3=>by
   simp only[ak cM,aa]at h3;subst h3;obtain⟨Gq,_⟩:=hS.obj id _ hb;exact⟨Gq,vals',eu,bT.dY hp.dY⟩)
 exact⟨.fa [],.tuple #[],_,μ,rfl,⟨xs',hR,rfl,rfl⟩,hn.1,.fa [] #[] rfl (by simp),hn.2.dY⟩
theorem PC.lays{P:Program}{B:Nat}{w0 w W:World}{J:ae}{μ:Mem}(hS:fe P B w0 w J μ){f gb:Nat}{args:List V}{vs:Array Value}{n:Int}(hB:B≤gb)(hg:w.grownBy W (some gb))(hv:Mp W [] (fun _=>undef) args vs)
  (h:PC P f args [] (fun r _=>r=.i .i64 n)):Calls P f vs W fun e w'=>e=.returned (.int .i64 n)∧∃ q os',w'=grow (W.drewN q) os':=by
 have Vb:Laid P W.heap.size W:=by
  intro t ht g hn;obtain⟨h1,_⟩:=hS.below.laid t ht g hn;have h2:=hS.below.tab ht hn;have Wv:g<w.heap.size:=cu h1 hS.base;refine⟨cu Wv hg.size,?_⟩;have hb:W.heap[g]?=w.heap[g]?:=hg.block g Wv (fun e=>by simp only[aa]at e;omega);unfold Lib.TabIs World.var? at h2 ⊢;simp only[hn,ey]at h2 ⊢;rw[hb];exact h2
 have WE:fe P W.heap.size W W [] (fun _=>undef):=⟨⟨Below.refl _ _,Vb⟩,aq _,fun id o ho=>by simp at ho,fun i j oi oj b hi=>by simp at hi⟩;refine(Calls.drawn (h _ _ _ _ _ WE hv) (by rintro w' ⟨r,v,J',μ',he,_⟩;cases he)).mono ?_;rintro e w' ⟨⟨r,v,J',μ',rfl,rfl,hS',hv',_⟩,hd⟩;exact⟨by rw[hv'.dI],DR hS'.below.toBelow hd⟩
theorem PC.yI{P:Program}{ρ:Shelf.Ren}(L:SlLaysF0.n6 P ρ){k:Nat}(aE:∀ w,(isAgg (ρ.t 24)).run P w=.ok true w)(zE:∀ w,(Go.sizeOf (ρ.t 24)).run P w=.ok k w){α:Type}(cs:α→List V)(ta:∀ x,(cs x).length=k)(Ij:0<k)(cf:α→α→Int){cmp:Nat}
  (eg:∀ args w,(callFunc cmp args).run P w=.ok (.enter cmp args) w) (l:List α) {J:ae} {id g by':Nat} {caps:List V}
  (Q7:∀ (B:Nat) (w0 w:World) (μ:Mem) (cb:Array Value),fe P B w0 w J μ→caps.length=cb.size→(∀ i x,caps[i]?=some x→VR w J μ x (cb.getD i undef))→∀ (W:World) (gb:Nat),B≤gb→fR (μ id)=some gb→w.grownBy W (some gb) →
   ∀ x∈l,∀ y∈l,∀ vx vy:Value,VR W [] (fun _=>undef) (.agg (cs x)) vx→VR W [] (fun _=>undef) (.agg (cs y)) vy→Calls P cmp (#[vx,vy]++cb) W fun e w'=>e=.returned (.int .i64 (cf x y))∧∃ q os',w'=grow (W.drewN q) os')
  (hO:SWO (ltOf fun(i j:Fin l.length)=>cf l[i] l[j]))
  (hl:l.length<2^30) (h1:J[id]?=some (.row (ρ.t 24) k by' g false (l.map cs))) :
  PC P (ρ.f 6) [.own id g,.fn cmp caps] J (fun r J'=>∃ l':List α,l'.Perm l∧l'.Pairwise (fun x y=>¬ cf y x<0)∧r=.fa []∧J'=J.set id (.row (ρ.t 24) k by' g false (l'.map cs))):=by
 refine PC.mono (PC.MX (R:=fun xs'=>∃ l':List α,l'.Perm l∧l'.Pairwise (fun x y=>¬ cf y x<0)∧xs'=l'.map cs) h1 fun B w0 w μ vs hS hv=>?_) (by
  rintro r J' ⟨xs',⟨l',h1,h2,rfl⟩,h3,h4⟩;exact⟨l',h1,h2,h3,h4⟩)
 have a0:=(hv.2 0 _ rfl).iL h1;have a1:=hv.2 1 _ rfl;obtain⟨_,vals,eu,bT⟩:=hS.obj id _ h1;have DH:(l.map cs).length=l.length:=aj ..
 obtain⟨cb,e,bz,YH⟩:∃ cb:Array Value,vs=#[μ id,.func (.func cmp) #[] cb]∧caps.length=cb.size∧∀ i x,caps[i]?=some x→VR w J μ x (cb.getD i undef):=by
  obtain⟨q⟩:=vs
  match q,hv.1 with
  | [u,v],_ =>
   simp at a0 a1;cases a1 with
   | fn _ _ fs Yr hvf=>exact⟨fs,by rw[a0],Yr,hvf⟩
 rw[e];rw[DH]at eu;have I0:vals.length=l.length*k:=eu.1;have o1:=gR.one hS bT (by rw[DH];exact I0)
 by_cases h0:l.length=0
 ·have Mg:l=[]:=aD h0;have XP:vals=[]:=aD (by rw[I0,h0,Nat.zero_mul])
  have hm:∃ p cap,μ id=.slice p 0 cap:=by
   rcases eu.2 with⟨h,_⟩ | ⟨gb,cap,cur,h,_⟩
   ·exact⟨_,_,h⟩
   ·rw[h0]at h;exact⟨_,_,h⟩
  obtain⟨p,cap,hm⟩:=hm;rw[hm];refine(AnyF.slices_SortFunc_none { L with } p cap _ w).mono ?_;rintro e w' ⟨rfl,rfl⟩;refine⟨[],[],⟨[],by rw[Mg],.nil,rfl⟩,by simp[Mg],rfl,grownBy_refl _ _,?_,?_⟩
  ·rw[← hm];rw[XP,h0]at eu;exact eu
  ·exact⟨by simp,fun i j x hx=>by simp[eV]at hx⟩
 have KG:0<l.length:=Nat.pos_of_ne_zero h0;rcases eu.2 with⟨_,hn⟩ | ⟨gb,cap,cur,jX,hB,hg,CQ,wI,kN,Bq⟩
 ·omega
 haveI:Inhabited (Fin l.length):=⟨⟨0,KG⟩⟩
 have hmul:∀ (i:Fin l.length) (j:Nat),j<k→i.1*k+j<l.length*k:=fun i j hj=>by
  have:(i.1+1)*k≤l.length*k:=aY _ i.2;rw[bO,eG]at this;omega
 have Q6:∀ i:Fin l.length,((vals.drop (i*k)).take k).length=k:=fun i=>by
  rw[ba,bJ,I0];have:(i.1+1)*k≤l.length*k:=aY _ i.2;rw[bO,eG]at this;omega
 have eJ:∀ (i:Fin l.length) (j:Nat),j<k→((vals.drop (i*k)).take k)[j]?=vals[i*k+j]?:=fun i j hj=>by
  rw[aU hj,cv]
 have qd:∀ (i:Fin l.length) (j:Nat) (x:V),(cs l[i])[j]?=some x→x.pure=true∧∃ u,((vals.drop (i*k)).take k)[j]?=some u∧VR w J μ x u:=fun i j x hx=>by
  have hj:j<k:=by
   have:=(ab.1 hx).1
   rwa [ta]at this
  have h2:eV (l.map cs) i j=some x:=by
   simp only[eV,aW,an i.2,bL,ey];exact hx
  obtain⟨q1,u,q2,q3⟩:=bT.2 _ _ _ h2;exact⟨q1,u,by rw[eJ i j hj];exact q2,q3⟩
 generalize Vq:(fun i:Fin l.length=>(vals.drop (i*k)).take k)=enc;have PG:∀ i,enc i=(vals.drop (i*k)).take k:=fun i=>by rw[← Vq]
 have PI:(List.finRange l.length).toArray.size=l.length:=by simp
 have hdg:∀ j (h:j<l.length),(List.finRange l.length).toArray[j]! = ⟨j,h⟩:=fun j h=>by
  rw[getElem!_pos _ j (by rw[PI];exact h)];simp
 have PD:∀ (d:Array (Fin l.length)) (t:Nat),d.size=l.length→t<l.length*k→(flatK enc k d)[t]?=vals[(d[t / k]!).1*k+t % k]?:=fun d t hd ht=>by
  have h1:t<(flatK enc k d).size:=by rw[size_flatK,hd];exact ht
  have h2:=get_flatK enc k d t (by rw[hd];exact ht);have hm:t % k<k:=qN _ Ij;rw[getElem!_pos _ t h1]at h2;rw[aS h1,h2,PG,← eJ _ _ hm];rw[getElem!_pos _ (t % k) (by rw[Q6];exact hm),an]
 have hH:HoldsK enc k w gb 0 (List.finRange l.length).toArray:=fun t ht=>by
  rw[size_flatK,PI]at ht;have h1:=PD (List.finRange l.length).toArray t PI ht;have hq:t / k<l.length:=kE (by rw[eR];exact ht);rw[hdg _ hq]at h1;have e2:t / k*k+t % k=t:=by rw[eR];exact O5 t k
  simp only[e2]at h1;have h3:t<(flatK enc k (List.finRange l.length).toArray).size:=by rw[size_flatK,PI];exact ht
  have h4:cur.toList[t]?=vals[t]?:=by rw[← Bq,aU ht]
  refine⟨?_,by simp[World.frozen?,hg]⟩;simp only[World.cell?,hg,bj,id_eq];rw[getElem!_pos _ t h3,← Array.getElem?_eq_getElem h3,h1,← h4];simp
 have hblk:fR (μ id)=some gb:=by rw[jX];rfl
 have WE:=AnyQ.slices_SortFunc L k aE zE enc (fun i=>by rw[PG];exact Q6 i) (fun i v hv=>o1 v (by rw[PG]at hv;exact dh (df hv))) (fun i j=>cf l[i] l[j]) hO cmp cb gb 0 cap (List.finRange l.length).toArray w
  eg
  (fun m os dk _ x y=>by
   have agg:∀ q:Fin l.length,VR (sortWorldK enc k w gb 0 m dk os) [] (fun _=>undef) (.agg (cs l[q])) (.agg (enc q).toArray):=fun q=>by
    refine .agg _ _ (by rw[de,PG,Q6,ta]) fun i z hz=>?_;obtain⟨q1,u,q2,q3⟩:=qd q i z hz;rw[PG]
    have:((vals.drop (q*k)).take k).toArray.getD i undef=u:=by
     simp only[aZ,jT,q2,eW]
    rw[this];exact VR.bare hS h1 (fun off h=>by simp at h) hblk kj q3 q1
   exact Q7 B w0 w μ cb hS bz YH _ gb hB hblk kj l[x] (cg _) l[y] (cg _) _ _ (agg x) (agg y)) hH (aN.1 hg).1 (by rw[PI];omega)
 rw[PI,← jX]at WE;refine WE.mono ?_;rintro e w' ⟨rfl,d',n,os,qb,UR,rfl⟩;have hd's:d'.size=l.length:=by have:=qb.1;rw[PI]at this;exact this
 have uC:d'.toList.Perm (List.finRange l.length):=by
  have h1:=qb.2.2
  have e1:d'.extract 0 l.length=d':=by
   have:=Array.extract_size (xs:=d')
   rwa [hd's]at this
  have e2:(List.finRange l.length).toArray.extract 0 l.length=(List.finRange l.length).toArray:=by
   have:=Array.extract_size (xs:=(List.finRange l.length).toArray)
   rwa [PI]at this
  rw[e1,e2]at h1;simpa using h1
 have si:(flatK enc k d').size=l.length*k:=by rw[size_flatK,hd's]
 have hlen':((d'.toList.map fun i=>l[i]).map cs).length=l.length:=by rw[aj,aj,aF,hd's]
 refine⟨_,(flatK enc k d').toList,⟨d'.toList.map fun i=>l[i],?_,?_,rfl⟩,by rw[hlen',DH],rfl,by rw[hblk];exact kj,⟨by rw[hlen',aF,si],.inr ⟨gb,cap,putCells _root_.id 0 (flatK enc k d') cur,by rw[hlen',jX],hB,uw hg,by rw[hlen'];exact CQ,wI,?_,?_⟩⟩,?_,?_⟩
 ·refine(uC.map _).trans (List.Perm.of_eq ?_);apply gd;intro i;rw[aW]
  by_cases hi:i<l.length
  ·simp[hi]
  ·rw[a7 (by simpa using L6 hi),a7 (by omega)];rfl
 ·refine sk.2 (sb.2 fun i j hi hj DI=>?_);rw[aF]at hi hj;have:=UR i j (eX _) DI (by rw[← hd's];exact hj);rw[getElem!_pos _ i hi,getElem!_pos _ j hj]at this;simp only[ltOf,dx]at this;simpa using this
 ·simp[putCells,kN]
 ·rw[hlen'];apply gd;intro t
  by_cases ht:t<l.length*k
  ·rw[aU ht];have h3:t<(flatK enc k d').size:=by rw[si];exact ht
   have h4:t<cur.size:=by rw[kN];have:=aY k CQ;omega
   simp only[putCells,gW,yt,aS h4,bL,eX,jD,bj,aQ h3,pU,id_eq];rw[getElem!_pos _ t h3,aS h3]
  ·rw[a7 (by rw[ba];omega),a7 (by rw[aF,si];omega)]
 ·intro r hr;obtain⟨x,_,rfl⟩:=aT.1 hr;exact ta x
 ·intro i j x hx;obtain⟨r,hr,hj⟩:=eP hx;rw[aW,aW]at hr;simp only[ah]at hr;obtain⟨o,⟨q,hq,rfl⟩,rfl⟩:=hr;obtain⟨q1,u,q2,q3⟩:=qd q j x hj
  have Gm:j<k:=by
   have:=(ab.1 hj).1
   rwa [ta]at this
  have u5:i<l.length:=by
   have:=(ab.1 hq).1
   rwa [aF,hd's]at this
  refine⟨q1,u,?_,q3⟩;have hdiv:(i*k+j) / k=i:=by rw[eR,Nat.mul_add_div Ij,Nat.div_eq_of_lt Gm,eA]
  have KN:(i*k+j) % k=j:=by rw[eR,Nat.mul_add_mod,uO Gm]
  rw[gW,PD d' (i*k+j) hd's (hmul ⟨i,u5⟩ j Gm),hdiv,KN,← eJ _ j Gm]
  have Mi:d'[i]! = q:=by
   rw[getElem!_pos _ i (by rw[hd's];exact u5)];rw[gW,aS (by rw[hd's];exact u5)]at hq;simpa using hq
  rw[Mi];exact q2
theorem PC.Jy{P:Program}{ρ:Shelf.Ren}(L:SlLaysF0.n6 P ρ){k:Nat}(aE:∀ w,(isAgg (ρ.t 24)).run P w=.ok true w)(zE:∀ w,(Go.sizeOf (ρ.t 24)).run P w=.ok k w){α:Type}(cs:α→List V)(ta:∀ x,(cs x).length=k)(Ij:0<k)(cf:α→α→Int){cmp:Nat}
  (eg:∀ args w,(callFunc cmp args).run P w=.ok (.enter cmp args) w) (l:List α) (Q7:∀ x∈l,∀ y∈l,PC P cmp [.agg (cs x),.agg (cs y)] [] (fun r _=>r=.i .i64 (cf x y))) (hO:SWO (ltOf fun(i j:Fin l.length)=>cf l[i] l[j]))
  (hl:l.length<2^30) {J:ae} {id g by':Nat} (h1:J[id]?=some (.row (ρ.t 24) k by' g false (l.map cs))) :
  PC P (ρ.f 6) [.own id g,.fn cmp []] J (fun r J'=>∃ l':List α,l'.Perm l∧l'.Pairwise (fun x y=>¬ cf y x<0)∧r=.fa []∧J'=J.set id (.row (ρ.t 24) k by' g false (l'.map cs))) :=
 PC.yI L aE zE cs ta Ij cf eg l (fun B w0 w μ cb hS bz _ W gb hB hb hg x hx y hy vx vy h1 h2=>by
  obtain rfl:cb=#[]:=by apply od;simpa using bz.symm
  rw[Fp];refine PC.lays hS hB hg ⟨rfl,fun i z hz=>?_⟩ (Q7 x hx y hy);rcases i with _ | _ | i
  ·simp only[au,aa]at hz;subst hz;exact h1
  ·simp only[bj,bA,au,aa]at hz;subst hz;exact h2
  ·simp at hz) hO hl h1
end Go.Pm

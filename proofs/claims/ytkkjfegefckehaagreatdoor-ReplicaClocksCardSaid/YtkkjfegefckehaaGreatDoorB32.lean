/- A part of the proof of the statement of the last text of this claim; its conditions stand there. -/
import Derived.Test.YtkkjfegefckehaaGreatDoorB5
import Derived.Test.YtkkjfegefckehaaGreatDoorB16
import Derived.Test.YtkkjfegefckehaaGreatDoorB19
import Derived.Test.YtkkjfegefckehaaGreatDoorB22
set_option linter.all false

namespace Go.Proofs.Tryz
open Go Go.Pm Go.Bt Go.RowKit
theorem KB:(prog.info? 76).map (fun i=>(i.zero.map (fun z=>z.cells.size),i.size,i.bytes))=some (some 3,3,32):=by kernel_rfl
theorem Oq:(prog.info? 3).map (fun i=>(i.zero.map (fun z=>z.cells.size),i.size,i.bytes))=some (some 1,1,8):=by kernel_rfl
theorem R9{w:World}{σ:ag}{μ:Mem}{x:V}{v:Value}(h:VR w σ μ x v)(hp:x.pure=true):v.oneCell'=true:=by
 cases h<;>first | rfl | simp[V.pure]at hp
theorem UZ{w:World}{σ:ag}{μ:Mem}{sz:Nat}{rows:List (List V)}{v:Value}(gO:0<sz)(h:VR w σ μ (.sl sz rows) v):
  ((∃ a,v=.slice a 0 0)∧rows=[])∨∃ b o cap vals,v=.slice (some ⟨b,o,none⟩) rows.length cap∧rows.length≤maxLen∧vals.length=rows.length*sz∧(∀ j u,vals[j]?=some u→w.cell? ⟨b,o+j,none⟩=some u)∧(∀ u∈vals,u.oneCell'=true)∧mq w σ μ rows sz vals:=by
 generalize hx:V.sl sz rows=x at h;cases h with
 | yq sz' =>
  simp only[V.sl.injEq]at hx;exact .inl ⟨⟨_,rfl⟩,hx.2⟩
 | sle sz' a =>
  simp only[V.sl.injEq]at hx;exact .inl ⟨⟨_,rfl⟩,hx.2⟩
 | sl sz' xs b o cap f hlen nI cP hc hv =>
  simp only[V.sl.injEq]at hx;obtain⟨rfl,rfl⟩:=hx;refine .inr ⟨b,o,cap,(List.range (rows.length*sz)).map fun k=>f (k / sz) (k % sz),rfl,bZ hlen nI,by simp,fun j u hj=>?_,fun u hu=>?_,cP,fun i j x hx=>?_⟩
  ·rw[aZ,ar]at hj;obtain⟨k,hk,rfl⟩:=hj;have tK:=ae.1 hk;simp only[List.length_range,List.getElem_range]at tK;obtain⟨xO,rfl⟩:=tK;have hi:j / sz<rows.length:=om (by rw[jL];exact xO);have hm:j % sz<sz:=Nn _ gO;have hr:=cP rows[j / sz] (cK hi);have dY:fe rows (j / sz) (j % sz)=some (rows[j / sz][j % sz]'(by rw[hr];exact hm)):=by simp[fe,hi,hr,hm]
   have:=(hc _ _ _ dY).1
   rwa [Nat.add_assoc,Nat.div_add_mod']at this
  ·rw[bK]at hu;obtain⟨j,hj,rfl⟩:=hu;rw[dd]at hj;have hi:j / sz<rows.length:=om (by rw[jL];exact hj);have hm:j % sz<sz:=Nn _ gO;have hr:=cP rows[j / sz] (cK hi);have dY:fe rows (j / sz) (j % sz)=some (rows[j / sz][j % sz]'(by rw[hr];exact hm)):=by simp[fe,hi,hr,hm]
   exact R9 (hv _ _ _ dY) (hc _ _ _ dY).2.2
  ·have hp:=hc i j x hx
   have hi:i<rows.length∧j<sz:=by
    simp only[fe]at hx;cases hr:rows[i]? with
    | none=>rw[hr]at hx;simp at hx
    | some r =>
     rw[hr]at hx;have qB:=(ae.1 hr).1;have xO:=(ae.1 (show r[j]?=some x from hx)).1;rw[cP r (bh hr)]at xO;exact⟨qB,xO⟩
   refine⟨hp.2.2,f i j,?_,hv i j x hx⟩
   have fk:i*sz+j<rows.length*sz:=by
    have:(i+1)*sz≤rows.length*sz:=cA _ hi.1;rw[Nat.add_mul,oh]at this;omega
   rw[aZ,aw (by simpa using fk)];simp only[List.getElem_range,cU,aa];have e1:(i*sz+j) / sz=i:=by rw[jL,Nat.mul_add_div gO,Nat.div_eq_of_lt hi.2];rfl
   have e2:(i*sz+j) % sz=j:=by rw[jL,Nat.mul_add_mod,iG hi.2]
   rw[e1,e2]
 | _=>simp at hx
theorem sO{T n by':Nat}(h:(prog.info? T).map (fun i=>(i.zero.map (fun z=>z.cells.size),i.size,i.bytes))=some (some n,n,by')):∃ i z,prog.info? T=some i∧i.zero=some z∧i.size=n∧i.bytes=by'∧z.cells.size=n:=by
 cases hi:prog.info? T with
 | none=>rw[hi]at h;simp at h
 | some i =>
  rw[hi]at h;simp only[cU,aa,aI]at h;obtain⟨h1,h2,h3⟩:=h;cases hz:i.zero with
  | none=>rw[hz]at h1;simp at h1
  | some z =>
   rw[hz]at h1;simp only[cU,aa]at h1;exact⟨i,z,rfl,hz,h2,h3,h1⟩
set_option maxHeartbeats 2000000 in
set_option maxRecDepth 100000 in
theorem vi{P:Program}{ρ:Shelf.Ren}(L:SlLaysE0.n41 P ρ)(i0:TypeInfo)(z:Value)(size bytes:Nat)(hi:P.info? (ρ.t 23)=some i0)(hz0:i0.zero=some z)(hz1:i0.size=size)(hz2:i0.bytes=bytes)(qE:z.cells.size=size)(gO:0<size)
  (z23:∀ w,(Go.sizeOf (ρ.t 23)).run P w=.ok size w) (a:Addr) (w:World) :
  Calls P (ρ.f 41) #[.slice (some a) 0 0] w fun e w'=>∃ v',e=.returned v'∧w'.ownsRow w.heap.size (ρ.t 23) size v' 0 []∧Below w.heap.size w w':=by
 have mixed:=L.mixed;have t4:=L.t4;have a4:=L.a4;have z4:=L.z4;have v4:=L.v4;have t22:=L.t22;have a22:=L.a22;have z22:=L.z22;have v22:=L.v22;have q22:∀ (w:World) (a:Option Addr) (n c n' c':Nat),(binOp .eql (ρ.t 22) (.slice a n c) (.slice none n' c')).run P w=.ok (.bool a.isNone) w:=fun w a n c n' c'=>Lib.run_eql_slice_nil w _ _ a n c n' c' L.t22;have u22:∀ w,Sem.run P (underlying (ρ.t 22)) w=.ok (TypeDesc.slice (ρ.t 23)) w:=run_underlying t22;obtain⟨_,_,FG⟩:=L.f41
 go_enter FG,SlBodyN.n41_ntmps ρ
 go_wp2_with (at_builtin;refine wpList_append_own _ rfl _ _ (ρ.t 22) rfl w.heap.size (ρ.t 23) i0 z size bytes t22 hi hz0 hz1 hz2 qE gO _ _ _ rfl (World.ownsRow_made w #[] 0 (aB _) (iF _) (by simp)) a 0 0 [] rfl (by simp) (by simp) (by simp) (by simp) (by simp) (by simp) ?_)
 intro v' w1 gD aeX _
 go_wp2
 go_ret
 exact⟨v',rfl,by simpa using gD,((Below.refl _ w).alloc (aB _) _).grown aeX (by simp) (by intro k hk;simp[Value.ownBlock]at hk;omega)⟩
theorem D4{f E sz by':Nat}{rows:List (List V)}(gO:0<sz)(aeV:(prog.info? E).map (fun i=>(i.zero.map (fun z=>z.cells.size),i.size,i.bytes))=some (some sz,sz,by'))
  (hlen:rows.length*by'≤140737488355328)
  (Tc:∀ w,Calls prog f #[.slice none 0 0] w fun e w'=>e=.returned (.slice none 0 0)∧w'=w)
  (aiS:∀ (a:Addr) (w:World),Calls prog f #[.slice (some a) 0 0] w fun e w'=>∃ v',e=.returned v'∧w'.ownsRow w.heap.size E sz v' 0 []∧Below w.heap.size w w')
  (aew:∀ (i0:TypeInfo) (z:Value),prog.info? E=some i0→i0.zero=some z→i0.size=sz→i0.bytes=by'→z.cells.size=sz→(∀ w,(Go.sizeOf E).run prog w=.ok sz w)→∀ (b off n c:Nat) (news:List Value) (w:World),news.length=n*sz→n≤maxLen→n*by'≤140737488355328 →
   (∀ j u,news[j]?=some u→w.cell? ⟨b,off+j,none⟩=some u)→(∀ u∈news,u.oneCell'=true) →
   Calls prog f #[.slice (some ⟨b,off,none⟩) n c] w fun e w'=>∃ v',e=.returned v'∧w'.ownsRow w.heap.size E sz v' n news∧v'≠.slice none 0 0∧Below w.heap.size w w')
  (σ:ag):PC prog f [.sl sz rows] σ (fun r σ'=>r=.sl sz rows∧σ'=σ):=by
 obtain⟨i,z,hi,hz,h1,h2,h3⟩:=sO aeV;refine PC.YV (E:=E) (by':=by') ⟨gO,i,z,hi,hz,h1,h2,h3⟩ fun B w0 w μ vs hS hv=>?_;have h0:=hv.2 0 _ rfl;have e:vs=#[vs.getD 0 undef]:=Ro hv.1;rw[e];rcases UZ gO h0 with⟨⟨a,zM⟩,hr⟩ | ⟨b,o,cap,vals,zM,hm,hl,hc,h1',hR⟩
 ·rw[zM];subst hr;cases a with
  | none =>
   refine(Tc w).mono ?_;rintro e w' ⟨rfl,rfl⟩;exact⟨_,[],rfl,World.ownsRow_nil w' _ _ _,Below.refl _ _,by simp,by simp[fe]⟩
  | some a =>
   refine(aiS a w).mono ?_;rintro e w' ⟨v',rfl,h1,h2⟩;exact⟨_,[],rfl,h1,h2,by simp,by simp[fe]⟩
 ·rw[zM];refine(aew i z hi hz h1 h2 h3 (fun w=>by simp[sizeOf,run_typeInfo w hi,h1]) b o _ cap vals w hl hm hlen hc h1').mono ?_;rintro e w' ⟨v',rfl,cP,_,hb⟩;exact⟨_,vals,rfl,cP,hb,hR⟩
theorem wM(xs:List It)(hlen:xs.length<2^40)(σ:ag):PC prog 194 [.sl 3 (xs.map It.cells)] σ (fun r σ'=>r=.sl 3 (xs.map It.cells)∧σ'=σ) :=
 D4 (by decide) KB (by rw[List.length_map];omega) (fun w=>AnyE.slices_Clone_nil Tryz.D5 0 0 w)
  (fun a w=>by
   obtain⟨i,z,hi,hz,h1,h2,h3⟩:=sO KB;exact vi Tryz.D5 i z 3 32 hi hz h1 h2 h3 (by decide) (show ∀ w,(Go.sizeOf 76).run prog w=.ok 3 w from fun w=>by simp[sizeOf,run_typeInfo w hi,h1]) a w)
  (fun i z hi hz h1 h2 h3 hs b o n c news w hl hn hb hc h=>AnyE.slices_Clone Tryz.D5 i z 3 32 hi hz h1 h2 h3 (by decide) hs b o n c news w hl hn hb hc h) σ
theorem IE(xs:List Int)(hlen:xs.length<2^40)(σ:ag):PC prog 132 [.sl 1 (xs.map bj)] σ (fun r σ'=>r=.sl 1 (xs.map bj)∧σ'=σ) :=
 D4 (by decide) Oq (by rw[List.length_map];omega) (fun w=>AnyE.slices_Clone_nil Tryz.IF 0 0 w)
  (fun a w=>by
   obtain⟨i,z,hi,hz,h1,h2,h3⟩:=sO Oq;exact vi Tryz.IF i z 1 8 hi hz h1 h2 h3 (by decide) (show ∀ w,(Go.sizeOf 3).run prog w=.ok 1 w from fun w=>by simp[sizeOf,run_typeInfo w hi,h1]) a w)
  (fun i z hi hz h1 h2 h3 hs b o n c news w hl hn hb hc h=>AnyE.slices_Clone Tryz.IF i z 1 8 hi hz h1 h2 h3 (by decide) hs b o n c news w hl hn hb hc h) σ
theorem GA(e:En)(hs:e.small)(σ:ag):PC prog 131 [.agg e.cells] σ (fun r σ'=>r=.agg e.cells∧σ'=σ):=by
 refine PC.intro func131 akt fun aQ cz=>aj ?_;simp only[adE,SS,seval];simp only[En.cells,VV,seval];refine ai (wM e.source (by have:=hs.source;omega) _) rfl ?_;simp only[VV,seval];refine ai (wM e.target (by have:=hs.target;omega) _) rfl ?_;simp only[VV,seval];exact aG aQ (.inr rfl) (by simp only[RS,seval];rfl) (by simp only[LW]) ⟨rfl,rfl⟩
theorem nQ(o:aJ)(hs:o.small)(σ:ag):PC prog 79 [.agg o.cells] σ (fun r σ'=>r=.agg o.cells∧σ'=σ):=by
 refine PC.intro func79 c79 fun aQ cz=>aj ?_;simp only[p79,SS,seval];simp only[aJ.cells,bc.cells,En.cells,VV,seval];refine ai (GA o.entry hs.entry _) rfl ?_;simp only[En.cells,VV,seval];refine ai (IE o.seen (by have:=hs.seen;omega) _) rfl ?_;simp only[VV,seval];exact aG aQ (.inr rfl) (by simp only[RS,seval];rfl) (by simp only[LW]) ⟨rfl,rfl⟩
end Go.Proofs.Tryz

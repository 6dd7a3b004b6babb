/- A part of the proof that for every input the law NetworkLimits returns true and leaves its argument as it was. -/
import Derived.ChangeKeysEq
import Derived.Test.YtgihcpilgfbggaaGreatDoorL5
import Derived.Test.YtgihcpilgfbggaaGreatDoorL16
import Derived.Test.YtgihcpilgfbggaaGreatDoorL20
import Derived.Test.YtgihcpilgfbggaaGreatDoorL22
set_option linter.all false

namespace Go.Proofs.Tryz
open Go Go.Pm Go.Bt Go.RowKit
theorem EA:(prog.info? 31).map (fun i=>(i.zero.map (fun z=>z.cells.size),i.size,i.bytes))=some (some 3,3,32):=by kernel_rfl
theorem H2:(prog.info? 3).map (fun i=>(i.zero.map (fun z=>z.cells.size),i.size,i.bytes))=some (some 1,1,8):=by kernel_rfl
theorem Li{w:World}{σ:ah}{μ:Mem}{x:V}{v:Value}(h:VR w σ μ x v)(hp:x.pure=true):v.oneCell'=true:=by
 cases h<;>first | rfl | simp[V.pure]at hp
theorem Hd{w:World}{σ:ah}{μ:Mem}{sz:Nat}{rows:List (List V)}{v:Value}(fq:0<sz)(h:VR w σ μ (.sl sz rows) v):
  ((∃ a,v=.slice a 0 0)∧rows=[])∨∃ b o cap vals,v=.slice (some ⟨b,o,none⟩) rows.length cap∧rows.length≤maxLen∧vals.length=rows.length*sz∧(∀ j u,vals[j]?=some u→w.cell? ⟨b,o+j,none⟩=some u)∧(∀ u∈vals,u.oneCell'=true)∧jT w σ μ rows sz vals:=by
 generalize hx:V.sl sz rows=x at h;cases h with
 | zY sz' =>
  simp only[V.sl.injEq]at hx;exact .inl ⟨⟨_,rfl⟩,hx.2⟩
 | sle sz' a =>
  simp only[V.sl.injEq]at hx;exact .inl ⟨⟨_,rfl⟩,hx.2⟩
 | sl sz' xs b o cap f hlen ku cm hc hv =>
  simp only[V.sl.injEq]at hx;obtain⟨rfl,rfl⟩:=hx;refine .inr ⟨b,o,cap,(List.range (rows.length*sz)).map fun k=>f (k / sz) (k % sz),rfl,bF hlen ku,by simp,fun j u hj=>?_,fun u hu=>?_,cm,fun i j x hx=>?_⟩
  ·rw[bg,ak]at hj;obtain⟨k,hk,rfl⟩:=hj;have qR:=ab.1 hk;simp only[List.length_range,List.getElem_range]at qR;obtain⟨rk,rfl⟩:=qR;have hi:j / sz<rows.length:=ll (by rw[fL];exact rk);have hm:j % sz<sz:=sf _ fq;have hr:=cm rows[j / sz] (dj hi);have er:ft rows (j / sz) (j % sz)=some (rows[j / sz][j % sz]'(by rw[hr];exact hm)):=by simp[ft,hi,hr,hm]
   have:=(hc _ _ _ er).1
   rwa [Nat.add_assoc,Nat.div_add_mod']at this
  ·rw[dI]at hu;obtain⟨j,hj,rfl⟩:=hu;rw[cK]at hj;have hi:j / sz<rows.length:=ll (by rw[fL];exact hj);have hm:j % sz<sz:=sf _ fq;have hr:=cm rows[j / sz] (dj hi);have er:ft rows (j / sz) (j % sz)=some (rows[j / sz][j % sz]'(by rw[hr];exact hm)):=by simp[ft,hi,hr,hm]
   exact Li (hv _ _ _ er) (hc _ _ _ er).2.2
  ·have hp:=hc i j x hx
   have hi:i<rows.length∧j<sz:=by
    simp only[ft]at hx;cases hr:rows[i]? with
    | none=>rw[hr]at hx;simp at hx
    | some r =>
     rw[hr]at hx;have pC:=(ab.1 hr).1;have rk:=(ab.1 (show r[j]?=some x from hx)).1;rw[cm r (aN hr)]at rk;exact⟨pC,rk⟩
   refine⟨hp.2.2,f i j,?_,hv i j x hx⟩
   have eC:i*sz+j<rows.length*sz:=by
    have:(i+1)*sz≤rows.length*sz:=bl _ hi.1;rw[Nat.add_mul,fA]at this;omega
   rw[bg,ao (by simpa using eC)];simp only[List.getElem_range,cg,aa];have e1:(i*sz+j) / sz=i:=by rw[fL,Nat.mul_add_div fq,Nat.div_eq_of_lt hi.2];rfl
   have e2:(i*sz+j) % sz=j:=by rw[fL,Nat.mul_add_mod,wg hi.2]
   rw[e1,e2]
 | _=>simp at hx
theorem mb{T n by':Nat}(h:(prog.info? T).map (fun i=>(i.zero.map (fun z=>z.cells.size),i.size,i.bytes))=some (some n,n,by')):∃ i z,prog.info? T=some i∧i.zero=some z∧i.size=n∧i.bytes=by'∧z.cells.size=n:=by
 cases hi:prog.info? T with
 | none=>rw[hi]at h;simp at h
 | some i =>
  rw[hi]at h;simp only[cg,aa,aA]at h;obtain⟨h1,h2,h3⟩:=h;cases hz:i.zero with
  | none=>rw[hz]at h1;simp at h1
  | some z =>
   rw[hz]at h1;simp only[cg,aa]at h1;exact⟨i,z,rfl,hz,h2,h3,h1⟩
set_option maxHeartbeats 2000000 in
set_option maxRecDepth 100000 in
theorem nE{P:Program}{ρ:Shelf.Ren}(L:SlLaysE0.n41 P ρ)(i0:TypeInfo)(z:Value)(size bytes:Nat)(hi:P.info? (ρ.t 23)=some i0)(YC:i0.zero=some z)(hz1:i0.size=size)(YB:i0.bytes=bytes)(lK:z.cells.size=size)(fq:0<size)
  (z23:∀ w,(Go.sizeOf (ρ.t 23)).run P w=.ok size w) (a:Addr) (w:World) :
  Calls P (ρ.f 41) #[.slice (some a) 0 0] w fun e w'=>∃ v',e=.returned v'∧w'.ownsRow w.heap.size (ρ.t 23) size v' 0 []∧Below w.heap.size w w':=by
 have mixed:=L.mixed;have t4:=L.t4;have a4:=L.a4;have z4:=L.z4;have v4:=L.v4;have t22:=L.t22;have a22:=L.a22;have z22:=L.z22;have v22:=L.v22;have q22:∀ (w:World) (a:Option Addr) (n c n' c':Nat),(binOp .eql (ρ.t 22) (.slice a n c) (.slice none n' c')).run P w=.ok (.bool a.isNone) w:=fun w a n c n' c'=>Lib.run_eql_slice_nil w _ _ a n c n' c' L.t22;have u22:∀ w,Sem.run P (underlying (ρ.t 22)) w=.ok (TypeDesc.slice (ρ.t 23)) w:=run_underlying t22;obtain⟨_,_,FG⟩:=L.f41
 go_enter FG,SlBodyN.n41_ntmps ρ
 go_wp2_with (at_builtin;refine wpList_append_own _ rfl _ _ (ρ.t 22) rfl w.heap.size (ρ.t 23) i0 z size bytes t22 hi YC hz1 YB lK fq _ _ _ rfl (World.ownsRow_made w #[] 0 (aw _) (gF _) (by simp)) a 0 0 [] rfl (by simp) (by simp) (by simp) (by simp) (by simp) (by simp) ?_)
 intro v' w1 gf W4 _
 go_wp2
 go_ret
 exact⟨v',rfl,by simpa using gf,((Below.refl _ w).alloc (aw _) _).grown W4 (by simp) (by intro k hk;simp[Value.ownBlock]at hk;omega)⟩
theorem yo{f E sz by':Nat}{rows:List (List V)}(fq:0<sz)(My:(prog.info? E).map (fun i=>(i.zero.map (fun z=>z.cells.size),i.size,i.bytes))=some (some sz,sz,by'))
  (hlen:rows.length*by'≤140737488355328)
  (Gt:∀ w,Calls prog f #[.slice none 0 0] w fun e w'=>e=.returned (.slice none 0 0)∧w'=w)
  (S4:∀ (a:Addr) (w:World),Calls prog f #[.slice (some a) 0 0] w fun e w'=>∃ v',e=.returned v'∧w'.ownsRow w.heap.size E sz v' 0 []∧Below w.heap.size w w')
  (Mf:∀ (i0:TypeInfo) (z:Value),prog.info? E=some i0→i0.zero=some z→i0.size=sz→i0.bytes=by'→z.cells.size=sz→(∀ w,(Go.sizeOf E).run prog w=.ok sz w)→∀ (b off n c:Nat) (news:List Value) (w:World),news.length=n*sz→n≤maxLen→n*by'≤140737488355328 →
   (∀ j u,news[j]?=some u→w.cell? ⟨b,off+j,none⟩=some u)→(∀ u∈news,u.oneCell'=true) →
   Calls prog f #[.slice (some ⟨b,off,none⟩) n c] w fun e w'=>∃ v',e=.returned v'∧w'.ownsRow w.heap.size E sz v' n news∧v'≠.slice none 0 0∧Below w.heap.size w w')
  (σ:ah):PC prog f [.sl sz rows] σ (fun r σ'=>r=.sl sz rows∧σ'=σ):=by
 obtain⟨i,z,hi,hz,h1,h2,h3⟩:=mb My;refine PC.RJ (E:=E) (by':=by') ⟨fq,i,z,hi,hz,h1,h2,h3⟩ fun B w0 w μ vs hS hv=>?_;have h0:=hv.2 0 _ rfl;have e:vs=#[vs.getD 0 undef]:=TZ hv.1;rw[e];rcases Hd fq h0 with⟨⟨a,H5⟩,hr⟩ | ⟨b,o,cap,vals,H5,hm,hl,hc,h1',hR⟩
 ·rw[H5];subst hr;cases a with
  | none =>
   refine(Gt w).mono ?_;rintro e w' ⟨rfl,rfl⟩;exact⟨_,[],rfl,World.ownsRow_nil w' _ _ _,Below.refl _ _,by simp,by simp[ft]⟩
  | some a =>
   refine(S4 a w).mono ?_;rintro e w' ⟨v',rfl,h1,h2⟩;exact⟨_,[],rfl,h1,h2,by simp,by simp[ft]⟩
 ·rw[H5];refine(Mf i z hi hz h1 h2 h3 (fun w=>by simp[sizeOf,run_typeInfo w hi,h1]) b o _ cap vals w hl hm hlen hc h1').mono ?_;rintro e w' ⟨v',rfl,cm,_,hb⟩;exact⟨_,vals,rfl,cm,hb,hR⟩
theorem rN(xs:List It)(hlen:xs.length<2^40)(σ:ah):PC prog 102 [.sl 3 (xs.map It.cells)] σ (fun r σ'=>r=.sl 3 (xs.map It.cells)∧σ'=σ) :=
 yo (by decide) EA (by rw[ae];omega) (fun w=>AnyE.slices_Clone_nil Tryz.yp 0 0 w)
  (fun a w=>by
   obtain⟨i,z,hi,hz,h1,h2,h3⟩:=mb EA;exact nE Tryz.yp i z 3 32 hi hz h1 h2 h3 (by decide) (show ∀ w,(Go.sizeOf 31).run prog w=.ok 3 w from fun w=>by simp[sizeOf,run_typeInfo w hi,h1]) a w)
  (fun i z hi hz h1 h2 h3 hs b o n c news w hl hn hb hc h=>AnyE.slices_Clone Tryz.yp i z 3 32 hi hz h1 h2 h3 (by decide) hs b o n c news w hl hn hb hc h) σ
theorem CU(xs:List Int)(hlen:xs.length<2^40)(σ:ah):PC prog 74 [.sl 1 (xs.map bW)] σ (fun r σ'=>r=.sl 1 (xs.map bW)∧σ'=σ) :=
 yo (by decide) H2 (by rw[ae];omega) (fun w=>AnyE.slices_Clone_nil Tryz.CV 0 0 w)
  (fun a w=>by
   obtain⟨i,z,hi,hz,h1,h2,h3⟩:=mb H2;exact nE Tryz.CV i z 1 8 hi hz h1 h2 h3 (by decide) (show ∀ w,(Go.sizeOf 3).run prog w=.ok 1 w from fun w=>by simp[sizeOf,run_typeInfo w hi,h1]) a w)
  (fun i z hi hz h1 h2 h3 hs b o n c news w hl hn hb hc h=>AnyE.slices_Clone Tryz.CV i z 1 8 hi hz h1 h2 h3 (by decide) hs b o n c news w hl hn hb hc h) σ
theorem A2(e:En)(hs:e.small)(σ:ah):PC prog 73 [.agg e.cells] σ (fun r σ'=>r=.agg e.cells∧σ'=σ):=by
 refine PC.intro func73 c73 fun aU da=>al ?_;simp only[p73,SS,seval];simp only[En.cells,VV,seval];refine an (rN e.source (by have:=hs.source;omega) _) rfl ?_;simp only[VV,seval];refine an (rN e.target (by have:=hs.target;omega) _) rfl ?_;simp only[VV,seval];exact aD aU (.inr rfl) (by simp only[RS,seval];rfl) (by simp only[LW]) ⟨rfl,rfl⟩
theorem mi(o:bc)(hs:o.small)(σ:ah):PC prog 48 [.agg o.cells] σ (fun r σ'=>r=.agg o.cells∧σ'=σ):=by
 refine PC.intro func48 c48 fun aU da=>al ?_;simp only[p48,SS,seval];simp only[bc.cells,bY.cells,En.cells,VV,seval];refine an (A2 o.entry hs.entry _) rfl ?_;simp only[En.cells,VV,seval];refine an (CU o.seen (by have:=hs.seen;omega) _) rfl ?_;simp only[VV,seval];exact aD aU (.inr rfl) (by simp only[RS,seval];rfl) (by simp only[LW]) ⟨rfl,rfl⟩
end Go.Proofs.Tryz

/- A part of a proof; the claim's last text says of what. -/
import Derived.Test.YtlakkaamfadipaaGreatDoorS5
import Derived.Test.YtlakkaamfadipaaGreatDoorS17
import Derived.Test.YtlakkaamfadipaaGreatDoorS20
import Derived.Test.YtlakkaamfadipaaGreatDoorS22
set_option linter.all false

namespace Go.Proofs.Tryz
open Go Go.Pm Go.Bt Go.RowKit
theorem Fh:(prog.info? 61).map (fun i=>(i.zero.map (fun z=>z.cells.size),i.size,i.bytes))=some (some 3,3,32):=by kernel_rfl
theorem Nd{w:World}{J:ae}{μ:Mem}{x:V}{v:Value}(h:VR w J μ x v)(hp:x.pure=true):v.oneCell'=true:=by
 cases h<;>first | rfl | simp[V.pure]at hp
theorem Qb{w:World}{J:ae}{μ:Mem}{sz:Nat}{rows:List (List V)}{v:Value}(fw:0<sz)(h:VR w J μ (.sl sz rows) v):
  ((∃ a,v=.slice a 0 0)∧rows=[])∨∃ b o cap vals,v=.slice (some ⟨b,o,none⟩) rows.length cap∧rows.length≤maxLen∧vals.length=rows.length*sz∧(∀ j u,vals[j]?=some u→w.cell? ⟨b,o+j,none⟩=some u)∧(∀ u∈vals,u.oneCell'=true)∧mc w J μ rows sz vals:=by
 generalize hx:V.sl sz rows=x at h;cases h with
 | Ae sz' =>
  simp only[V.sl.injEq]at hx;exact .inl ⟨⟨_,rfl⟩,hx.2⟩
 | sle sz' a =>
  simp only[V.sl.injEq]at hx;exact .inl ⟨⟨_,rfl⟩,hx.2⟩
 | sl sz' xs b o cap f hlen kV cq hc hv =>
  simp only[V.sl.injEq]at hx;obtain⟨rfl,rfl⟩:=hx;refine .inr ⟨b,o,cap,(List.range (rows.length*sz)).map fun k=>f (k / sz) (k % sz),rfl,aQ hlen kV,by simp,fun j u hj=>?_,fun u hu=>?_,cq,fun i j x hx=>?_⟩
  ·rw[a8,aj]at hj;obtain⟨k,hk,rfl⟩:=hj;have nX:=ab.1 hk;simp only[List.length_range,List.getElem_range]at nX;obtain⟨kI,rfl⟩:=nX;have hi:j / sz<rows.length:=lh (by rw[fa];exact kI);have hm:j % sz<sz:=sW _ fw;have hr:=cq rows[j / sz] (cA hi);have eA:eS rows (j / sz) (j % sz)=some (rows[j / sz][j % sz]'(by rw[hr];exact hm)):=by simp[eS,hi,hr,hm]
   have:=(hc _ _ _ eA).1
   rwa [fF,Nat.div_add_mod']at this
  ·rw[bH]at hu;obtain⟨j,hj,rfl⟩:=hu;rw[cC]at hj;have hi:j / sz<rows.length:=lh (by rw[fa];exact hj);have hm:j % sz<sz:=sW _ fw;have hr:=cq rows[j / sz] (cA hi);have eA:eS rows (j / sz) (j % sz)=some (rows[j / sz][j % sz]'(by rw[hr];exact hm)):=by simp[eS,hi,hr,hm]
   exact Nd (hv _ _ _ eA) (hc _ _ _ eA).2.2
  ·have hp:=hc i j x hx
   have hi:i<rows.length∧j<sz:=by
    simp only[eS]at hx;cases hr:rows[i]? with
    | none=>rw[hr]at hx;simp at hx
    | some r =>
     rw[hr]at hx;have r8:=(ab.1 hr).1;have kI:=(ab.1 (show r[j]?=some x from hx)).1;rw[cq r (aT hr)]at kI;exact⟨r8,kI⟩
   refine⟨hp.2.2,f i j,?_,hv i j x hx⟩
   have dc:i*sz+j<rows.length*sz:=by
    have:(i+1)*sz≤rows.length*sz:=bM _ hi.1;rw[cD,gy]at this;omega
   rw[a8,ak (by simpa using dc)];simp only[List.getElem_range,bK,aa];have e1:(i*sz+j) / sz=i:=by rw[fa,Nat.mul_add_div fw,Nat.div_eq_of_lt hi.2];rfl
   have e2:(i*sz+j) % sz=j:=by rw[fa,Nat.mul_add_mod,xo hi.2]
   rw[e1,e2]
 | _=>simp at hx
theorem Ja{T n by':Nat}(h:(prog.info? T).map (fun i=>(i.zero.map (fun z=>z.cells.size),i.size,i.bytes))=some (some n,n,by')):∃ i z,prog.info? T=some i∧i.zero=some z∧i.size=n∧i.bytes=by'∧z.cells.size=n:=by
 cases hi:prog.info? T with
 | none=>rw[hi]at h;simp at h
 | some i =>
  rw[hi]at h;simp only[bK,aa,ao]at h;obtain⟨h1,h2,h3⟩:=h;cases hz:i.zero with
  | none=>rw[hz]at h1;simp at h1
  | some z =>
   rw[hz]at h1;simp only[bK,aa]at h1;exact⟨i,z,rfl,hz,h2,h3,h1⟩
set_option maxHeartbeats 2000000 in
set_option maxRecDepth 100000 in
theorem FV{P:Program}{ρ:Shelf.Ren}(L:SlLaysE0.n41 P ρ)(i0:TypeInfo)(z:Value)(size bytes:Nat)(hi:P.info? (ρ.t 23)=some i0)(hz0:i0.zero=some z)(Uz:i0.size=size)(NU:i0.bytes=bytes)(lU:z.cells.size=size)(fw:0<size)
  (z23:∀ w,(Go.sizeOf (ρ.t 23)).run P w=.ok size w) (a:Addr) (w:World) :
  Calls P (ρ.f 41) #[.slice (some a) 0 0] w fun e w'=>∃ v',e=.returned v'∧w'.ownsRow w.heap.size (ρ.t 23) size v' 0 []∧Below w.heap.size w w':=by
 have mixed:=L.mixed;have t4:=L.t4;have a4:=L.a4;have z4:=L.z4;have v4:=L.v4;have t22:=L.t22;have a22:=L.a22;have z22:=L.z22;have v22:=L.v22;have q22:∀ (w:World) (a:Option Addr) (n c n' c':Nat),(binOp .eql (ρ.t 22) (.slice a n c) (.slice none n' c')).run P w=.ok (.bool a.isNone) w:=fun w a n c n' c'=>Lib.run_eql_slice_nil w _ _ a n c n' c' L.t22;have u22:∀ w,Sem.run P (underlying (ρ.t 22)) w=.ok (TypeDesc.slice (ρ.t 23)) w:=run_underlying t22;obtain⟨_,_,FG⟩:=L.f41
 go_enter FG,SlBodyN.n41_ntmps ρ
 go_wp2_with (at_builtin;refine wpList_append_own _ rfl _ _ (ρ.t 22) rfl w.heap.size (ρ.t 23) i0 z size bytes t22 hi hz0 Uz NU lU fw _ _ _ rfl (World.ownsRow_made w #[] 0 (aq _) (dT _) (by simp)) a 0 0 [] rfl (by simp) (by simp) (by simp) (by simp) (by simp) (by simp) ?_)
 intro v' w1 fk Y0 _
 go_wp2
 go_ret
 exact⟨v',rfl,by simpa using fk,((Below.refl _ w).alloc (aq _) _).grown Y0 (by simp) (by intro k hk;simp[Value.ownBlock]at hk;omega)⟩
theorem O5{f E sz by':Nat}{rows:List (List V)}(fw:0<sz)(YY:(prog.info? E).map (fun i=>(i.zero.map (fun z=>z.cells.size),i.size,i.bytes))=some (some sz,sz,by'))
  (hlen:rows.length*by'≤140737488355328)
  (Hs:∀ w,Calls prog f #[.slice none 0 0] w fun e w'=>e=.returned (.slice none 0 0)∧w'=w)
  (ab7:∀ (a:Addr) (w:World),Calls prog f #[.slice (some a) 0 0] w fun e w'=>∃ v',e=.returned v'∧w'.ownsRow w.heap.size E sz v' 0 []∧Below w.heap.size w w')
  (YF:∀ (i0:TypeInfo) (z:Value),prog.info? E=some i0→i0.zero=some z→i0.size=sz→i0.bytes=by'→z.cells.size=sz→(∀ w,(Go.sizeOf E).run prog w=.ok sz w)→∀ (b off n c:Nat) (news:List Value) (w:World),news.length=n*sz→n≤maxLen→n*by'≤140737488355328 →
   (∀ j u,news[j]?=some u→w.cell? ⟨b,off+j,none⟩=some u)→(∀ u∈news,u.oneCell'=true) →
   Calls prog f #[.slice (some ⟨b,off,none⟩) n c] w fun e w'=>∃ v',e=.returned v'∧w'.ownsRow w.heap.size E sz v' n news∧v'≠.slice none 0 0∧Below w.heap.size w w')
  (J:ae):PC prog f [.sl sz rows] J (fun r J'=>r=.sl sz rows∧J'=J):=by
 obtain⟨i,z,hi,hz,h1,h2,h3⟩:=Ja YY;refine PC.TY (E:=E) (by':=by') ⟨fw,i,z,hi,hz,h1,h2,h3⟩ fun B w0 w μ vs hS hv=>?_;have h0:=hv.2 0 _ rfl;have e:vs=#[vs.getD 0 undef]:=ZN hv.1;rw[e];rcases Qb fw h0 with⟨⟨a,Gl⟩,hr⟩ | ⟨b,o,cap,vals,Gl,hm,hl,hc,h1',hR⟩
 ·rw[Gl];subst hr;cases a with
  | none =>
   refine(Hs w).mono ?_;rintro e w' ⟨rfl,rfl⟩;exact⟨_,[],rfl,World.ownsRow_nil w' _ _ _,Below.refl _ _,by simp,by simp[eS]⟩
  | some a =>
   refine(ab7 a w).mono ?_;rintro e w' ⟨v',rfl,h1,h2⟩;exact⟨_,[],rfl,h1,h2,by simp,by simp[eS]⟩
 ·rw[Gl];refine(YF i z hi hz h1 h2 h3 (fun w=>by simp[sizeOf,run_typeInfo w hi,h1]) b o _ cap vals w hl hm hlen hc h1').mono ?_;rintro e w' ⟨v',rfl,cq,_,hb⟩;exact⟨_,vals,rfl,cq,hb,hR⟩
theorem si(xs:List It)(hlen:xs.length<2^40)(J:ae):PC prog 134 [.sl 3 (xs.map It.ah7)] J (fun r J'=>r=.sl 3 (xs.map It.ah7)∧J'=J) :=
 O5 (by decide) Fh (by rw[ag];omega) (fun w=>AnyE.slices_Clone_nil Tryz.zH 0 0 w)
  (fun a w=>by
   obtain⟨i,z,hi,hz,h1,h2,h3⟩:=Ja Fh;exact FV Tryz.zH i z 3 32 hi hz h1 h2 h3 (by decide) (show ∀ w,(Go.sizeOf 61).run prog w=.ok 3 w from fun w=>by simp[sizeOf,run_typeInfo w hi,h1]) a w)
  (fun i z hi hz h1 h2 h3 hs b o n c news w hl hn hb hc h=>AnyE.slices_Clone Tryz.zH i z 3 32 hi hz h1 h2 h3 (by decide) hs b o n c news w hl hn hb hc h) J
end Go.Proofs.Tryz

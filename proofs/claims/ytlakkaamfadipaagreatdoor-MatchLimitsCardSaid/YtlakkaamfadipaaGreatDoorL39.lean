/- A part of a proof; the claim's last text says of what. -/
import Derived.Test.YtlakkaamfadipaaGreatDoorL6
import Derived.Test.YtlakkaamfadipaaGreatDoorL18
import Derived.Test.YtlakkaamfadipaaGreatDoorL21
import Derived.Test.YtlakkaamfadipaaGreatDoorL23
set_option linter.all false

namespace Go.Proofs.Tryz
open Go Go.Pm Go.Bt Go.RowKit
theorem CF:(prog.info? 61).map (fun i=>(i.zero.map (fun z=>z.cells.size),i.size,i.bytes))=some (some 3,3,32):=by kernel_rfl
theorem JQ{w:World}{J:ae}{μ:Mem}{x:V}{v:Value}(h:VR w J μ x v)(hp:x.pure=true):v.oneCell'=true:=by
 cases h<;>first | rfl | simp[V.pure]at hp
theorem MK{w:World}{J:ae}{μ:Mem}{sz:Nat}{rows:List (List V)}{v:Value}(eI:0<sz)(h:VR w J μ (.sl sz rows) v):
  ((∃ a,v=.slice a 0 0)∧rows=[])∨∃ b o cap vals,v=.slice (some ⟨b,o,none⟩) rows.length cap∧rows.length≤maxLen∧vals.length=rows.length*sz∧(∀ j u,vals[j]?=some u→w.cell? ⟨b,o+j,none⟩=some u)∧(∀ u∈vals,u.oneCell'=true)∧gR w J μ rows sz vals:=by
 generalize hx:V.sl sz rows=x at h;cases h with
 | yK sz' =>
  simp only[V.sl.injEq]at hx;exact .inl ⟨⟨_,rfl⟩,hx.2⟩
 | sle sz' a =>
  simp only[V.sl.injEq]at hx;exact .inl ⟨⟨_,rfl⟩,hx.2⟩
 | sl sz' xs b o cap f hlen jL bT hc hv =>
  simp only[V.sl.injEq]at hx;obtain⟨rfl,rfl⟩:=hx;refine .inr ⟨b,o,cap,(List.range (rows.length*sz)).map fun k=>f (k / sz) (k % sz),rfl,bl hlen jL,by simp,fun j u hj=>?_,fun u hu=>?_,bT,fun i j x hx=>?_⟩
  ·rw[aW,ah]at hj;obtain⟨k,hk,rfl⟩:=hj;have ny:=ab.1 hk;simp only[sn,List.getElem_range]at ny;obtain⟨jr,rfl⟩:=ny;have hi:j / sz<rows.length:=kE (by rw[eR];exact jr);have hm:j % sz<sz:=qN _ eI;have hr:=bT rows[j / sz] (cg hi);have eJ:eV rows (j / sz) (j % sz)=some (rows[j / sz][j % sz]'(by rw[hr];exact hm)):=by simp[eV,hi,hr,hm]
   have:=(hc _ _ _ eJ).1
   rwa [iF,Nat.div_add_mod']at this
  ·rw[aT]at hu;obtain⟨j,hj,rfl⟩:=hu;rw[b7]at hj;have hi:j / sz<rows.length:=kE (by rw[eR];exact hj);have hm:j % sz<sz:=qN _ eI;have hr:=bT rows[j / sz] (cg hi);have eJ:eV rows (j / sz) (j % sz)=some (rows[j / sz][j % sz]'(by rw[hr];exact hm)):=by simp[eV,hi,hr,hm]
   exact JQ (hv _ _ _ eJ) (hc _ _ _ eJ).2.2
  ·have hp:=hc i j x hx
   have hi:i<rows.length∧j<sz:=by
    simp only[eV]at hx;cases hr:rows[i]? with
    | none=>rw[hr]at hx;simp at hx
    | some r =>
     rw[hr]at hx;have u5:=(ab.1 hr).1;have jr:=(ab.1 (show r[j]?=some x from hx)).1;rw[bT r (aL hr)]at jr;exact⟨u5,jr⟩
   refine⟨hp.2.2,f i j,?_,hv i j x hx⟩
   have cM:i*sz+j<rows.length*sz:=by
    have:(i+1)*sz≤rows.length*sz:=aY _ hi.1;rw[bO,eG]at this;omega
   rw[aW,an (by simpa using cM)];simp only[List.getElem_range,bL,aa];have e1:(i*sz+j) / sz=i:=by rw[eR,Nat.mul_add_div eI,Nat.div_eq_of_lt hi.2];rfl
   have e2:(i*sz+j) % sz=j:=by rw[eR,Nat.mul_add_mod,uO hi.2]
   rw[e1,e2]
 | _=>simp at hx
theorem AP{T n by':Nat}(h:(prog.info? T).map (fun i=>(i.zero.map (fun z=>z.cells.size),i.size,i.bytes))=some (some n,n,by')):∃ i z,prog.info? T=some i∧i.zero=some z∧i.size=n∧i.bytes=by'∧z.cells.size=n:=by
 cases hi:prog.info? T with
 | none=>rw[hi]at h;simp at h
 | some i =>
  rw[hi]at h;simp only[bL,aa,ao]at h;obtain⟨h1,h2,h3⟩:=h;cases hz:i.zero with
  | none=>rw[hz]at h1;simp at h1
  | some z =>
   rw[hz]at h1;simp only[bL,aa]at h1;exact⟨i,z,rfl,hz,h2,h3,h1⟩
set_option maxHeartbeats 2000000 in
set_option maxRecDepth 100000 in
theorem Di{P:Program}{ρ:Shelf.Ren}(L:SlLaysE0.n41 P ρ)(i0:TypeInfo)(z:Value)(size bytes:Nat)(hi:P.info? (ρ.t 23)=some i0)(XL:i0.zero=some z)(QM:i0.size=size)(XK:i0.bytes=bytes)(lh:z.cells.size=size)(eI:0<size)
  (z23:∀ w,(Go.sizeOf (ρ.t 23)).run P w=.ok size w) (a:Addr) (w:World) :
  Calls P (ρ.f 41) #[.slice (some a) 0 0] w fun e w'=>∃ v',e=.returned v'∧w'.ownsRow w.heap.size (ρ.t 23) size v' 0 []∧Below w.heap.size w w':=by
 have mixed:=L.mixed;have t4:=L.t4;have a4:=L.a4;have z4:=L.z4;have v4:=L.v4;have t22:=L.t22;have a22:=L.a22;have z22:=L.z22;have v22:=L.v22;have q22:∀ (w:World) (a:Option Addr) (n c n' c':Nat),(binOp .eql (ρ.t 22) (.slice a n c) (.slice none n' c')).run P w=.ok (.bool a.isNone) w:=fun w a n c n' c'=>Lib.run_eql_slice_nil w _ _ a n c n' c' L.t22;have u22:∀ w,Sem.run P (underlying (ρ.t 22)) w=.ok (TypeDesc.slice (ρ.t 23)) w:=run_underlying t22;obtain⟨_,_,FG⟩:=L.f41
 go_enter FG,SlBodyN.n41_ntmps ρ
 go_wp2_with (at_builtin;refine wpList_append_own _ rfl _ _ (ρ.t 22) rfl w.heap.size (ρ.t 23) i0 z size bytes t22 hi XL QM XK lh eI _ _ _ rfl (World.ownsRow_made w #[] 0 (aq _) (eX _) (by simp)) a 0 0 [] rfl (by simp) (by simp) (by simp) (by simp) (by simp) (by simp) ?_)
 intro v' w1 eu Vh _
 go_wp2
 go_ret
 exact⟨v',rfl,by simpa using eu,((Below.refl _ w).alloc (aq _) _).grown Vh (by simp) (by intro k hk;simp[Value.ownBlock]at hk;omega)⟩
theorem LH{f E sz by':Nat}{rows:List (List V)}(eI:0<sz)(Vf:(prog.info? E).map (fun i=>(i.zero.map (fun z=>z.cells.size),i.size,i.bytes))=some (some sz,sz,by'))
  (hlen:rows.length*by'≤140737488355328)
  (KL:∀ w,Calls prog f #[.slice none 0 0] w fun e w'=>e=.returned (.slice none 0 0)∧w'=w)
  (YC:∀ (a:Addr) (w:World),Calls prog f #[.slice (some a) 0 0] w fun e w'=>∃ v',e=.returned v'∧w'.ownsRow w.heap.size E sz v' 0 []∧Below w.heap.size w w')
  (Ky:∀ (i0:TypeInfo) (z:Value),prog.info? E=some i0→i0.zero=some z→i0.size=sz→i0.bytes=by'→z.cells.size=sz→(∀ w,(Go.sizeOf E).run prog w=.ok sz w)→∀ (b off n c:Nat) (news:List Value) (w:World),news.length=n*sz→n≤maxLen→n*by'≤140737488355328 →
   (∀ j u,news[j]?=some u→w.cell? ⟨b,off+j,none⟩=some u)→(∀ u∈news,u.oneCell'=true) →
   Calls prog f #[.slice (some ⟨b,off,none⟩) n c] w fun e w'=>∃ v',e=.returned v'∧w'.ownsRow w.heap.size E sz v' n news∧v'≠.slice none 0 0∧Below w.heap.size w w')
  (J:ae):PC prog f [.sl sz rows] J (fun r J'=>r=.sl sz rows∧J'=J):=by
 obtain⟨i,z,hi,hz,h1,h2,h3⟩:=AP Vf;refine PC.Qk (E:=E) (by':=by') ⟨eI,i,z,hi,hz,h1,h2,h3⟩ fun B w0 w μ vs hS hv=>?_;have h0:=hv.2 0 _ rfl;have e:vs=#[vs.getD 0 undef]:=Wb hv.1;rw[e];rcases MK eI h0 with⟨⟨a,UO⟩,hr⟩ | ⟨b,o,cap,vals,UO,hm,hl,hc,h1',hR⟩
 ·rw[UO];subst hr;cases a with
  | none =>
   refine(KL w).mono ?_;rintro e w' ⟨rfl,rfl⟩;exact⟨_,[],rfl,World.ownsRow_nil w' _ _ _,Below.refl _ _,by simp,by simp[eV]⟩
  | some a =>
   refine(YC a w).mono ?_;rintro e w' ⟨v',rfl,h1,h2⟩;exact⟨_,[],rfl,h1,h2,by simp,by simp[eV]⟩
 ·rw[UO];refine(Ky i z hi hz h1 h2 h3 (fun w=>by simp[sizeOf,run_typeInfo w hi,h1]) b o _ cap vals w hl hm hlen hc h1').mono ?_;rintro e w' ⟨v',rfl,bT,_,hb⟩;exact⟨_,vals,rfl,bT,hb,hR⟩
theorem qk(xs:List It)(hlen:xs.length<2^40)(J:ae):PC prog 134 [.sl 3 (xs.map It.aen)] J (fun r J'=>r=.sl 3 (xs.map It.aen)∧J'=J) :=
 LH (by decide) CF (by rw[aj];omega) (fun w=>AnyE.slices_Clone_nil Tryz.xk 0 0 w)
  (fun a w=>by
   obtain⟨i,z,hi,hz,h1,h2,h3⟩:=AP CF;exact Di Tryz.xk i z 3 32 hi hz h1 h2 h3 (by decide) (show ∀ w,(Go.sizeOf 61).run prog w=.ok 3 w from fun w=>by simp[sizeOf,run_typeInfo w hi,h1]) a w)
  (fun i z hi hz h1 h2 h3 hs b o n c news w hl hn hb hc h=>AnyE.slices_Clone Tryz.xk i z 3 32 hi hz h1 h2 h3 (by decide) hs b o n c news w hl hn hb hc h) J
end Go.Proofs.Tryz

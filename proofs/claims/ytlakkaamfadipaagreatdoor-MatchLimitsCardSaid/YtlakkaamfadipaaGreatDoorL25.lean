/- A part of a proof; the claim's last text says of what. -/
import Derived.Laws.CopyRow
import Derived.Shelf.Spec.SlicesInsertGrow
import Derived.Test.YtlakkaamfadipaaGreatDoorL23
set_option linter.all false

namespace Go.Pm
open Go Go.RowKit
theorem pz{P:Program}(w:World)(dT sT ty elem:TypeId)(g o dLen dCap:Nat)(a:Addr)(sLen sCap:Nat)(cur:Array Value)(t:TypeId)(cs:List Value)(k:Nat)
  (hu:P.underlying dT=some (.slice elem)) (hs:(P.info? elem).map (·.size)=some k)
  (hg:w.heap[g]?=some (.cells cur t (0,0))) (hn:cs.length=Nat.min sLen dLen*k)
  (CK:∀ j v,cs[j]?=some v→w.cell? (a.add j)=some v) (qx:o+cs.length≤cur.size) (h1:∀ v∈cs,v.oneCell'=true) :
  (Builtin.copy_ #[dT,sT] ty #[.slice (some ⟨g,o,none⟩) dLen dCap,.slice (some a) sLen sCap]).run P w =
   .ok (goInt (Nat.min sLen dLen:Nat)) (w.setRow g (cur.toList.take o++cs++cur.toList.drop (o+cs.length)).toArray):=by
 have hl:=run_loadCells_list (P:=P) w a cs CK;have pE:=run_storeCells_at P g o t cs 0 cur w hg (by simpa using qx) h1;cases hq:P.info? elem with
 | none=>simp[hq]at hs
 | some i =>
  have hi:i.size=k:=by simpa[hq]using hs
  simp[Builtin.copy_,run_underlying hu,Builtin.lenOf,Builtin.firstCells,sizeOf,typeInfo,hq,hi,← hn,hl,pE]
theorem PC.Uy{P:Program}{f:Nat}{args:List V}{J:ae}{id E sz by' g:Nat}{xs xs':List (List V)}(hb:J[id]?=some (.row E sz by' g false xs))
  (h:∀ (B:Nat) (w0 w:World) (μ:Mem) (vs:Array Value),fe P B w0 w J μ→Mp w J μ args vs→Calls P f vs w fun e w'=>∃ v' vals',e=.returned v'∧w.grownBy w' (fR (μ id))∧(∀ b,fR v'=some b→fR (μ id)=some b∨w.heap.size≤b)∧w'.ownsRow B E sz v' xs'.length vals'∧gR w J μ xs' sz vals') :
  PC P f args J (fun r J'=>r=.own id (g+1)∧J'=J.set id (.row E sz by' (g+1) false xs')):=by
 intro B w0 w μ vs hS hv;refine(h B w0 w μ vs hS hv).mono ?_;rintro e w' ⟨v',vals',rfl,hg,ik,eu,bT⟩;have cM:id<J.length:=(ab.1 hb).1;have hn:=hS.grow hb (sh':=false) (xs':=xs') (v':=v') (vals:=[]) (vals':=vals') hg ik (fun b _ j u h=>by simp at h) (.inr rfl) (fun h=>by simp at h) (fun h=>by simp at h) eu (fun J' μ' k=>bT.dY k);have:=VR.lk (w:=w') (J:=J.set id (.row E sz by' (g+1) false xs')) (μ:=oh μ id v') (id:=id) (E:=E) (sz:=sz) (by':=by') (g:=g+1) (sh:=false) (xs:=xs') (ak cM);rw[cX]at this;exact⟨_,v',_,_,rfl,⟨rfl,rfl⟩,hn.1,this,hn.2.dY⟩
theorem gR.one{P:Program}{B:Nat}{w0 w:World}{J:ae}{μ:Mem}(hS:fe P B w0 w J μ){xs:List (List V)}{sz:Nat}{vals:List Value}(h:gR w J μ xs sz vals)(hl:vals.length=xs.length*sz):∀ v∈vals,v.oneCell'=true:=by
 intro v hv;obtain⟨k,hk⟩:=cU.1 hv;have oE:k<xs.length*sz:=by rw[← hl];exact(ab.1 hk).1
 have hs:0<sz:=WO (Fk (eX _) oE);have h1:k / sz<xs.length:=kE (by rw[eR];exact oE);obtain⟨x,hx⟩:=yN h.1 h1 (qN k hs);obtain⟨h2,u,h3,h4⟩:=h.2 _ _ _ hx;have e:k / sz*sz+k % sz=k:=by have:=O5 k sz;rw[eR]at this;exact this
 rw[e,hk]at h3;simp only[aa]at h3;subst h3;exact(l3 hS h4 (mu h2)).1
theorem PC.Qj{P:Program}{f:Nat}{args:List V}{J:ae}{id E sz by' g:Nat}{xs xs':List (List V)}(hb:J[id]?=some (.row E sz by' g false xs))(hl:xs'.length=xs.length)
  (h:∀ (B:Nat) (w0 w:World) (μ:Mem) (vs:Array Value),fe P B w0 w J μ→Mp w J μ args vs→Calls P f vs w fun e w'=>∃ vals',e=.returned (.tuple #[])∧w.grownBy w' (fR (μ id))∧w'.ownsRow B E sz (μ id) xs'.length vals'∧gR w J μ xs' sz vals') :
  PC P f args J (fun r J'=>r=.fa []∧J'=J.set id (.row E sz by' g false xs')):=by
 intro B w0 w μ vs hS hv;refine(h B w0 w μ vs hS hv).mono ?_;rintro e w' ⟨vals',rfl,hg,eu,bT⟩;have cM:id<J.length:=(ab.1 hb).1
 have hn:=hS.update (w':=w') (J':=J.set id (.row E sz by' g false xs')) (μ':=μ) id (fR (μ id)) hg (fun b iX=>⟨_,hb,by simp,iX⟩) (by simp) (fun j hj=>ay (fun e=>hj e.symm)) (fun _ _=>rfl)
  (fun b iX=>.inl ⟨_,hb,by simp,iX⟩)
  (fun b off u o h1 _ h2 _ h4=>absurd ⟨id,o,h1,h2,by rw[hb]at h1;simp only[aa]at h1;subst h1;intro hf;simp at hf⟩ h4)
  (fun T cs h3=>by rw[hb]at h3;simp at h3)
  (fun K E es h3=>by rw[hb]at h3;simp at h3)
  (fun E2 sz2 by2 g2 sh2 xs2 _ h3=>by
   simp only[ak cM,aa,Ob.row.injEq]at h3;obtain⟨rfl,rfl,rfl,rfl,rfl,rfl⟩:=h3;exact⟨g,false,xs,hb,aq _,fun _=>⟨hl.symm,rfl⟩⟩)
  (fun hp o h3=>by
   simp only[ak cM,aa]at h3;subst h3;obtain⟨Gq,_⟩:=hS.obj id _ hb;exact⟨Gq,vals',eu,bT.dY hp.dY⟩)
 exact⟨.fa [],.tuple #[],_,μ,rfl,⟨rfl,rfl⟩,hn.1,.fa [] #[] rfl (by simp),hn.2.dY⟩
end Go.Pm

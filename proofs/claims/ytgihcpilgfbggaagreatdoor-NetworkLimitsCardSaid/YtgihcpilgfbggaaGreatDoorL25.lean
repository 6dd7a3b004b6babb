/- A part of the proof that for every input the law NetworkLimits returns true and leaves its argument as it was. -/
import Derived.Laws.CopyRow
import Derived.Shelf.Spec.SlicesInsertGrow
import Derived.Test.YtgihcpilgfbggaaGreatDoorL22
set_option linter.all false

namespace Go.Pm
open Go Go.RowKit
theorem qK{P:Program}(w:World)(dT sT ty elem:TypeId)(g o dLen dCap:Nat)(a:Addr)(sLen sCap:Nat)(cur:Array Value)(t:TypeId)(cs:List Value)(k:Nat)
  (hu:P.underlying dT=some (.slice elem)) (hs:(P.info? elem).map (·.size)=some k)
  (hg:w.heap[g]?=some (.cells cur t (0,0))) (hn:cs.length=Nat.min sLen dLen*k)
  (zj:∀ j v,cs[j]?=some v→w.cell? (a.add j)=some v) (mR:o+cs.length≤cur.size) (h1:∀ v∈cs,v.oneCell'=true) :
  (Builtin.copy_ #[dT,sT] ty #[.slice (some ⟨g,o,none⟩) dLen dCap,.slice (some a) sLen sCap]).run P w =
   .ok (goInt (Nat.min sLen dLen:Nat)) (w.setRow g (cur.toList.take o++cs++cur.toList.drop (o+cs.length)).toArray):=by
 have hl:=run_loadCells_list (P:=P) w a cs zj;have py:=run_storeCells_at P g o t cs 0 cur w hg (by simpa using mR) h1;cases hq:P.info? elem with
 | none=>simp[hq]at hs
 | some i =>
  have hi:i.size=k:=by simpa[hq]using hs
  simp[Builtin.copy_,run_underlying hu,Builtin.lenOf,Builtin.firstCells,sizeOf,typeInfo,hq,hi,← hn,hl,py]
theorem PC.We{P:Program}{f:Nat}{args:List V}{σ:ah}{id E sz by' g:Nat}{xs xs':List (List V)}(hb:σ[id]?=some (.row E sz by' g false xs))
  (h:∀ (B:Nat) (w0 w:World) (μ:Mem) (vs:Array Value),gM P B w0 w σ μ→Qw w σ μ args vs→Calls P f vs w fun e w'=>∃ v' vals',e=.returned v'∧w.grownBy w' (iT (μ id))∧(∀ b,iT v'=some b→iT (μ id)=some b∨w.heap.size≤b)∧w'.ownsRow B E sz v' xs'.length vals'∧jT w σ μ xs' sz vals') :
  PC P f args σ (fun r σ'=>r=.own id (g+1)∧σ'=σ.set id (.row E sz by' (g+1) false xs')):=by
 intro B w0 w μ vs hS hv;refine(h B w0 w μ vs hS hv).mono ?_;rintro e w' ⟨v',vals',rfl,hg,jQ,gf,cm⟩;have eC:id<σ.length:=(ab.1 hb).1;have hn:=hS.grow hb (sh':=false) (xs':=xs') (v':=v') (vals:=[]) (vals':=vals') hg jQ (fun b _ j u h=>by simp at h) (.inr rfl) (fun h=>by simp at h) (fun h=>by simp at h) gf (fun σ' μ' k=>cm.eO k);have:=VR.lM (w:=w') (σ:=σ.set id (.row E sz by' (g+1) false xs')) (μ:=qH μ id v') (id:=id) (E:=E) (sz:=sz) (by':=by') (g:=g+1) (sh:=false) (xs:=xs') (aq eC);rw[dL]at this;exact⟨_,v',_,_,rfl,⟨rfl,rfl⟩,hn.1,this,hn.2.eO⟩
theorem jT.one{P:Program}{B:Nat}{w0 w:World}{σ:ah}{μ:Mem}(hS:gM P B w0 w σ μ){xs:List (List V)}{sz:Nat}{vals:List Value}(h:jT w σ μ xs sz vals)(hl:vals.length=xs.length*sz):∀ v∈vals,v.oneCell'=true:=by
 intro v hv;obtain⟨k,hk⟩:=ee.1 hv;have rG:k<xs.length*sz:=by rw[← hl];exact(ab.1 hk).1
 have hs:0<sz:=Yf (na (gF _) rG);have h1:k / sz<xs.length:=ll (by rw[fL];exact rG);obtain⟨x,hx⟩:=z8 h.1 h1 (sf k hs);obtain⟨h2,u,h3,h4⟩:=h.2 _ _ _ hx;have e:k / sz*sz+k % sz=k:=by have:=Qy k sz;rw[fL]at this;exact this
 rw[e,hk]at h3;simp only[aa]at h3;subst h3;exact(mU hS h4 (nk h2)).1
end Go.Pm

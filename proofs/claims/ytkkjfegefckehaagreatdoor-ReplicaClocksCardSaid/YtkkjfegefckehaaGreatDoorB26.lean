/- A part of the proof of the statement of the last text of this claim; its conditions stand there. -/
import Derived.Laws.CopyRow
import Derived.Shelf.Spec.SlicesInsertGrow
import Derived.Test.YtkkjfegefckehaaGreatDoorB22
set_option linter.all false

namespace Go.Pm
open Go Go.RowKit
theorem vH{P:Program}(w:World)(dT sT ty elem:TypeId)(g o dLen dCap:Nat)(a:Addr)(sLen sCap:Nat)(cur:Array Value)(t:TypeId)(cs:List Value)(k:Nat)
  (hu:P.underlying dT=some (.slice elem)) (hs:(P.info? elem).map (·.size)=some k)
  (hg:w.heap[g]?=some (.cells cur t (0,0))) (hn:cs.length=Nat.min sLen dLen*k)
  (rk:∀ j v,cs[j]?=some v→w.cell? (a.add j)=some v) (xP:o+cs.length≤cur.size) (h1:∀ v∈cs,v.oneCell'=true) :
  (Builtin.copy_ #[dT,sT] ty #[.slice (some ⟨g,o,none⟩) dLen dCap,.slice (some a) sLen sCap]).run P w =
   .ok (goInt (Nat.min sLen dLen:Nat)) (w.setRow g (cur.toList.take o++cs++cur.toList.drop (o+cs.length)).toArray):=by
 have hl:=run_loadCells_list (P:=P) w a cs rk;have EZ:=run_storeCells_at P g o t cs 0 cur w hg (by simpa using xP) h1;cases hq:P.info? elem with
 | none=>simp[hq]at hs
 | some i =>
  have hi:i.size=k:=by simpa[hq]using hs
  simp[Builtin.copy_,run_underlying hu,Builtin.lenOf,Builtin.firstCells,sizeOf,typeInfo,hq,hi,← hn,hl,EZ]
theorem PC.aea{P:Program}{f:Nat}{args:List V}{σ:ag}{id E sz by' g:Nat}{xs xs':List (List V)}(hb:σ[id]?=some (.row E sz by' g false xs))
  (h:∀ (B:Nat) (w0 w:World) (μ:Mem) (vs:Array Value),jw P B w0 w σ μ→Yh w σ μ args vs→Calls P f vs w fun e w'=>∃ v' vals',e=.returned v'∧w.grownBy w' (lf (μ id))∧(∀ b,lf v'=some b→lf (μ id)=some b∨w.heap.size≤b)∧w'.ownsRow B E sz v' xs'.length vals'∧mq w σ μ xs' sz vals') :
  PC P f args σ (fun r σ'=>r=.own id (g+1)∧σ'=σ.set id (.row E sz by' (g+1) false xs')):=by
 intro B w0 w μ vs hS hv;refine(h B w0 w μ vs hS hv).mono ?_;rintro e w' ⟨v',vals',rfl,hg,lQ,gD,cP⟩;have fk:id<σ.length:=(ae.1 hb).1;have hn:=hS.grow hb (sh':=false) (xs':=xs') (v':=v') (vals:=[]) (vals':=vals') hg lQ (fun b _ j u h=>by simp at h) (.inr rfl) (fun h=>by simp at h) (fun h=>by simp at h) gD (fun σ' μ' k=>cP.bY k);have:=VR.qc (w:=w') (σ:=σ.set id (.row E sz by' (g+1) false xs')) (μ:=wu μ id v') (id:=id) (E:=E) (sz:=sz) (by':=by') (g:=g+1) (sh:=false) (xs:=xs') (aF fk);rw[fo]at this;exact⟨_,v',_,_,rfl,⟨rfl,rfl⟩,hn.1,this,hn.2.bY⟩
theorem mq.one{P:Program}{B:Nat}{w0 w:World}{σ:ag}{μ:Mem}(hS:jw P B w0 w σ μ){xs:List (List V)}{sz:Nat}{vals:List Value}(h:mq w σ μ xs sz vals)(hl:vals.length=xs.length*sz):∀ v∈vals,v.oneCell'=true:=by
 intro v hv;obtain⟨k,hk⟩:=dr.1 hv;have tJ:k<xs.length*sz:=by rw[← hl];exact(ae.1 hk).1
 have hs:0<sz:=af7 (qy (iF _) tJ);have h1:k / sz<xs.length:=om (by rw[jL];exact tJ);obtain⟨x,hx⟩:=FD h.1 h1 (Nn k hs);obtain⟨h2,u,h3,h4⟩:=h.2 _ _ _ hx;have e:k / sz*sz+k % sz=k:=by have:=Nat.div_add_mod k sz;rw[jL]at this;exact this
 rw[e,hk]at h3;simp only[aa]at h3;subst h3;exact(s9 hS h4 (uy h2)).1
theorem PC.YU{P:Program}{f:Nat}{args:List V}{σ:ag}{id E sz by' g:Nat}{xs xs':List (List V)}(hb:σ[id]?=some (.row E sz by' g false xs))(hl:xs'.length=xs.length)
  (h:∀ (B:Nat) (w0 w:World) (μ:Mem) (vs:Array Value),jw P B w0 w σ μ→Yh w σ μ args vs→Calls P f vs w fun e w'=>∃ vals',e=.returned (.tuple #[])∧w.grownBy w' (lf (μ id))∧w'.ownsRow B E sz (μ id) xs'.length vals'∧mq w σ μ xs' sz vals') :
  PC P f args σ (fun r σ'=>r=.iK []∧σ'=σ.set id (.row E sz by' g false xs')):=by
 intro B w0 w μ vs hS hv;refine(h B w0 w μ vs hS hv).mono ?_;rintro e w' ⟨vals',rfl,hg,gD,cP⟩;have fk:id<σ.length:=(ae.1 hb).1
 have hn:=hS.update (w':=w') (σ':=σ.set id (.row E sz by' g false xs')) (μ':=μ) id (lf (μ id)) hg (fun b rl=>⟨_,hb,by simp,rl⟩) (by simp) (fun j hj=>bn (fun e=>hj e.symm)) (fun _ _=>rfl)
  (fun b rl=>.inl ⟨_,hb,by simp,rl⟩)
  (fun b off u o h1 _ h2 _ h4=>absurd ⟨id,o,h1,h2,by rw[hb]at h1;simp only[aa]at h1;subst h1;intro hf;simp at hf⟩ h4)
  (fun T cs h3=>by rw[hb]at h3;simp at h3)
  (fun K E es h3=>by rw[hb]at h3;simp at h3)
  (fun E2 sz2 by2 g2 sh2 xs2 _ h3=>by
   simp only[aF fk,aa,Ob.row.injEq]at h3;obtain⟨rfl,rfl,rfl,rfl,rfl,rfl⟩:=h3;exact⟨g,false,xs,hb,aB _,fun _=>⟨hl.symm,rfl⟩⟩)
  (fun hp o h3=>by
   simp only[aF fk,aa]at h3;subst h3;obtain⟨UI,_⟩:=hS.obj id _ hb;exact⟨UI,vals',gD,cP.bY hp.bY⟩)
 exact⟨.iK [],.tuple #[],_,μ,rfl,⟨rfl,rfl⟩,hn.1,.iK [] #[] rfl (by simp),hn.2.bY⟩
end Go.Pm

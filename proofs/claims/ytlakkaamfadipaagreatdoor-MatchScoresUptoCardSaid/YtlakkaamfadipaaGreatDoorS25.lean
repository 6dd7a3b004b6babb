/- A part of a proof; the claim's last text says of what. -/
import Derived.Laws.CopyRow
import Derived.Shelf.Spec.SlicesInsertGrow
import Derived.Test.YtlakkaamfadipaaGreatDoorS22
set_option linter.all false

namespace Go.Pm
open Go Go.RowKit
theorem mc.one{P:Program}{B:Nat}{w0 w:World}{J:ae}{μ:Mem}(hS:fx P B w0 w J μ){xs:List (List V)}{sz:Nat}{vals:List Value}(h:mc w J μ xs sz vals)(hl:vals.length=xs.length*sz):∀ v∈vals,v.oneCell'=true:=by
 intro v hv;obtain⟨k,hk⟩:=eT.1 hv;have uy:k<xs.length*sz:=by rw[← hl];exact(ab.1 hk).1
 have hs:0<sz:=aap (mR (dT _) uy);have h1:k / sz<xs.length:=lh (by rw[fa];exact uy);obtain⟨x,hx⟩:=Bi h.1 h1 (sW k hs);obtain⟨h2,u,h3,h4⟩:=h.2 _ _ _ hx;have e:k / sz*sz+k % sz=k:=by have:=Sz k sz;rw[fa]at this;exact this
 rw[e,hk]at h3;simp only[aa]at h3;subst h3;exact(mM hS h4 (nj h2)).1
theorem PC.TX{P:Program}{f:Nat}{args:List V}{J:ae}{id E sz by' g:Nat}{xs xs':List (List V)}(hb:J[id]?=some (.row E sz by' g false xs))(hl:xs'.length=xs.length)
  (h:∀ (B:Nat) (w0 w:World) (μ:Mem) (vs:Array Value),fx P B w0 w J μ→Sv w J μ args vs→Calls P f vs w fun e w'=>∃ vals',e=.returned (.tuple #[])∧w.grownBy w' (ic (μ id))∧w'.ownsRow B E sz (μ id) xs'.length vals'∧mc w J μ xs' sz vals') :
  PC P f args J (fun r J'=>r=.fi []∧J'=J.set id (.row E sz by' g false xs')):=by
 intro B w0 w μ vs hS hv;refine(h B w0 w μ vs hS hv).mono ?_;rintro e w' ⟨vals',rfl,hg,fk,cq⟩;have dc:id<J.length:=(ab.1 hb).1
 have hn:=hS.update (w':=w') (J':=J.set id (.row E sz by' g false xs')) (μ':=μ) id (ic (μ id)) hg (fun b jr=>⟨_,hb,by simp,jr⟩) (by simp) (fun j hj=>aJ (fun e=>hj e.symm)) (fun _ _=>rfl)
  (fun b jr=>.inl ⟨_,hb,by simp,jr⟩)
  (fun b off u o h1 _ h2 _ h4=>absurd ⟨id,o,h1,h2,by rw[hb]at h1;simp only[aa]at h1;subst h1;intro hf;simp at hf⟩ h4)
  (fun T cs h3=>by rw[hb]at h3;simp at h3)
  (fun K E es h3=>by rw[hb]at h3;simp at h3)
  (fun E2 sz2 by2 g2 sh2 xs2 _ h3=>by
   simp only[ar dc,aa,Ob.row.injEq]at h3;obtain⟨rfl,rfl,rfl,rfl,rfl,rfl⟩:=h3;exact⟨g,false,xs,hb,aq _,fun _=>⟨hl.symm,rfl⟩⟩)
  (fun hp o h3=>by
   simp only[ar dc,aa]at h3;subst h3;obtain⟨Jp,_⟩:=hS.obj id _ hb;exact⟨Jp,vals',fk,cq.eH hp.eH⟩)
 exact⟨.fi [],.tuple #[],_,μ,rfl,⟨rfl,rfl⟩,hn.1,.fi [] #[] rfl (by simp),hn.2.eH⟩
end Go.Pm

/- A part of a proof; the claim's last text says of what. -/
import Derived.Laws.CopyRow
import Derived.Shelf.Spec.SlicesInsertGrow
import Derived.Test.YtlakkaamfadipaaGreatDoorV23
set_option linter.all false

namespace Go.Pm
open Go Go.RowKit
theorem ma.one{P:Program}{B:Nat}{w0 w:World}{J:ae}{μ:Mem}(hS:fF P B w0 w J μ){xs:List (List V)}{sz:Nat}{vals:List Value}(h:ma w J μ xs sz vals)(hl:vals.length=xs.length*sz):∀ v∈vals,v.oneCell'=true:=by
 intro v hv;obtain⟨k,hk⟩:=eZ.1 hv;have tR:k<xs.length*sz:=by rw[← hl];exact(ab.1 hk).1
 have hs:0<sz:=ZA (mR (eY _) tR);have h1:k / sz<xs.length:=kZ (by rw[fm];exact tR);obtain⟨x,hx⟩:=AE h.1 h1 (si k hs);obtain⟨h2,u,h3,h4⟩:=h.2 _ _ _ hx;have e:k / sz*sz+k % sz=k:=by have:=RX k sz;rw[fm]at this;exact this
 rw[e,hk]at h3;simp only[aa]at h3;subst h3;exact(mK hS h4 (mY h2)).1
theorem PC.Tf{P:Program}{f:Nat}{args:List V}{J:ae}{id E sz by' g:Nat}{xs xs':List (List V)}(hb:J[id]?=some (.row E sz by' g false xs))(hl:xs'.length=xs.length)
  (h:∀ (B:Nat) (w0 w:World) (μ:Mem) (vs:Array Value),fF P B w0 w J μ→RT w J μ args vs→Calls P f vs w fun e w'=>∃ vals',e=.returned (.tuple #[])∧w.grownBy w' (ir (μ id))∧w'.ownsRow B E sz (μ id) xs'.length vals'∧ma w J μ xs' sz vals') :
  PC P f args J (fun r J'=>r=.fu []∧J'=J.set id (.row E sz by' g false xs')):=by
 intro B w0 w μ vs hS hv;refine(h B w0 w μ vs hS hv).mono ?_;rintro e w' ⟨vals',rfl,hg,fx,ck⟩;have dp:id<J.length:=(ab.1 hb).1
 have hn:=hS.update (w':=w') (J':=J.set id (.row E sz by' g false xs')) (μ':=μ) id (ir (μ id)) hg (fun b jA=>⟨_,hb,by simp,jA⟩) (by simp) (fun j hj=>aK (fun e=>hj e.symm)) (fun _ _=>rfl)
  (fun b jA=>.inl ⟨_,hb,by simp,jA⟩)
  (fun b off u o h1 _ h2 _ h4=>absurd ⟨id,o,h1,h2,by rw[hb]at h1;simp only[aa]at h1;subst h1;intro hf;simp at hf⟩ h4)
  (fun T cs h3=>by rw[hb]at h3;simp at h3)
  (fun K E es h3=>by rw[hb]at h3;simp at h3)
  (fun E2 sz2 by2 g2 sh2 xs2 _ h3=>by
   simp only[ao dp,aa,Ob.row.injEq]at h3;obtain⟨rfl,rfl,rfl,rfl,rfl,rfl⟩:=h3;exact⟨g,false,xs,hb,au _,fun _=>⟨hl.symm,rfl⟩⟩)
  (fun hp o h3=>by
   simp only[ao dp,aa]at h3;subst h3;obtain⟨Ix,_⟩:=hS.obj id _ hb;exact⟨Ix,vals',fx,ck.eO hp.eO⟩)
 exact⟨.fu [],.tuple #[],_,μ,rfl,⟨rfl,rfl⟩,hn.1,.fu [] #[] rfl (by simp),hn.2.eO⟩
end Go.Pm

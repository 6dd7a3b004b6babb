/- A part of a proof; the claim's last text says of what. -/
import Derived.Laws.CopyRow
import Derived.Shelf.Spec.SlicesInsertGrow
import Derived.Test.YtlakkaamfadipaaGreatDoorB19
set_option linter.all false

namespace Go.Pm
open Go Go.RowKit
def Bv{P:bo}(w:bD)(n z ty e:TypeId)(g o b f:Nat)(a:Addr)(d h:Nat)(c:Array Value)(t:TypeId)(cs:List Value)(k:Nat)
  (r:P.underlying n=some (.slice e)) (m:(P.info? e).map (·.size)=some k)
  (u:w.heap[g]?=some (.cells c t (0,0))) (x:cs.length=Nat.min d b*k)
  (p:∀j v,cs[j]?=some v->w.cell? (a.add j)=some v) (y:o+cs.length<=c.size) (h1:∀v∈cs,v.oneCell'=true) :
  (Builtin.copy_ #[n,z] ty #[.slice (some ⟨g,o,none⟩) b f,.slice (some a) d h]).run P w =
   .ok (goInt (Nat.min d b:Nat)) (w.setRow g (c.toList.take o++cs++c.toList.drop (o+cs.length)).toArray):=by
 have q:=run_loadCells_list (P:=P) w a cs p;have A:=run_storeCells_at P g o t cs 0 c w u (by simpa using y) h1;cases l:P.info? e with
 |none=>simp[l]at m
 |some i =>
  have s:i.size=k:=by simpa[l]using m
  simp[Builtin.copy_,run_underlying r,Builtin.lenOf,Builtin.firstCells,sizeOf,typeInfo,l,s,<- x,q,A]
def PC.Vr{P:bo}{f:Nat}{args:aB}{J:ak}{id E sz by' g:Nat}{xs xs':dF}(c:J[id]?=some (.row E sz by' g false xs))
  (h:∀(B:Nat) (w0 w:bD) (μ:Mem) (a:Array Value),lj P B w0 w J μ->VRs w J μ args a->Calls P f a w λe w'=>∃v' vals',e=.returned v'/\w.grownBy w' (lZ (μ id))/\(∀b,lZ v'=some b->lZ (μ id)=some b\/w.heap.size<=b)/\w'.ownsRow B E sz v' xs'.length vals'/\kN w J μ xs' sz vals') :
  PC P f args J (λr J'=>r=.own id (g+1)/\J'=J.set id (.row E sz by' (g+1) false xs')):=by
 intro B w0 w μ a i s;refine(h B w0 w μ a i s).mono ?_;rintro e w' ⟨v',vals',rfl,m,q,o,p⟩;have l:id<J.length:=(ah.1 c).1;have d:=i.grow c (sh':=false) (xs':=xs') (v':=v') (vals:=[]) (vals':=vals') m q (λb _ j u h=>by simp at h) (.inr rfl) (λh=>by simp at h) (λh=>by simp at h) o (λJ' n k=>p.jF k);have:=VR.uq (w:=w') (J:=J.set id (.row E sz by' (g+1) false xs')) (μ:=yO μ id v') (id:=id) (E:=E) (sz:=sz) (by':=by') (g:=g+1) (sh:=false) (xs:=xs') (aL l);rw[gR]at this;exact⟨_,v',_,_,rfl,⟨rfl,rfl⟩,d.1,this,d.2.jF⟩
def kN.one{P:bo}{B:Nat}{w0 w:bD}{J:ak}{μ:Mem}(m:lj P B w0 w J μ){xs:dF}{sz:Nat}{vals:List Value}(h:kN w J μ xs sz vals)(d:vals.length=xs.length*sz):∀v∈vals,v.oneCell'=true:=by
 intro v j;obtain⟨k,c⟩:=ed.1 j;have b:k<xs.length*sz:=by rw[<- d];exact(ah.1 c).1
 have g:0<sz:=aoY (v8 (fA _) b);have n:k / sz<xs.length:=td (by rw[kD];exact b);obtain⟨x,i⟩:=Mo h.1 n (tc k g);obtain⟨f,u,a,l⟩:=h.2 _ _ _ i;have e:k / sz*sz+k % sz=k:=by have:=afK k sz;rw[kD]at this;exact this
 rw[e,c]at a;simp only[ae]at a;subst a;exact(vU m l (wI f)).1
def PC.ahg{P:bo}{f:Nat}{args:aB}{J:ak}{id E sz by' g:Nat}{xs xs':dF}(c:J[id]?=some (.row E sz by' g false xs))(C:xs'.length=xs.length)
  (h:∀(B:Nat) (w0 w:bD) (μ:Mem) (d:Array Value),lj P B w0 w J μ->VRs w J μ args d->Calls P f d w λe w'=>∃vals',e=.returned (.tuple #[])/\w.grownBy w' (lZ (μ id))/\w'.ownsRow B E sz (μ id) xs'.length vals'/\kN w J μ xs' sz vals') :
  PC P f args J (λr J'=>r=.iQ []/\J'=J.set id (.row E sz by' g false xs')):=by
 intro B w0 w μ d l H;refine(h B w0 w μ d l H).mono ?_;rintro e w' ⟨vals',rfl,q,x,G⟩;have m:id<J.length:=(ah.1 c).1
 have n:=l.update (w':=w') (J':=J.set id (.row E sz by' g false xs')) (μ':=μ) id (lZ (μ id)) q (λb k=>⟨_,c,by simp,k⟩) (by simp) (λj I=>bz (λe=>I e.symm)) (λ_ _=>rfl)
  (λb k=>.inl ⟨_,c,by simp,k⟩)
  (λb A u o i _ p _ t=>absurd ⟨id,o,i,p,by rw[c]at i;simp only[ae]at i;subst i;intro y;simp at y⟩ t)
  (λT N a=>by rw[c]at a;simp at a)
  (λK E Q a=>by rw[c]at a;simp at a)
  (λO s L M D z _ a=>by
   simp only[aL m,ae,Ob.row.injEq]at a;obtain⟨rfl,rfl,rfl,rfl,rfl,rfl⟩:=a;exact⟨g,false,xs,c,aD _,λ_=>⟨C.symm,rfl⟩⟩)
  (λv o a=>by
   simp only[aL m,ae]at a;subst a;obtain⟨F,_⟩:=l.obj id _ c;exact⟨F,vals',x,G.jF v.jF⟩)
 exact⟨.iQ [],.tuple #[],_,μ,rfl,⟨rfl,rfl⟩,n.1,.iQ [] #[] rfl (by simp),n.2.jF⟩
end Go.Pm

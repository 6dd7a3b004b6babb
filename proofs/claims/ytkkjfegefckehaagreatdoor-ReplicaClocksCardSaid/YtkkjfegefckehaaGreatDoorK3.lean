/- A part of the proof of the statement of the last text of this claim; its conditions stand there. -/
import Derived.Test.YtkkjfegefckehaaGreatDoorB31
set_option linter.all false

namespace Go.Proofs.Tryz
open Go Go.Pm Go.ChangeShapes Go.WideShapes Go.ChangeAt Go.RowKit
theorem mC{P:Program}{W:World}{r:Reach}{base:Nat}{t e:TypeId}{a:Addr}{len cap:Nat}(ht:P.underlying t=some (.slice e))(h:Value.okWide P W r base t (.slice (some a) len cap)):a.spot=none:=by
 simp only[Value.okWide,ht,Cell.okWide,Cell.ok]at h;exact h.2.2.2.1
theorem qw{H:Type}{enc:TypeId×Value→H}{P:Program}{W:World}{r:Reach}{base:Nat}{t e:TypeId}{v:Value}{d:DataW H}{p:List MemPlace}{k:IntKind}(μ:Mem)(ht:P.underlying t=some (.slice e))(he:P.underlying e=some (.int k))(hc:P.cellsOf e=1)
  (im:Value.okWide P W r base t v) (hd:DataW.Trod enc P W 0 (fun _=>true) true t v d p):∃ l:List Int,VR W [] μ (.sl 1 (l.map fun n=>[.i k n])) v∧∀ n∈l,(Lit.int k n).wf=true:=by
 obtain⟨a0,len,cap,rfl⟩:=okWide_slice ht im;obtain⟨fuel,hf⟩:=hd;rw[mK]at hf;rcases open_ints ht he hc hf with⟨h0,_⟩ | ⟨a,len',cap',zs,h0,_,hl,hm,hz,_,jy,cz⟩
 ·simp only[ca,and_true,Value.slice.injEq]at h0;obtain⟨rfl,rfl,rfl⟩:=h0;exact⟨[],.yq _,by simp⟩
 ·simp only[ca,and_true,Value.slice.injEq]at h0;obtain⟨rfl,rfl,rfl⟩:=h0;have Ax:=mC ht im;obtain⟨b,o,s⟩:=a;simp only at Ax;subst Ax;simp only[if_true]at hz;refine⟨zs.take len,?_,fun n hn=>cz n (ct hn)⟩
  have dY:∀ i j x,fe ((zs.take len).map fun n=>[V.i k n]) i j=some x→j=0∧i<len∧x=.i k (zs.getD i 0):=by
   intro i j x hx;simp only[fe,ga,aZ,ar]at hx;obtain⟨row,⟨n,hn,rfl⟩,hj⟩:=hx
   have qB:i<len:=by
    have:=(ae.1 hn).1;simp at this;omega
   rcases j with _ | j
   ·simp only[ao,aa]at hj;refine⟨rfl,qB,?_⟩;rw[bz qB]at hn;rw[← hj,List.getD_eq_getElem?_getD,hn];rfl
   ·simp at hj
  have hlen:((zs.take len).map fun n=>[V.i k n]).length=len:=by simp;omega
  have:=VR.sl (w:=W) (σ:=[]) (μ:=μ) 1 ((zs.take len).map fun n=>[V.i k n]) b o cap (fun i _=>.int k (zs.getD i 0)) (by omega) hm (fun r hr=>by obtain⟨n,_,rfl⟩:=bK.1 hr;rfl) (fun i j x hx=>by
   obtain⟨rfl,hi,rfl⟩:=dY i j x hx;refine⟨?_,wE,rfl⟩;have:=jy i (by omega)
   have e:(Addr.mk b o none).add i=⟨b,o+i*1+0,none⟩:=by
    simp only[Addr.add];split
    ·rename_i h;subst h;simp
    ·simp
   rwa [e]at this) (fun i j x hx=>by
   obtain⟨rfl,hi,rfl⟩:=dY i j x hx;exact .i _ _)
  rwa [hlen]at this
end Go.Proofs.Tryz

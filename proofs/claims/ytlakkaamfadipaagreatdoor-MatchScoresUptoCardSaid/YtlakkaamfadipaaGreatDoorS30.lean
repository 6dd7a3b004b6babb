/- A part of a proof; the claim's last text says of what. -/
import Derived.ChangeSlices
import Derived.Test.YtlakkaamfadipaaGreatDoorS29
set_option linter.all false

namespace Go.Proofs.Tryz
open Go Go.Pm Go.ChangeShapes Go.WideShapes Go.ChangeAt Go.RowKit
theorem Ee{a:Option Addr}{len cap:Nat}:(Value.slice a len cap).cells.toList=[Value.slice a len cap]:=by
 simp[Value.cells]
theorem GL{P:Program}{W:World}{r:Reach}{base:Nat}{t e:TypeId}{a:Addr}{len cap:Nat}(ht:P.underlying t=some (.slice e))(h:Value.okWide P W r base t (.slice (some a) len cap)):a.spot=none:=by
 simp only[Value.okWide,ht,Cell.okWide,Cell.ok]at h;exact h.2.2.2.1
theorem I0{μ:Mem}{b off:Nat}:¬ wr [] μ b off:=by
 rintro⟨id,o,h,_⟩;simp at h
theorem Pt{H:Type}{enc:TypeId×Value→H}{P:Program}{W:World}{r:Reach}{base:Nat}{t e:TypeId}{v:Value}{d:DataW H}{p:List MemPlace}{k:IntKind}(μ:Mem)(ht:P.underlying t=some (.slice e))(he:P.underlying e=some (.int k))(hc:P.cellsOf e=1)
  (qy:Value.okWide P W r base t v) (hd:DataW.Trod enc P W 0 (fun _=>true) true t v d p):∃ l:List Int,VR W [] μ (.sl 1 (l.map fun n=>[.i k n])) v∧∀ n∈l,(Lit.int k n).wf=true:=by
 obtain⟨a0,len,cap,rfl⟩:=okWide_slice ht qy;obtain⟨fuel,hf⟩:=hd;rw[Ee]at hf;rcases open_ints ht he hc hf with⟨h0,_⟩ | ⟨a,len',cap',zs,h0,_,hl,hm,hz,_,nA,dx⟩
 ·simp only[fc,fq,Value.slice.injEq]at h0;obtain⟨rfl,rfl,rfl⟩:=h0;exact⟨[],.Ae _,by simp⟩
 ·simp only[fc,fq,Value.slice.injEq]at h0;obtain⟨rfl,rfl,rfl⟩:=h0;have BD:=GL ht qy;obtain⟨b,o,s⟩:=a;simp only at BD;subst BD;simp only[aL]at hz;refine⟨zs.take len,?_,fun n hn=>dx n (fu hn)⟩
  have eA:∀ i j x,eS ((zs.take len).map fun n=>[V.i k n]) i j=some x→j=0∧i<len∧x=.i k (zs.getD i 0):=by
   intro i j x hx;simp only[eS,xn,a8,aj]at hx;obtain⟨row,⟨n,hn,rfl⟩,hj⟩:=hx
   have r8:i<len:=by
    have:=(ab.1 hn).1;simp at this;omega
   rcases j with _ | j
   ·simp only[aw,aa]at hj;refine⟨rfl,r8,?_⟩;rw[bg r8]at hn;rw[← hj,an,hn];rfl
   ·simp at hj
  have hlen:((zs.take len).map fun n=>[V.i k n]).length=len:=by simp;omega
  have:=VR.sl (w:=W) (J:=[]) (μ:=μ) 1 ((zs.take len).map fun n=>[V.i k n]) b o cap (fun i _=>.int k (zs.getD i 0)) (by omega) hm (fun r hr=>by obtain⟨n,_,rfl⟩:=bH.1 hr;rfl) (fun i j x hx=>by
   obtain⟨rfl,hi,rfl⟩:=eA i j x hx;refine⟨?_,I0,rfl⟩;have:=nA i (by omega)
   have e:(Addr.mk b o none).add i=⟨b,o+i*1+0,none⟩:=by
    simp only[Addr.add];split
    ·rename_i h;subst h;simp
    ·simp
   rwa [e]at this) (fun i j x hx=>by
   obtain⟨rfl,hi,rfl⟩:=eA i j x hx;exact .i _ _)
  rwa [hlen]at this
end Go.Proofs.Tryz

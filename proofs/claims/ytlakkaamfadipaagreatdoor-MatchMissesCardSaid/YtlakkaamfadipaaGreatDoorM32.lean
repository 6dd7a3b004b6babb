/- A part of a proof; the claim's last text says of what. -/
import Derived.ChangeSlices
import Derived.Test.YtlakkaamfadipaaGreatDoorM31
set_option linter.all false

namespace Go.Proofs.Tryz
open Go Go.Pm Go.ChangeShapes Go.WideShapes Go.ChangeAt Go.RowKit
variable{b:Nat}{r:Reach}{P:aM}
def HQ{a:Option Addr}{len b:Nat}:(Value.slice a len b).cells.toList=[Value.slice a len b]:=by simp[Value.cells]
def Kq{W:aT}{t e:TypeId}{a:Addr}{len c:Nat}(d:P.underlying t=some (.slice e))(h:Value.okWide P W r b t (.slice (some a) len c)):a.spot=none:=by simp only[Value.okWide,d,Cell.okWide,Cell.ok]at h;exact h.2.2.2.1
def adz{c:Mem}{a:Nat}:¬wr [] c b a:=by rintro⟨id,o,h,_⟩;simp at h
def JM{H:Type}{z:TypeId×Value->H}{W:aT}{t e:TypeId}{v:Value}{d:DataW H}{p:List MemPlace}{k:IntKind}(μ:Mem)(u:P.underlying t=some (.slice e))(he:P.underlying e=some (.int k))(hc:P.cellsOf e=1) (L:Value.okWide P W r b t v) (O:DataW.Trod z P W 0 (λ_=>true) true t v d p):∃l:bG,VR W [] μ (.sl 1 (l.map λn=>[.i k n])) v/\∀n∈l,(Lit.int k n).wf=true:=by
 obtain⟨a0,len,y,rfl⟩:=okWide_slice u L;obtain⟨M,I⟩:=O;rw[HQ]at I;rcases open_ints u he hc I with⟨g,_⟩|⟨a,G,D,zs,g,_,hl,X,S,_,R,Q⟩;.simp only[C8,lq,Value.slice.injEq]at g;obtain⟨rfl,rfl,rfl⟩:=g;exact⟨[],.Dh _,by simp⟩
 simp only[C8,lq,Value.slice.injEq]at g;obtain⟨rfl,rfl,rfl⟩:=g;have E:=Kq u L;obtain⟨c,o,s⟩:=a;simp only at E;subst E;simp only[aU]at S;refine⟨zs.take len,?_,λn q=>Q n (dv q)⟩;have C:∀i j x,gp ((zs.take len).map λn=>[V.i k n]) i j=some x->j=0/\i<len/\x=.i k (zs.getD i 0):=by
  intro i j x f;simp only[gp,afP,bu,al]at f;obtain⟨row,⟨n,q,rfl⟩,B⟩:=f;have K:i<len:=by have:=(ab.1 q).1;simp at this;omega
  rcases j with _|j;.simp only[aH,aa]at B;refine⟨rfl,K,?_⟩;rw[bF K]at q;rw[<- B,aq,q];rfl
  simp at B
 have m:((zs.take len).map λn=>[V.i k n]).length=len:=by simp;omega
 have:=VR.sl (w:=W) (J:=[]) (μ:=μ) 1 ((zs.take len).map λn=>[V.i k n]) c o y (λi _=>.int k (zs.getD i 0)) (by omega) X (λr T=>by obtain⟨n,_,rfl⟩:=br.1 T;rfl) (λi j x f=>by
  obtain⟨rfl,U,rfl⟩:=C i j x f;refine⟨?_,adz,rfl⟩;have:=R i (by omega);have e:(Addr.mk c o none).add i=⟨c,o+i*1+0,none⟩:=by
   simp only[Addr.add];split;.rename_i h;subst h;simp
   simp
  rwa [e]at this) (λi j x f=>by obtain⟨rfl,U,rfl⟩:=C i j x f;exact .i _ _);rwa [m]at this
end Go.Proofs.Tryz

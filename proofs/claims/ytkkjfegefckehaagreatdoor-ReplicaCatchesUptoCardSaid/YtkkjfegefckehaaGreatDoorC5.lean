/- A part of the proof of the statement of the last text of this claim; its conditions stand there. -/
import Derived.Deep.Slices
import Derived.Deep.Strs
import Derived.Test.YtkkjfegefckehaaGreatDoorB19
import Derived.Test.YtkkjfegefckehaaGreatDoorB31
set_option linter.all false

namespace Go.Proofs.Tryz
open Go Go.Pm Go.Bt Go.ChangeShapes Go.WideShapes Go.ChangeAt Go.RowKit Go.Proofs.YtkkjfegefckehaaGreatDoor
theorem kK{H:Type}{d:DataW H}:∀ {l:List (DataW H)},d∈l→Rows.uptoBulk d≤Rows.uptoBulkAll l
 | [],h=>by cases h
 | x::r,h=>by
  simp only[Rows.uptoBulkAll];rcases aU.1 h with rfl | h
  ·omega
  ·have:=kK h;omega
theorem ju:prog.cellsOf 3=1∧prog.cellsOf 9=1∧prog.cellsOf 25=1∧prog.cellsOf 22=1∧prog.cellsOf 76=3∧prog.cellsOf 24=3∧prog.cellsOf 27=8∧prog.cellsOf 29=13:=by
 refine⟨by kernel_rfl,by kernel_rfl,by kernel_rfl,by kernel_rfl,by kernel_rfl,by kernel_rfl,by kernel_rfl,by kernel_rfl⟩
section
variable {H:Type} {enc:TypeId×Value→H} {W:World} {base:Nat} {held:Bool} (μ:Mem)
structure ItC (cs:List Value) (y:Int×ByteArray×Int) (B:Nat):Prop where
 cells:cs=[.int .i64 y.1,.string y.2.1,.int .i64 y.2.2]
 size:y.2.1.size≤maxLen
 id : -9223372036854775808≤y.2.2∧y.2.2≤9223372036854775807
 aaQ:y.2.1.size+1≤B
theorem pX{b o k:Nat}:(Addr.mk b o none).add k=⟨b,o+k,none⟩:=by
 simp only[Addr.add];split
 ·rename_i h;subst h;simp
 ·rfl
theorem vF{n:Nat}{t e:TypeId}{v:Value}{x:DataW H×List MemPlace}(ht:prog.underlying t=some (.slice e))(hk:0<prog.cellsOf e)(h:DataW.trod enc prog W base (fun _=>true) held n t [v]=some x):
  (∀ a len cap,v=.slice (some a) len cap→a.spot=none)∨∃ a,v=.slice (some a) 0 0:=by
 rcases Deep.open_slice ht h with⟨h0,_⟩ | ⟨a,len,cap,m,n',D,Pl,h0,_,hl,hm,Tf,_,hx⟩
 ·simp only[ca,and_true]at h0;subst h0;exact .inl fun a len cap h=>by simp at h
 ·simp only[ca,and_true]at h0;simp only[if_true]at Tf;subst Tf
  by_cases h1:m=0
  ·subst h1;have:len=0:=by omega
   subst this;exact .inr ⟨a,h0⟩
  ·refine .inl fun a' len' cap' h=>?_;rw[h0]at h;simp only[Value.slice.injEq,aa]at h;obtain⟨rfl,_,_⟩:=h;obtain⟨cs',h2,_⟩:=hx 0 (by omega);obtain⟨_,h4,h3⟩:=World.cells?_some h2;have h3:=h3 0 hk;rw[aw (by omega)]at h3;simp only[QY,Addr.add,if_true,World.cell?]at h3;cases hs:a.spot with
   | none=>rfl
   | some s =>
    rw[hs]at h3;split at h3<;>simp at h3
theorem oR{H:Type}:∀ (l:List (DataW H)),l.length≤Rows.uptoBulkAll l
 | []=>by simp[Rows.uptoBulkAll]
 | d::r=>by
  have h1:=oR r
  have h2:1≤Rows.uptoBulk d:=by cases d with
   | lit l=>cases l<;>simp[Rows.uptoBulk]
   | nil=>simp[Rows.uptoBulk]
   | ptr d=>simp[Rows.uptoBulk]
   | slice elems spare=>simp[Rows.uptoBulk]
   | agg parts=>simp[Rows.uptoBulk]
   | iface t d=>simp[Rows.uptoBulk]
   | map entries=>simp[Rows.uptoBulk]
   | held h=>simp[Rows.uptoBulk]
  simp only[Rows.uptoBulkAll,ab];omega
theorem rG{n:Nat}{v:Value}{x:DataW H×List MemPlace}(h:DataW.trod enc prog W base (fun _=>true) held n 22 [v]=some x):
  ∃ l:List Int,VR W [] μ (.sl 1 (l.map bj)) v∧l.length≤Rows.uptoBulk x.1:=by
 rcases vF underlying22 (by rw[ju.1];decide) h with hs | ⟨a,rfl⟩
 case inr=>exact⟨[],.sle _ a,by simp⟩
 rcases open_ints underlying22 underlying3 ju.1 h with⟨h0,rfl⟩ | ⟨a,len,cap,zs,h0,_,hl,hm,hz,rfl,jy,cz⟩
 ·simp only[ca,and_true]at h0;subst h0;exact⟨[],.yq _,by simp⟩
 ·simp only[ca,and_true]at h0;have Ax:=hs _ _ _ h0;obtain⟨b,o,s⟩:=a;simp only at Ax;subst Ax;subst h0;have hle:len≤zs.length:=by rw[hz];split<;>omega
  have dY:∀ i j x,fe ((zs.take len).map bj) i j=some x→j=0∧i<len∧x=.i .i64 (zs.getD i 0):=by
   intro i j x hx;simp only[fe,ga,aZ,ar]at hx;obtain⟨row,⟨n,hn,rfl⟩,hj⟩:=hx
   have qB:i<len:=by
    have:=(ae.1 hn).1;simp at this;omega
   rcases j with _ | j
   ·simp only[bj,ao,aa]at hj;refine⟨rfl,qB,?_⟩;rw[bz qB]at hn;rw[← hj,List.getD_eq_getElem?_getD,hn];rfl
   ·simp[bj]at hj
  have hlen:((zs.take len).map bj).length=len:=by simp;omega
  refine⟨zs.take len,?_,?_⟩
  ·have:=VR.sl (w:=W) (σ:=[]) (μ:=μ) 1 ((zs.take len).map bj) b o cap (fun i _=>.int .i64 (zs.getD i 0)) (by omega) hm (fun r hr=>by obtain⟨n,_,rfl⟩:=bK.1 hr;rfl) (fun i j x hx=>by
    obtain⟨rfl,hi,rfl⟩:=dY i j x hx;have:=jy i (by omega);rw[pX]at this;simp only[qC,bC];exact⟨this,wE,rfl⟩) (fun i j x hx=>by
    obtain⟨rfl,hi,rfl⟩:=dY i j x hx;exact .i _ _)
   rwa [hlen]at this
  ·have:=oR (H:=H) (lits .i64 (zs.take len));simp only[Rows.uptoBulk];have e:(lits (H:=H) .i64 (zs.take len)).length=(zs.take len).length:=by simp[lits]
   omega
def Reads(W:World)(μ:Mem)(xs:List V)(cs:List Value):Prop:=xs.length=cs.length∧∀ (i:Nat) (x:V) (v:Value),xs[i]?=some x→cs[i]?=some v→VR W [] μ x v
theorem Reads.nil:Reads W μ [] []:=⟨rfl,by simp⟩
theorem Reads.cons{x:V}{v:Value}{xs:List V}{cs:List Value}(h:VR W [] μ x v)(t:Reads W μ xs cs):Reads W μ (x::xs) (v::cs):=by
 refine⟨by simp[t.1],fun i y u hy hu=>?_⟩;cases i with
 | zero=>simp only[ao,aa]at hy hu;subst hy;subst hu;exact h
 | succ i=>exact t.2 i y u (by simpa using hy) (by simpa using hu)
theorem drop_take{α:Type}{a b c d e f g h:α}:([a,b,c,d,e,f,g,h].drop 0).take 1=[a]∧([a,b,c,d,e,f,g,h].drop 1).take 1=[b]∧([a,b,c,d,e,f,g,h].drop 2).take 1=[c]∧([a,b,c,d,e,f,g,h].drop 3).take 1=[d] ∧
  ([a,b,c,d,e,f,g,h].drop 4).take 1=[e]∧([a,b,c,d,e,f,g,h].drop 5).take 1=[f]∧([a,b,c,d,e,f,g,h].drop 6).take 1=[g]∧([a,b,c,d,e,f,g,h].drop 7).take 1=[h]:=⟨rfl,rfl,rfl,rfl,rfl,rfl,rfl,rfl⟩
theorem Reads.app{xs ys:List V}{cs ds:List Value}(h:Reads W μ xs cs)(k:Reads W μ ys ds):Reads W μ (xs++ys) (cs++ds):=by
 refine⟨by simp[h.1,k.1],fun i x v hx hv=>?_⟩;rcases fV i xs.length with hl | hg
 ·rw[aH hl]at hx;rw[aH (by rw[← h.1];exact hl)]at hv;exact h.2 i x v hx hv
 ·rw[aN hg]at hx;rw[aN (by rw[← h.1];exact hg),← h.1]at hv;exact k.2 _ x v hx hv
end
set_option maxRecDepth 100000 in
theorem r7{H:Type}{enc:TypeId×Value→H}{W:World}{r:Reach}{base:Nat}{v:Value}{d:DataW H}{p:List MemPlace}(μ:Mem)(im:Value.okWide prog W r base 22 v)(hd:DataW.Trod enc prog W 0 (fun _=>true) true 22 v d p)(hB:Rows.uptoBulk d≤1048576):
  ∃ l:List Int,VR W [] μ (.sl 1 (l.map bj)) v∧l.length<2^62:=by
 obtain⟨a0,len,cap,rfl⟩:=okWide_slice underlying22 im;obtain⟨fuel,hf⟩:=hd;rw[mK]at hf;obtain⟨l,h1,h2⟩:=rG μ hf;exact⟨l,h1,by simp only at h2;omega⟩
end Go.Proofs.Tryz

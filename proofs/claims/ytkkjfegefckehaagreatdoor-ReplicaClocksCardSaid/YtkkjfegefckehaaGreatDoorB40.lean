/- A part of the proof of the statement of the last text of this claim; its conditions stand there. -/
import Derived.Test.YtkkjfegefckehaaGreatDoorB3
import Derived.Test.YtkkjfegefckehaaGreatDoorB39
set_option linter.all false

namespace Go.Proofs.Tryz
open Go Go.Pm Go.Bt Go.RowKit
theorem LK(f:Nat)(caps:List V)(σ:ag):PC prog 56 [.nil,.fn f caps] σ (fun r σ'=>r=.iK []∧σ'=σ):=by
 refine PC.B5 fun w μ vs hv=>?_;have a0:=(hv.2 0 _ rfl).lG
 have e:vs=#[.slice none 0 0,vs.getD 1 undef]:=by
  obtain⟨q⟩:=vs
  match q,hv.1 with
  | [u,v],_=>simp at a0 ⊢;exact a0
 rw[e];exact⟨_,AnyF.slices_SortFunc_none Tryz.RB none 0 _ w,.iK [] #[] rfl (by simp)⟩
theorem QC(σ:ag):PC prog 93 [.sl 1 []] σ (fun r σ'=>r=.i .i64 0∧σ'=σ):=by
 refine PC.intro func93 c93 fun aQ cz=>aj ?_;simp only[p93,SS,seval];simp only[VV,seval];exact⟨fun _=>aO (.inr rfl) rfl ⟨rfl,rfl⟩,fun h=>by simp at h⟩
theorem JF(σ:ag):PC prog 54 [.sl 1 []] σ (fun r σ'=>r=.iK [.nil,.i .i64 0]∧σ'=σ):=by
 refine PC.intro func54 c54 fun aQ cz=>aj ?_;simp only[p54,SS,seval];simp only[VV,seval];refine bA.pd 1 (ax fun R hR=>?_);simp only[JY,VV,Int.reduceToNat,reduceIte];refine⟨by decide,?_⟩;refine ai (QC _) rfl ?_;simp only[VV,seval];exact aO (.inr rfl) rfl ⟨rfl,rfl⟩
theorem L1(σ:ag):PC prog 53 [.sl 1 []] σ (fun r σ'=>r=.sl 1 []∧σ'=σ):=by
 refine PC.intro func53 c53 fun aQ cz=>aj ?_;simp only[p53,SS,seval];simp only[VV,seval];refine ai (JF _) rfl ?_;simp only[VV,Int.reduceToNat,reduceIte];refine⟨by decide,?_⟩;refine ai (oC [] (by decide) _) rfl ?_;simp only[VV,seval];exact aO (.inr rfl) rfl ⟨rfl,rfl⟩
theorem Jz(n:Int)(σ:ag):PC prog 16 [.agg (cc.cells ⟨n,0,[],[],0,true⟩)] σ (fun r σ'=>r=.iK [.agg (cc.cells ⟨n,0,[],[],0,false⟩),.i .i64 0]∧σ'=σ):=by
 refine PC.intro func16 c16 fun aQ cz=>aj ?_;simp only[p16,SS,seval];simp only[cc.cells,al,az,VV,seval];intro X;refine ai (L1 _) rfl ?_;simp only[VV,Nat.reduceAdd,Nat.reduceLeDiff,reduceIte];refine ai (JF _) rfl ?_;simp only[VV];refine bA.pd 1 (ax fun R hR=>?_);simp only[J2,VV,reduceIte];refine⟨fun h=>by simp at h,fun _=>?_⟩;refine ai (LK 57 [] _) rfl ?_;simp only[VV,Nat.reduceAdd];refine dv aQ (.inr rfl) (by simp only[RS,Nat.reduceAdd,reduceIte];rfl) (.cons (Cv.ir (.cons (.refl _) (.cons (.refl _) (.cons (.nil _) (.cons (.refl _) (.cons (.refl _) (.cons (.refl _) .nil))))))) (.cons (.refl _) .nil)) (by simp only[LW]) ⟨rfl,rfl⟩
def Xz(k n:Nat):Nat→Nat:=fun o=>if o=k then n else 0
theorem Gi{l:List aJ}{k n:Nat}(hn:n<2^40)(h1:∀ j:Nat,j<n→∃ x∈l,kG x=((k:Int),(j:Int)+1))(h2:∀ x∈l,∃ j:Nat,j<n∧kG x=((k:Int),(j:Int)+1)):jR l (Xz k n):=by
 refine⟨fun o _=>?_,fun o _ j hj=>?_,fun o _ x hx he=>?_⟩
 ·unfold Xz;split<;>omega
 ·unfold Xz at hj;split at hj
  ·rename_i h;subst h;exact h1 j hj
  ·omega
 ·obtain⟨j,hj,h3⟩:=h2 x hx;rw[h3]at he;simp only[aI]at he;obtain⟨h4,h5⟩:=he;have:k=o:=by omega
  subst this;simp only[Xz,if_true]at h5;omega
theorem mH(s t:Int)(σ:ag):PC prog 18 [.i .i64 s,.i .i64 t] σ (fun r σ'=>r=.agg (cJ s t).cells∧σ'=σ):=by
 refine PC.intro func18 c18 fun aQ cz=>aj ?_;simp only[p18,SS,seval];have hs:=kP (x:=s) (n:=3) (by decide);have ht:=kP (x:=t) (n:=4) (by decide)
 have e1:fe [[V.s [83,97,118,101]],[V.s [120]],[V.s [114,101,100]]] (place s 3).toNat 0=some (.s (LJ.getD (place s 3).toNat [])):=by
  rcases(show(place s 3).toNat=0∨(place s 3).toNat=1∨(place s 3).toNat=2 by omega)with h | h | h<;>rw[h]<;>rfl
 have e2:fe [[V.s [97]],[V.s [98]],[V.s [99]],[V.s [100]]] (place t 4).toNat 0=some (.s (LF.getD (place t 4).toNat [])):=by
  rcases(show(place t 4).toNat=0∨(place t 4).toNat=1∨(place t 4).toNat=2∨(place t 4).toNat=3 by omega)with h | h | h | h<;>rw[h]<;>rfl
 simp only[VV,seval];refine ai (uz s 3 (by decide) (by decide) _) rfl ?_;simp only[e1,V.pure,VV,seval];refine⟨⟨hs.1,hs.2⟩,?_⟩;refine ai (uz t 4 (by decide) (by decide) _) rfl ?_;simp only[e1,e2,V.pure,VV,seval];refine⟨⟨hs.1,hs.2⟩,⟨ht.1,ht.2⟩,?_⟩;exact dv aQ (.inr rfl) (by simp only[RS,seval];rfl) (.cons (Cv.ir (.cons (.lit _ _) (.cons (.lit _ _) (.cons (.refl _) (.cons (.refl _) (.cons (.refl _) (.cons (.refl _) (.cons (.refl _) (.cons (.refl _) .nil))))))))) .nil) (by simp only[LW]) ⟨rfl,rfl⟩
def kX:aJ:=EM 1 2 1 (cJ 0 0) []
def o2:cc:=⟨2,0,[],[],0,false⟩
def o1:cc:=⟨1,0,[],[],0,false⟩
theorem XW:cw kX=0:=N8 (by decide) (by decide +kernel) (by simp) (by decide)
theorem yZ:kX.small:=C9 (by simp)
theorem H0:(bX kX).length≤60000:=Vj (by simp)
theorem Kb:o2.small:=⟨by simp[o2],by simp[o2],by simp[o2]⟩
theorem Kc:o1.small:=⟨by simp[o1],by simp[o1],by simp[o1]⟩
theorem T5:jR [] (Xz 0 0):=Gi (by decide) (fun j hj=>by omega) (by simp)
theorem FK{o:cc}{x:aJ}{m:Nat}(ho:o.small)(hx:x.small)(h1:o.ops.length<1000)(h2:o.log.length<1000000)(h3:(bX x).length≤60000)(hm:m≤o.ops.length):(fR o x m).small:=by
 refine⟨fun y hy=>?_,?_,?_⟩
 ·simp only[fR,List.mem_append,aU]at hy;rcases hy with hy | rfl | hy
  ·exact ho.ops y (ct hy)
  ·exact hx
  ·exact ho.ops y (gk hy)
 ·simp only[fR,List.length_append,aR,ab,bH];omega
 ·simp only[fR,List.length_append,ig];omega
theorem Mu{o:cc}{x:aJ}{m:Nat}(ho:o.small)(hx:x.small)(h1:o.ops.length<1000)(h2:o.log.length<1000000)(h3:(bX x).length≤60000)(hm:m≤o.ops.length):(k7 o x m).small :=
 let h:=FK ho hx h1 h2 h3 hm
 ⟨h.ops,h.len,h.log⟩
theorem Kq(σ:ag):PC prog 17 [.agg o2.cells,.agg (cJ 0 0).cells] σ (fun r σ'=>r=.iK [.agg (k7 o2 kX 0).cells,.agg kX.cells,.i .i64 0]∧σ'=σ) :=
 D3 o2 (cJ 0 0) (jt _ _) (mS _ _) Kb rfl (Xz 0 0) T5 [] (by decide +kernel) (by decide) (by decide) (by decide) 0 yZ XW H0 (by decide) (aB _) (by simp[o2]) σ
theorem Ko(σ:ag):PC prog 19 [.agg o1.cells,.agg kX.cells] σ (fun r σ'=>r=.iK [.agg (fR o1 kX 0).cells,.i .i64 0]∧σ'=σ) :=
 wW o1 kX 0 Kc yZ rfl XW H0 (by decide) (aB _) (by simp[o1]) (by simp[o1]) (by decide) σ
theorem xf:(fR o1 kX 0).small:=FK Kc yZ (by decide) (by decide) H0 (by decide)
theorem Kp:(k7 o2 kX 0).small:=Mu Kb yZ (by decide) (by decide) H0 (by decide)
theorem SP(σ:ag):PC prog 23 [.agg (fR o1 kX 0).cells] σ (fun r σ'=>r=.sl 1 (([0,0,1]:List Int).map bj)∧σ'=σ):=by
 have hk:(fR o1 kX 0).ops=[kX]:=rfl
 have hc:jR (fR o1 kX 0).ops (Xz 2 1):=by
  rw[hk];refine Gi (by decide) (fun j hj=>⟨kX,by simp,?_⟩) (fun x hx=>⟨0,by decide,?_⟩)
  ·obtain rfl:j=0:=by omega
   rfl
  ·simp only[aU,bD,or_false]at hx;rw[hx];rfl
 have:=o9 (fR o1 kX 0) xf rfl (Xz 2 1) hc σ
 rwa [show nc (gj (Xz 2 1)) []=[0,0,1]from by decide +kernel]at this
theorem Vo(n:Int)(h:0≤n)(h8:n<8)(σ:ag):PC prog 13 [.i .i64 n] σ (fun r σ'=>r=.iK [.agg (cc.cells ⟨n,0,[],[],0,false⟩),.i .i64 0]∧σ'=σ):=by
 have:=Sm n σ
 rwa [show kE n=(⟨n,0,[],[],0,false⟩,0)from by rw[kE,if_neg (by omega)]]at this
theorem aen:cq []=[]:=by decide +kernel
set_option maxHeartbeats 1000000 in
theorem gh(σ:ag):PC prog 11 [] σ (fun r σ'=>r=.b true∧σ'=σ):=by
 refine PC.intro func11 Re fun aQ cz=>aj ?_;have hb:al []=[]:=rfl;have qA:kX.aA.time=1:=rfl;have tK:kX.aA.aS=2:=rfl;have hk3:kX.aA.number=1:=rfl;simp only[Q4,SS,seval];simp only[VV,seval];refine ai (Vo 2 (by decide) (by decide) _) rfl ?_;simp only[cc.cells,hb,az,VV,seval];intro X;refine ai (mH 0 0 _) rfl ?_;simp only[VV,seval];intro X;refine ai (Kq _) rfl ?_;simp only[cc.cells,aJ.cells,bc.cells,En.cells,VV,seval];refine ai (Vo 1 (by decide) (by decide) _) rfl ?_;simp only[cc.cells,hb,az,VV,seval];refine ai (Ko _) rfl ?_;simp only[cc.cells,VV,seval];refine ai (T4 (fR o1 kX 0) xf rfl rfl _) rfl ?_;simp only[cc.cells,hb,az,VV,seval];refine ai (Jz (fR o1 kX 0).number _) rfl ?_;simp only[cc.cells,hb,az,qA,tK,hk3,l7,di,VV,seval];refine bg (by simp only[VV,seval]<;>rfl) (fun _=>pP (fR o1 kX 0) xf rfl _) rfl ?_;simp only[VV,seval];refine bg (by simp only[VV,seval]<;>rfl) (fun _=>pP (k7 o2 kX 0) Kp rfl _) rfl ?_;simp only[VV,seval];refine bg (by simp only[VV,seval]<;>rfl) (fun _=>qL (cq (fR o1 kX 0).ops) (cq (k7 o2 kX 0).ops) _) rfl ?_;have hee:nP (cq (fR o1 kX 0).ops) (cq (k7 o2 kX 0).ops)=true:=v7.2 rfl;simp only[hee,VV,seval];refine bg (by simp only[VV,seval]<;>rfl) (fun _=>pP ⟨(fR o1 kX 0).number,0,[],[],0,false⟩ ⟨by simp,by simp,by simp⟩ rfl _) rfl ?_;simp only[aen,az,V.pure,VV,seval];refine bg (by simp only[VV,seval]<;>rfl) (fun _=>SP _) rfl ?_;simp only[V.pure,VV,seval];refine bg (by simp only[VV,seval]<;>rfl) (fun _=>PC.wk (args':=[.sl 1 (([0,0,1]:List Int).map bj),.sl 1 (([0,0,1]:List Int).map bj)]) (Wk.ej (.cons (.refl _) (.cons (.lit _ _) .nil))) (ov [0,0,1] [0,0,1] _)) rfl ?_;simp only[VV,seval];refine aG aQ (.inr rfl) (by simp only[RS,seval];rfl) (by simp only[LW]) ⟨?_,rfl⟩;rfl
end Go.Proofs.Tryz

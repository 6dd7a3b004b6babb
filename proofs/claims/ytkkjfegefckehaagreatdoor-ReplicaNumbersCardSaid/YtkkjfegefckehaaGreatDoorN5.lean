/- A part of the proof of the statement of the last text of this claim; its conditions stand there. -/
import Derived.Test.YtkkjfegefckehaaGreatDoorB42
import Derived.Test.YtkkjfegefckehaaGreatDoorN1
import Derived.Test.YtkkjfegefckehaaGreatDoorN2
import Derived.Test.YtkkjfegefckehaaGreatDoorN4
set_option linter.all false

namespace Go.Proofs.Tryz
open Go Go.Pm Go.Bt Go.RowKit
open Go.Pm.V(u)
theorem qk{l:List Int}(hl:l.length<2^63)(h:decide (160<nq [l])=false):l.length≤160:=by
 have e:nq [l]=l.length:=by
  simp only[nq,bd,dB,wo];exact ll hl
 rw[e]at h;simp at h;omega
theorem z7(o:cc)(hd:o.down=true)(σ:ag):PC prog 23 [.agg o.cells] σ (fun r σ'=>r=.sl 1 (([]:List Int).map bj)∧σ'=σ):=by
 refine PC.intro func23 c23 fun aQ cz=>?_;simp only[p23,SS,seval];refine bA.cut fun R hR=>?_;simp only[cc.cells,hd,VV,seval];refine hR _ ?_;clear hR R;refine bA.cut fun R hR=>?_;simp only[VV,seval];exact dv aQ (.inr rfl) (by simp only[RS,seval]) (.cons (.nil 1) .nil) (by simp only[LW]) ⟨rfl,rfl⟩
theorem uF(o:cc)(hd:o.down=true)(σ:ag):PC prog 24 [.agg o.cells] σ (fun r σ'=>r=.sl 8 (([]:List En).map En.cells)∧σ'=σ):=by
 refine PC.intro func24 c24 fun aQ cz=>aj ?_;simp only[p24,SS,seval];simp only[cc.cells,hd,VV,seval];exact dv aQ (.inr rfl) (by simp only[RS,seval]) (.cons (.nil 8) .nil) (by simp only[LW]) ⟨rfl,rfl⟩
theorem xW(o:cc)(bY:Int):(jd o bY).down=true:=by
 rw[jd];split<;>first | assumption | rfl
theorem Ma(n:Int)(σ:ag):PC prog 14 [.i .i64 n] σ (fun r σ'=>r=.iK [.agg (kE n).1.cells,.i .i64 (kE n).2]∧σ'=σ):=by
 by_cases hn:n<0∨8≤n
 ·rw[kE,if_pos hn];refine PC.intro func14 Yg fun aQ cz=>aj ?_;have e:(decide (n<0)||decide (8≤n))=true:=by simpa using hn
  simp only[p14,SS,seval];simp only[VV,seval];refine⟨fun _=>dv aQ (.inr rfl) (by simp only[RS,seval]) (.cons (Cv.ir (pg 0)) (.cons (.refl _) .nil)) (by simp only[cc.cells,LW]) ⟨rfl,rfl⟩,fun h=>by rw[e]at h;cases h⟩
 ·have:=NF n (by omega) (by omega) σ;rw[kE,if_neg hn];exact this
theorem YR(σ L:ag)(l:List Int):
  PC prog 20 [.ptr (σ.length+L.length) 0] (σ++(L++[.box 79 [.sl 1 (l.map bj),.i .i64 ((0:Nat):Int)]])) (fun r σ'=>∃ (x:aJ) (k':Nat),r=.agg x.cells∧σ'=σ++(L++[.box 79 [.sl 1 (l.map bj),.i .i64 k']])):=by
 have:=XO (σ++(L++[.dead])) (σ.length+L.length) (by simp) l 0 (by decide)
 have e:∀ k:Nat,lA (σ++(L++[.dead])) (σ.length+L.length) l k=σ++(L++[.box 79 [.sl 1 (l.map bj),.i .i64 k]]):=fun k=>by
  simp[lA]
 rw[e]at this;refine this.mono ?_;rintro r σ' ⟨x,k',rfl,-,-,rfl⟩;exact⟨x,k',rfl,e k'⟩
set_option maxRecDepth 4000 in
set_option maxHeartbeats 2000000 in
theorem yA(n:Int)(l:List Int)(σ:ag):PC prog 4 [.i .i64 n,.sl 1 (l.map bj)] σ (fun r σ'=>r=.b true∧σ'=σ):=by
 refine PC.intro func4 c4 fun aQ cz=>?_;have hlen:=lD (cz 1 _ rfl).1;rw[List.length_map]at hlen;simp only[p4,SS,seval];refine bA.cut fun R hR=>?_;simp only[VV,seval];refine hR _ ?_;clear hR R;refine bA.cut fun R hR=>?_;simp only[V.pure,VV,seval];refine ic (zs:=[.sl 1 ([l].map rQ)]) (.cons (.lit _ _) .nil) (vU [l] _) ?_;simp only[VV,seval];refine⟨fun _=>?_,fun h=>?_⟩
 ·refine ai (gh _) rfl ?_;simp only[VV,seval];exact aO (.inr rfl) (by simp only[RS,seval];rfl) ⟨rfl,rfl⟩
 have hl:=qk hlen (by simpa using h);refine hR _ ?_;clear hR R;refine bA.cut fun R hR=>?_;simp only[VV,seval];refine ai (Sm n _) rfl ?_;simp only[cc.cells,VV,seval];refine hR _ ?_;clear hR R;refine bA.cut fun R hR=>?_;simp only[VV,seval];refine ai (Ma n _) rfl ?_;simp only[cc.cells,VV,seval];refine hR _ ?_;clear hR R;have rV:=sk l hl eY kT 3 (by decide) (fun h=>by rw[kZ]at h;cases h);refine bA.cut fun R hR=>?_;simp only[VV,seval];refine cG (PC.wk (args':=[.sl 1 (l.map bj),.agg eY.cells]) (Wk.ej (.cons (.refl _) (.cons (Cv.ir Ml) .nil))) (rV _)) rfl ?_;rintro _ _ ⟨q,o,hq,hg,rfl,rfl⟩;simp only[cc.cells,VV,seval];refine hR _ (bA.ej (fr':=[u,.sl 1 (l.map bj),u,u,u,u,.i .i64 (kE n).2,u,.i .i64 (kE n).2,.ptr (σ.length+2) 0,.b true,u,u,u,u,u,u,u,u,u,u,u,u,u,u,u,u,u,u,u,u,u,u,u,u,u,u,u,u,u,u,u,u,u,u,u,u,u,u,u,u,u,u,u,u,u,u,u,u,u,u,u,u,u,u,u,u,u,u,u,u,u,u,u,u,u,u,u,u,u,u,u,u,u,u,u,u,u,u,u,u,u,u,u,u,u,u,u,u,u,u,u,u,u,u,u]) ?_ (by repeat' constructor));clear hR R;obtain⟨c1,-,Q9⟩:=zw hg (by omega) 0;obtain⟨o',er,r1,-,-,her⟩:=DS hg (by omega);have Ya:=xW o 0;generalize jd o 0=d at c1 Q9 Ya;have s1:=z7 d Ya;have s2:=uF d Ya;have s3:=sZ d (cJ 0 0) Ya;have s4:=Fx d Ya;simp only[cc.cells]at c1 r1 s1 s2 s3 s4;refine bA.cut fun R hR=>?_;simp only[VV,seval];refine ai (c1 _) rfl ?_;simp only[VV,seval];refine hR _ ?_;clear hR R;refine bA.cut fun R hR=>?_;simp only[VV,seval];refine ai (r1 _) rfl ?_;simp only[dS,cc.cells,VV,seval]
 have Q9:(er==0)=o.down:=by
  cases hd:o.down with
  | true=>simpa[hd]using her
  | false=>simpa[hd]using her
 refine hR _ (bA.ej (fr':=[u,.sl 1 (l.map bj),u,u,u,u,.i .i64 (kE n).2,u,.i .i64 (kE n).2,.ptr (σ.length+2) 0,.b true,.ptr (σ.length+3) 0,u,.i .i64 er,u,u,u,u,u,u,u,u,u,u,u,u,u,u,u,u,u,u,u,u,u,u,u,u,u,u,u,u,u,u,u,u,u,u,u,u,u,u,u,u,u,u,u,u,u,u,u,u,u,u,u,u,u,u,u,u,u,u,u,u,u,u,u,u,u,u,u,u,u,u,u,u,u,u,u,u,u,u,u,u,u,u,u,u,u,u,u,u,u,u,u,u]) ?_ (by repeat' constructor));clear hR R;refine bA.cut fun R hR=>?_;simp only[VV,seval];intros;refine ai (mH 0 0 _) rfl ?_;simp only[VV,seval];intros;refine ai (s3 _) rfl ?_;simp only[aJ.cells,bc.cells,En.cells,aq,ak,Nat.add_assoc,VV,seval];refine hR _ (bA.ej (fr':=[u,.sl 1 (l.map bj),u,u,u,u,.i .i64 (kE n).2,u,.i .i64 (kE n).2,.ptr (σ.length+2) 0,.b true,.ptr (σ.length+3) 0,u,.i .i64 er,u,u,.i .i64 15,u,u,u,u,u,u,u,u,u,u,u,u,u,u,u,u,u,u,u,u,u,u,u,u,u,u,u,u,u,u,u,u,u,u,u,u,u,u,u,u,u,u,u,u,u,u,u,u,u,u,u,u,u,u,u,u,u,u,u,u,u,u,u,u,u,u,u,u,u,u,u,u,u,u,u,u,u,u,u,u,u,u,u,u,u,u,u,u,u]) ?_ (by repeat' constructor));clear hR R;refine bA.cut fun R hR=>?_;simp only[VV,seval];intros;refine ai (Xb l _) rfl ?_;simp only[VV,seval];intros;refine cG (YR σ [_,_,_,_,_,_,_,_] l) rfl ?_;rintro _ _ ⟨x,k',rfl,rfl⟩;have s5:=yE d x Ya;simp only[cc.cells,VV,seval]at s5 ⊢;intros;refine ai (s5 _) rfl ?_;simp only[dS,cc.cells,VV,seval];refine hR _ (bA.ej (fr':=[u,u,u,u,u,u,.i .i64 (kE n).2,u,.i .i64 (kE n).2,.ptr (σ.length+2) 0,.b true,.ptr (σ.length+3) 0,u,.i .i64 er,u,u,.i .i64 15,u,.i .i64 15,u,u,u,u,u,u,u,u,u,u,u,u,u,u,u,u,u,u,u,u,u,u,u,u,u,u,u,u,u,u,u,u,u,u,u,u,u,u,u,u,u,u,u,u,u,u,u,u,u,u,u,u,u,u,u,u,u,u,u,u,u,u,u,u,u,u,u,u,u,u,u,u,u,u,u,u,u,u,u,u,u,u,u,u,u,u,u]) ?_ (by repeat' constructor));clear hR R;refine bA.cut fun R hR=>?_;simp only[VV,seval];refine ai (s4 _) rfl ?_;simp only[dS,cc.cells,VV,seval];refine hR _ (bA.ej (fr':=[u,u,u,u,u,u,.i .i64 (kE n).2,u,.i .i64 (kE n).2,.ptr (σ.length+2) 0,.b true,.ptr (σ.length+3) 0,u,.i .i64 er,u,u,.i .i64 15,u,.i .i64 15,u,.i .i64 15,u,u,u,u,u,u,u,u,u,u,u,u,u,u,u,u,u,u,u,u,u,u,u,u,u,u,u,u,u,u,u,u,u,u,u,u,u,u,u,u,u,u,u,u,u,u,u,u,u,u,u,u,u,u,u,u,u,u,u,u,u,u,u,u,u,u,u,u,u,u,u,u,u,u,u,u,u,u,u,u,u,u,u,u,u]) (aj ?_) (by repeat' constructor));clear hR R;simp only[Q9,beq_self_eq_true,VV,seval];refine bg (by simp only[VV,seval]<;>rfl) (fun _=>s1 _) rfl ?_;simp only[az,ah,VV,seval];refine bg (by simp only[VV,seval]<;>rfl) (fun _=>s2 _) rfl ?_;simp only[az,ah,VV,seval];refine bg (by simp only[VV,seval]<;>rfl) (fun _=>gh _) rfl ?_;simp only[VV,seval];exact aG aQ (.inr rfl) (by simp only[RS,seval];rfl) (by simp only[LW]) ⟨rfl,rfl⟩
end Go.Proofs.Tryz

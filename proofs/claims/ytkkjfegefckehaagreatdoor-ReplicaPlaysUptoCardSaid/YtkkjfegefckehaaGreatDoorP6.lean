/- A part of the proof of the statement of the last text of this claim; its conditions stand there. -/
import Derived.Test.YtkkjfegefckehaaGreatDoorB42
import Derived.Test.YtkkjfegefckehaaGreatDoorP5
set_option linter.all false

namespace Go.Proofs.Tryz
open Go Go.Pm Go.Bt Go.RowKit
theorem qk{l:List Int}(hl:l.length<2^63)(h:decide (160<nq [l])=false):l.length≤160:=by
 have e:nq [l]=l.length:=by
  simp only[nq,bd,dB,wo];exact ll hl
 rw[e]at h;simp at h;omega
theorem PH{o:aJ}(h:cw o=0):o.aA.aS<8:=(mi h).aS.2
set_option maxRecDepth 4000 in
set_option maxHeartbeats 1000000 in
theorem BK(raw:aJ)(Qh:raw.small)(l:List Int)(σ:ag):PC prog 3 [.sl 1 (l.map bj),.agg raw.cells] σ (fun r σ'=>r=.b true∧σ'=σ):=by
 refine PC.intro func3 c3 fun aQ cz=>?_;have hlen:=lD (cz 0 _ rfl).1;rw[List.length_map]at hlen;simp only[p3,SS,seval];refine bA.cut fun R hR=>?_;simp only[aJ.cells,bc.cells,En.cells,aq,ak,VV,seval];refine hR _ ?_;clear hR R;have rA:=LM raw Qh;have rV:=sk l;simp only[aJ.cells,bc.cells,En.cells,aq,ak]at rA rV;refine bA.cut fun R hR=>?_;simp only[V.pure,VV,seval];refine ic (zs:=[.sl 1 ([l].map rQ)]) (.cons (.lit _ _) .nil) (vU [l] _) ?_;simp only[VV,seval];refine bg (by simp only[VV,seval]<;>rfl) (fun _=>rA _) rfl ?_;simp only[VV,seval];refine⟨fun _=>?_,fun h=>?_⟩
 ·refine ai (gh _) rfl ?_;simp only[VV,seval];exact aG aQ (.inr rfl) (by simp only[RS,seval];rfl) (by simp only[LW]) ⟨rfl,rfl⟩
 simp only[oq,dC,decide_eq_true_eq]at h;have hl:=qk hlen (by simpa using h.1);have ZM:cw raw=0→(bX raw).length≤20000∧raw.aA.aS<8:=fun fD=>⟨RF fD h.2,PH fD⟩;refine hR _ ?_;clear hR R;refine bA.cut fun R hR=>?_;simp only[VV,seval];refine cG (sk l hl raw Qh 8 (by decide) ZM _) (by simp only[aJ.cells,bc.cells,En.cells,aq,ak,VV,seval]) ?_;rintro _ _ ⟨n,o,hn,hg,rfl,rfl⟩;simp only[cc.cells,VV,seval];refine hR _ (aj ?_);clear hR R;simp only[VV,seval];refine bg (by simp only[VV,seval]<;>rfl) (fun _=>gh _) rfl ?_;simp only[VV,seval];exact aG aQ (.inr rfl) (by simp only[RS,seval];rfl) (by simp only[LW]) ⟨rfl,rfl⟩
end Go.Proofs.Tryz

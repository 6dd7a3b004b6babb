/- A part of a proof; the claim's last text says of what. -/
import Derived.Test.YtlakkaamfadipaaGreatDoorL2
import Derived.Test.YtlakkaamfadipaaGreatDoorL35
import Derived.Test.YtlakkaamfadipaaGreatDoorL44
import Derived.Test.YtlakkaamfadipaaGreatDoorL45
set_option linter.all false

set_option maxRecDepth 8000
set_option maxHeartbeats 4000000
namespace Go.Proofs.Tryz
open Go Go.Pm Go.Bt
end Go.Proofs.Tryz
set_option maxRecDepth 8000
set_option maxHeartbeats 2000000
namespace Go.Proofs.Tryz
open Go Go.Pm Go.Bt
theorem QE{S:ae}{n0:Nat}{K:Exit→St→Prop}(lr g:Nat)(M:List dP)(hM:M.length≤1024)(hs:∀ s∈M,s.en.aew)(hr:S[lr]?=some (ff g M)):∀ (rest pre:List dP) (T:ae) (go:Nat),M=pre++rest →
  (∀ T' go',((fj 3 (fh (.own S.length go') (fj 19 fo))) fun ZZ=>K (.exit 0) ⟨ZZ,S++(.row 37 8 128 go' false ((M.map dP.en).map En.aen)::T')⟩)) →
  gw n0 prog FY K (rest.length+1) ⟨(uu 3 (.own S.length go::uu 5 (.own lr g::.i .i64 M.length::.i .i64 pre.length::uu 11 []))),S++(.row 37 8 128 go false ((pre.map dP.en).map En.aen)::T)⟩:=by
 have kV:=(ab.1 hr).1;have ox:∀ l,(S++l)[lr]?=some (.row 108 11 176 g false (M.map dP.aen)):=fun l=>by rw[ag kV];exact hr
 intro rest
 induction rest with
 | nil =>
  intro pre T go he h1;have he:M=pre:=by simpa using he
  subst he;refine aH fun R hR=>?_;simp only[FY,VV,seval];exact⟨fun h=>by simp at h,fun _=>h1 T go ..⟩
 | cons s rest ih =>
  intro pre T go he h1;have WA:M.length=pre.length+(rest.length+1):=by rw[he];simp
  have hw:IntKind.i64.wrap ((pre.length:Int)+1)=(((pre++[s]).length:Nat):Int):=by
   rw[br (by omega)];simp
  have eJ:(M.map dP.aen).getD pre.length []=s.aen:=by rw[he];simp[ar]
  have hd:decide ((pre.length:Int)<(M.length:Int))=true:=by simp;omega
  have o1:(0:Int)≤(pre.length:Int)∧(pre.length:Int)<(M.length:Int):=by omega
  have hss:=hs s (by rw[he];simp);simp only[dP.aen]at eJ;refine aH fun R hR=>?_;simp only[FY,ox,eJ,hd,aj,aX,V.pure,↓IT,VV,seval];refine⟨o1,?_⟩;refine aA (xj s.en (by have:=hss.aeq;omega) (by have:=hss.aex;omega) _) (by simp only[En.aen,VV,seval]) ?_;simp only[En.aen,hw,aj,V.pure,↓IT,VV,seval];have e1:((pre.map dP.en).map En.aen)++[[V.sl 3 (s.en.aeq.map It.aen),.sl 3 (s.en.aex.map It.aen),.s s.en.bV,.s s.en.next,.s s.en.cC,.s s.en.bU,.i .i64 s.en.aey,.i .i64 s.en.aeA]]=(((pre++[s]).map dP.en).map En.aen):=by simp[En.aen]
  have k:=ih (pre++[s]) (T++[.box 108 s.aen]) (go+1) (by simp[he]) h1;rw[← e1]at k;simp only[dP.aen]at k;exact⟨⟨by omega,by unfold maxLen;omega⟩,hR _ (bk (by repeat' constructor) k)⟩
theorem C7{J:ae}{M:List dP}{next:Int}{S:ae}(h:Be J M next S)(hM:M.length≤1024)(hs:∀ s∈M,s.en.aew):
  PC prog 28 [.ptr (J.length+4) 0] S (fun r S'=>r=.sl 8 ((M.map dP.en).map En.aen)∧S'=S):=by
 obtain⟨E,L,G2,G3,g,T,e0,hI,hp,cM⟩:=h;have hb:S[J.length+4]?=some (.box 105 [.ptr (J.length+3) 0,.own (J.length+5) g,.i .i64 next]):=by rw[e0];simp[gG,mg,C2]
 have hr:S[J.length+5]?=some (ff g M):=by rw[e0];simp[gG,mg,ff]
 clear e0 hI hp cM;have iX:∀ l,(S++l)[J.length+4]?=some (.box 105 [.ptr (J.length+3) 0,.own (J.length+5) g,.i .i64 next]):=fun l=>by rw[ag (ab.1 hb).1];exact hb
 have ox:∀ l,(S++l)[J.length+5]?=some (.row 108 11 176 g false (M.map dP.aen)):=fun l=>by rw[ag (ab.1 hr).1];exact hr
 refine PC.intro func28 c28 fun bz er=>?_;simp only[p28,SS,seval];refine cE.cut fun R hR=>?_;simp only[VV,seval];refine hR _ (cE.kP (fr':=(.ptr (J.length+4) 0::uu 22 [])) ?_ (by repeat' constructor));clear hR R;refine cE.cut fun R hR=>?_;simp only[VV,seval];refine hR _ (cE.kP (fr':=(.ptr (J.length+4) 0::uu 2 (.nil::uu 19 []))) ?_ (by repeat' constructor));clear hR R;refine cE.cut fun R hR=>?_;simp only[hb,hr,ff,aj,V.pure,↓IT,VV,seval];refine cE.wk ((Wk.pA (P:=prog) (J:=S) (k:=3) Qb rfl).trans (Wk.kP (ys:=(uu 3 (.own S.length 0::uu 5 (.own (J.length+5) g::.i .i64 M.length::.i .i64 (([]:List dP).length:Nat)::uu 11 [])))) ?_)) (cE.BX (M.length+1) (QE (J.length+5) g M hM hs hr M [] [] 0 rfl ?_))
 ·simp only[VV,seval]
  repeat' constructor
 intro T' go';simp only[JE];intros;simp only[VV,seval];refine hR _ (cE.kP (fr':=(uu 3 (.own S.length go'::uu 19 []))) (aB ?_) (by repeat' constructor));clear hR R;simp only[VV,seval];refine sH 0 bz (.inr rfl) rfl rfl ?_ ?_
 ·simp[fz,wU,LW]
 ·refine⟨?_,rfl⟩;simp[fz,wU];rfl
end Go.Proofs.Tryz

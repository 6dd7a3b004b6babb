/- A part of a proof; the claim's last text says of what. -/
import Derived.Test.YtlakkaamfadipaaGreatDoorV34
import Derived.Test.YtlakkaamfadipaaGreatDoorV35
set_option linter.all false

namespace Go.Proofs.Tryz
open Go Go.Pm Go.Bt
theorem MC{J:ae}{b:Ob}{l:List Int}:J++[b,.box 31 [.sl 1 (l.map b5),.i .i64 0]]=iV (J++[b,.dead]) (J.length+1) l 0:=by
 simp[iV]
theorem MB{J:ae}{b:Ob}{l:List Int}{k:Nat}:J++[b,.box 31 [.sl 1 (l.map b5),.i .i64 (k:Int)]]=iV (J++[b,.dead]) (J.length+1) l k:=by
 simp[iV]
def SH(q:Qr):Prop:=q.bM.length<2^30∧q.next.length<2^30
set_option maxHeartbeats 4000000 in
set_option maxRecDepth 20000 in
theorem s4(Cy:∀ J:ae,PC prog 12 [] J (fun r J'=>r=.b true∧J'=J))(q:Qr)(hq:OU q)(l:List Int)(which by':Int)(J:ae):PC prog 3 [.agg q.ahq,.sl 1 (l.map b5),.i .i64 which,.i .i64 by'] J (fun r J'=>r=.b true∧J'=J):=by
 refine PC.intro func3 c3 fun bz dH=>?_;have Lr:=hq.ahu;have Lq:=hq.bM;have hq3:=hq.next;simp only[p3,SS,seval];refine cc.cut fun R hR=>?_;simp only[Qr.ahq,VV,seval];refine hR _ (cc.iS (fr':=(uu 1 (.sl 1 (l.map b5)::.i .i64 which::.i .i64 by'::.ptr J.length 0::uu 68 []))) ?_ (by repeat' constructor));clear hR R;refine cc.cut fun R hR=>?_;simp only[V.pure,VV,seval];refine db (PC.wk (args':=[.sl 1 ([q.ahu].map EG)]) (Wk.iS (.cons (.lit _ _) .nil)) (M0 [q.ahu] (by simp) (by simp;omega) _)) rfl ?_;rintro _ _ ⟨b,rfl,rfl⟩
 have cont:∀ {fr:List V},oY fr (uu 1 (.sl 1 (l.map b5)::.i .i64 which::.i .i64 by'::.ptr J.length 0::uu 68 []))→R ⟨fr,J++[.box 24 q.ahq]⟩:=by
  intro fr hc;refine hR _ (cc.iS ?_ hc);clear hR R hc;refine cc.cut fun R hR=>?_;simp only[Qr.ahq,V.pure,VV,seval];rw[MC];refine db (Mp _ (J.length+1) (by simp) l 0 (by decide)) rfl ?_;rintro _ _ ⟨x,k',rfl,hX,_,rfl⟩;rw[← MB];simp only[Qr.ahq,V.pure,VV,seval];refine hR _ (cc.iS (fr':=(uu 2 (.i .i64 which::.i .i64 by'::.ptr J.length 0::uu 4 (.ptr (J.length+2) 0::uu 63 [])))) ?_ (by repeat' constructor));clear hR R;generalize hnb:Ob.box 31 _=nb;obtain⟨⟨e,hE,x1,x2,x3⟩,_,_,_⟩:=hX;have g1:=hE.prev;have g2:=hE.next;refine cc.abF fun R hR hwk=>?_
  have tail:∀ (x':Qr) {fr:List V},SH x'→oY fr (uu 4 (.ptr J.length 0::uu 4 (.ptr (J.length+2) 0::uu 63 [])))→R ⟨fr,J++[.box 24 q.ahq,nb,.box 24 x'.ahq]⟩:=by
   intro x' fr hx' hc;refine hR _ (cc.iS (aB ?_) hc);clear hwk hR R hc;simp only[Qr.ahq,V.pure,VV,seval];refine aC (pV q (by omega) (by omega) _) rfl ?_;simp only[Qr.ahq,V.pure,VV,seval];refine aC (lP q (by omega) (by omega) _) rfl ?_;simp only[Qr.ahq,V.pure,VV,seval];refine cn (c:=true) (by simp only[VV,seval]<;>rfl) (fun _=>pV x' (by have:=hx'.1;omega) (by have:=hx'.2;omega) _) rfl ?_;simp only[Qr.ahq,V.pure,VV,seval];refine cn (c:=true) (by simp only[VV,seval]<;>rfl) (fun _=>lP x' hx'.1 hx'.2 _) rfl ?_;simp only[Qr.ahq,V.pure,VV,seval];refine cn (c:=true) (by simp only[VV,seval]<;>rfl) (fun _=>Cy _) rfl ?_;simp only[VV,seval];exact lA bz (by rfl) (by simp[LW])
  simp only[V.pure,VV,seval];refine aC (xG which 7 (by decide) (by decide) _) rfl ?_;have hp:=pZ (x:=which) (n:=7) (by decide);generalize place which 7=v at hp;have hv:v=0∨v=1∨v=2∨v=3∨v=4∨v=5∨v=6:=by omega
  have gx:SH x:=⟨by rw[x2];omega,by rw[x3];omega⟩;rcases hv with rfl | rfl | rfl | rfl | rfl | rfl | rfl
  ·simp only[Qr.ahq,V.pure,VV,seval];exact tail x gx (by repeat' constructor)
  ·simp only[Qr.ahq,V.pure,VV,seval];refine hwk (Wk.cell (id:=J.length+2) (T:=24) (j:=0) (cs:=[.nil,.s x.bM,.s x.next,.i .i64 x.now,.i .i64 x.threshold,.i .i64 x.jX]) (x:=.nil) (y:=.sl 3 []) (by simp) rfl (fun w μ v _ h=>by rw[h.kp];exact .xl 3)) ?_;have e:(J++[.box 24 [.sl 3 (q.ahu.map It.ahq),.s q.bM,.s q.next,.i .i64 q.now,.i .i64 q.threshold,.i .i64 q.jX],nb,.box 24 [.nil,.s x.bM,.s x.next,.i .i64 x.now,.i .i64 x.threshold,.i .i64 x.jX]]).set (J.length+2) (.box 24 ([V.nil,.s x.bM,.s x.next,.i .i64 x.now,.i .i64 x.threshold,.i .i64 x.jX].set 0 (.sl 3 [])))=J++[.box 24 q.ahq,nb,.box 24 (Qr.ahq ⟨[],x.bM,x.next,x.now,x.threshold,x.jX⟩)]:=by simp[Qr.ahq]
   rw[e];exact tail ⟨[],x.bM,x.next,x.now,x.threshold,x.jX⟩ gx (by repeat' constructor)
  ·simp only[Qr.ahq,V.pure,VV,seval];exact tail ⟨x.ahu,[60],x.next,x.now,x.threshold,x.jX⟩ ⟨by simp,gx.2⟩ (by repeat' constructor)
  ·simp only[Qr.ahq,V.pure,VV,seval];exact tail ⟨x.ahu,x.bM,[97,10],x.now,x.threshold,x.jX⟩ ⟨gx.1,by simp⟩ (by repeat' constructor)
  ·simp only[Qr.ahq,V.pure,VV,seval];exact tail ⟨x.ahu,x.bM,x.next,by',x.threshold,x.jX⟩ gx (by repeat' constructor)
  ·simp only[Qr.ahq,V.pure,VV,seval];exact tail ⟨x.ahu,x.bM,x.next,x.now,by',x.jX⟩ gx (by repeat' constructor)
  ·simp only[Qr.ahq,V.pure,VV,seval];exact tail ⟨x.ahu,x.bM,x.next,x.now,x.threshold,by'⟩ gx (by repeat' constructor)
 cases b
 ·simp only[V.pure,VV,seval];refine aC (Cy _) rfl ?_;simp only[VV,seval];exact lA bz (by rfl) (by simp[LW])
 ·simp only[V.pure,VV,seval];refine⟨fun _=>?_,fun _=>cont (by repeat' constructor)⟩;refine aC (Cy _) rfl ?_;simp only[VV,seval];exact lA bz (by rfl) (by simp[LW])
end Go.Proofs.Tryz

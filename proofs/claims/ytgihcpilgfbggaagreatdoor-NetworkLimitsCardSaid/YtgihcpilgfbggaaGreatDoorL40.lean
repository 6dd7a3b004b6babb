/- A part of the proof that for every input the law NetworkLimits returns true and leaves its argument as it was. -/
import Derived.StillTailTactics
import Derived.LoopN
import Derived.WalkKit
import Derived.Test.YtgihcpilgfbggaaGreatDoorL3
import Derived.Test.YtgihcpilgfbggaaGreatDoorL21
import Derived.Test.YtgihcpilgfbggaaGreatDoorL23
import Derived.Test.YtgihcpilgfbggaaGreatDoorL25
import Derived.Test.YtgihcpilgfbggaaGreatDoorL32
import Derived.Test.YtgihcpilgfbggaaGreatDoorL34
import Derived.Test.YtgihcpilgfbggaaGreatDoorL37
import Derived.Test.YtgihcpilgfbggaaGreatDoorL38
import Derived.Test.YtgihcpilgfbggaaGreatDoorL39
set_option linter.all false

namespace Go.Proofs.Tryz
open Go Go.Pm Go.Bt Go.RowKit Go.Sort
open Go.Pm.V(u)
end Go.Proofs.Tryz
namespace Go.Proofs.Tryz
open Go Go.Pm Go.Bt Go.RowKit
open Go.Pm.V(u)
theorem FU(o:cp)(hd:o.down=false)(σ:ah):PC prog 40 [.agg o.cells] σ (fun r σ'=>r=k7 cp.zero 8∧σ'=σ):=by
 refine PC.intro func40 c40 fun aU da=>al ?_;simp only[p40,SS,seval];simp only[cp.cells,hd,VV,seval];exact jW aU (.inr rfl) (by simp only[RS,seval]) (.cons (Cv.ng (RI 0)) (.cons (.refl _) .nil)) (by simp only[cp.cells,LW]) ⟨rfl,rfl⟩
theorem N5(o:cp)(ho:o.small)(hd:o.down=false)(σ:ah):PC prog 38 [.agg o.cells] σ (fun r σ'=>r=k7 { o with synced:=o.log.length } 0∧σ'=σ):=by
 refine PC.intro func38 c38 fun aU da=>al ?_;simp only[p38,SS,seval];simp only[cp.cells,hd,VV,seval];refine an (nH o ho _) (by simp only[cp.cells,hd,VV,seval]) ?_;simp only[k7,cp.cells,hd,bO,VV,seval];exact aD aU (.inr rfl) (by simp only[RS,seval];rfl) (by simp only[LW]) ⟨rfl,rfl⟩
end Go.Proofs.Tryz
namespace Go.Proofs.Tryz
open Go Go.Pm Go.Bt
open Go.Pm.V(u)
theorem HR{n a ga:Nat}{vb vc:V}(ha:a<n)(hb:vb.Lt n)(hc:vc.Lt n):kx n (dB (.own a ga) vb vc):=by
 intro j x hj;rcases j with _ | _ | _ | j
 ·simp only[ax,aa]at hj;subst hj;exact .own _ _ ha
 ·simp only[aI,cc,ax,aa]at hj;subst hj;exact hb
 ·simp only[aI,Nat.reduceAdd,cc,ax,aa]at hj;subst hj;exact hc
 ·simp at hj
set_option maxHeartbeats 1000000 in
theorem GN{σ:ah}{k a b c ga:Nat}(h:sb σ k a b c)(vb vc:V)(Pq:vb.Lt σ.length)(T6:vc.Lt σ.length)(bf:List cp)(B C:Ob)(hB:kx σ.length B)(Ic:kx σ.length C)(x:Let)(hlen:bf.length<2^30)(i:Nat)(hi:x.dst=i)(o:cp)(ho:bf[i]?=some o)(o':cp)(err:Int)
  (hC:∀ σ,PC prog 55 [.agg o.cells,.agg x.op.cells] σ (fun r σ'=>r=k7 o' err∧σ'=σ)) :
  PC prog 34 [.ptr k 0,.agg x.cells] (gP σ k a b c (dB (.own a ga) vb vc) (bJ ga bf) B C) (fun r σ'=>r=.i .i64 err∧σ'=gP σ k a b c (dB (.own a ga) vb vc) (bJ ga (if err=0 then bf.set i o' else bf)) B C):=by
 obtain⟨src,dst,op⟩:=x;simp only at hi hC;subst hi;refine PC.intro func34 c34 fun uK da=>al ?_;have er:(bf.map cp.cells).getD i []=o.cells:=by simp[List.getD_eq_getElem?_getD,ho]
 have pC:i<bf.length:=(ab.1 ho).1;have nc:=B6 bf i o';have h0:(0:Int)≤(i:Int):=by omega
 have eC:(i:Int)<(bf.length:Int):=by omega
 simp only[cp.cells]at er;simp only[p34,SS,seval];simp only[Let.cells,oN,HO,dB,bJ,h.all,er,h0,eC,cp.cells,ae,VV,seval];refine an (mo i bf.length _) rfl ?_;have Mz:H4 i bf.length=true:=by simp[H4];omega
 simp only[Mz,h.all,er,h0,eC,cp.cells,ae,VV,seval];intro X;refine an (hC _) (by simp only[oN,HO,cp.cells,VV,seval]) ?_;simp only[k7,cp.cells,h.all,er,h0,eC,ae,VV,seval];refine⟨fun he=>⟨pC,?_⟩,fun he=>?_⟩
 ·have he:err=0:=by simpa using he
  rw[nc,if_pos he];exact qL uK (HR h.la Pq T6) trivial hB Ic (.inr rfl) rfl (by simp only[LW]) ⟨rfl,rfl⟩
 ·have he:¬ err=0:=by simpa using he
  rw[if_neg he];exact qL uK (HR h.la Pq T6) trivial hB Ic (.inr rfl) rfl (by simp only[LW]) ⟨rfl,rfl⟩
structure Fe (E:gE):Prop where
 cR:∀ o,E.qn o→∀ σ,PC prog 40 [.agg o.cells] σ (fun r σ'=>r=k7 (E.fR o).1 (E.fR o).2∧σ'=σ)
 cV:∀ o x,E.qn o→E.ok x→∀ σ,PC prog 55 [.agg o.cells,.agg x.cells] σ (fun r σ'=>r=k7 (E.fV o x).1 (E.fV o x).2∧σ'=σ)
 cS:∀ o,E.qn o→∀ σ,PC prog 38 [.agg o.cells] σ (fun r σ'=>r=k7 (E.fS o).1 (E.fS o).2∧σ'=σ)
def S6(σ:ah)(b0 b1:Ob)(ga:Nat)(B C:Ob)(vb vc:V)(bf:List cp):ah:=σ++[b0,b1,bJ ga bf,B,C,dB (.own (σ.length+2) ga) vb vc]
theorem Ei{pre rest:List cp}{o:cp}(p:cp×Int)(h:p.2=0):((pre++o::rest).map cp.cells).set pre.length [.i .i64 p.1.number,.i .i64 p.1.clock,.sl 13 (p.1.ops.map bc.cells),.sl 1 (aQ p.1.log),.i .i64 p.1.synced,.b p.1.down]=(pre++(kj p o::rest)).map cp.cells:=by
 rw[B6,ed _ _ (aw _),eU,kj,if_pos h];rfl
set_option maxHeartbeats 2000000 in
theorem LX{E:gE}(hE:Fe E){σ:ah}{K:Exit→St→Prop}(b0 b1 B C:Ob)(ga:Nat)(vb vc:V)(aU:∀ bf,bG (S6 σ b0 b1 ga B C vb vc bf))(n:Nat)(hn:n<2^30):∀ (rest pre:List cp),n=pre.length+rest.length→E.kp rest →
  ((∀ j0 j1 j4 j5 j6 j7 j8 j9 cC cH cG cF cB cE cD cI cQ db de dh dm dv du dt dN dR dU dX ej eD eL eQ eP fb fi fh fg fw fG fF fK fW gj gi gB gA gz gy gx gY gW gU iq iD iN iM iL iK jf jD jP kt kr kq k8 mP mO mN mM mL mK nL qf rj ri rh rf re q9 q8 q7 qZ qY rT uq uo um uk uj ui uh,K (.exit 0) ⟨[j0,j1,.ptr (σ.length+1) 0,.ptr (σ.length+5) 0,j4,j5,j6,j7,j8,j9,cC,cH,cG,cF,cB,cE,cD,cI,cQ,db,de,dh,dm,dv,du,dt,dN,dR,dU,dX,ej,eD,eL,eQ,eP,fb,fi,fh,fg,fw,fG,fF,fK,fW,gj,gi,gB,gA,gz,gy,gx,gY,gW,gU,iq,iD,iN,iM,iL,iK,jf,jD,jP,kt,kr,kq,k8,mP,mO,mN,mM,mL,mK,nL,qf,rj,ri,rh,rf,re,q9,q8,q7,qZ,qY,rT,uq,uo,um,uk,uj,ui,uh],S6 σ b0 b1 ga B C vb vc (pre++E.up rest)⟩)) →
  fp σ.length prog HJ K (rest.length+1) ⟨[u,u,.ptr (σ.length+1) 0,.ptr (σ.length+5) 0,u,u,u,u,u,u,u,u,u,u,u,u,u,u,u,u,u,.own (σ.length+2) ga,.i .i64 n,.i .i64 pre.length,u,u,u,u,u,u,u,u,u,u,u,u,u,u,u,u,u,u,u,u,u,u,u,u,u,u,u,u,u,u,u,u,u,u,u,u,u,u,u,u,u,u,u,u,u,u,u,u,u,u,u,u,u,u,u,u,u,u,u,u,u,u,u,u,u,u,u,u,u],S6 σ b0 b1 ga B C vb vc (pre++rest)⟩:=by
 intro rest
 induction rest with
 | nil =>
  intro pre he hg h1;refine ay fun R hR=>?_;simp only[HJ,VV,seval];refine⟨fun h=>by simp at h he<;>omega,fun _=>?_⟩;simp only[gE.up,aZ,bt]at h1;exact h1 ..
 | cons o rest ih =>
  intro pre he hg h1;have W6:=hg o (dn ..);have hl:n=pre.length+(rest.length+1):=by rw[he];simp
  have hw:IntKind.i64.wrap ((pre.length:Int)+1)=(((pre++[kj (E.fR o) o]).length:Nat):Int):=by
   rw[aX (by omega)];simp
  have er:((pre++o::rest).map cp.cells).getD pre.length []=o.cells:=jj;have h0:(0:Int)≤(pre.length:Int):=by omega
  have h2:(pre.length:Int)<(n:Int):=by omega
  have h3:(pre.length:Int)<((pre++o::rest).length:Int):=by simp<;>omega
  have h4:pre.length<(pre++o::rest).length:=by simp
  simp only[cp.cells]at er;refine ay fun R hR=>?_;simp only[HJ,S6,bJ,dB,er,h0,h2,h3,hw,decide_true,beq_self_eq_true,ae,aH,VV,seval];refine an (hE.cR o W6 _) (by simp only[cp.cells,VV,seval]) ?_;simp only[k7,cp.cells,er,h0,h3,hw,ae,aH,VV,seval];have e1:pre++E.up (o::rest)=(pre++[kj (E.fR o) o])++E.up rest:=by simp[gE.up]
  rw[e1]at h1;have ih':=ih (pre++[kj (E.fR o) o]) (by simp;omega) (fun o ho=>hg o (bz _ ho)) h1;have hcl':=aU (pre++kj (E.fR o) o::rest);simp only[List.append_assoc,aJ,aG,S6,bJ,dB]at ih' hcl';refine⟨fun he=>⟨h4,?_⟩,fun he=>?_⟩
  ·have he:(E.fR o).2=0:=by simpa using he
   rw[Ei (E.fR o) he];refine hR _ (cy [b0,b1,bJ ga (pre++kj (E.fR o) o::rest),B,C,dB (.own (σ.length+2) ga) vb vc] [_,_] hcl' ?_ ?_ ih')
   ·repeat' constructor
   ·simp only[LW,ag,ai,aI];omega
  ·have he:¬ (E.fR o).2=0:=by simpa using he
   have hk:kj (E.fR o) o=o:=by rw[kj,if_neg he]
   rw[hk]at ih' hcl' ⊢;refine hR _ (cy [b0,b1,bJ ga (pre++o::rest),B,C,dB (.own (σ.length+2) ga) vb vc] [_,_] hcl' ?_ ?_ ih')
   ·repeat' constructor
   ·simp only[LW,ag,ai,aI];omega
set_option maxHeartbeats 2000000 in
theorem LR{E:gE}(hE:Fe E){σ:ah}{K:Exit→St→Prop}(b0 b1 B C:Ob)(ga:Nat)(vb vc:V)(aU:∀ bf,bG (S6 σ b0 b1 ga B C vb vc bf))(n:Nat)(hn:n<2^30):∀ (rest pre:List cp),n=pre.length+rest.length→E.kp rest →
  ((∀ j0 j1 j4 j5 j6 j7 j8 j9 cC cH cG cF cB cE cD cI cQ db de dh dm dv du dt dN dR dU dX ej eD eL eQ eP fb fi fh fg fw fG fF fK fW gj gi gB gA gz gy gx gY gW gU iq iD iN iM iL iK jf jD jP kt kr kq k8 mP mO mN mM mL mK nL qf rj ri rh rf re q9 q8 q7 qZ qY rT uq uo um uk uj ui uh,K (.exit 8) ⟨[j0,j1,.ptr (σ.length+1) 0,.ptr (σ.length+5) 0,j4,j5,j6,j7,j8,j9,cC,cH,cG,cF,cB,cE,cD,cI,cQ,db,de,dh,dm,dv,du,dt,dN,dR,dU,dX,ej,eD,eL,eQ,eP,fb,fi,fh,fg,fw,fG,fF,fK,fW,gj,gi,gB,gA,gz,gy,gx,gY,gW,gU,iq,iD,iN,iM,iL,iK,jf,jD,jP,kt,kr,kq,k8,mP,mO,mN,mM,mL,mK,nL,qf,rj,ri,rh,rf,re,q9,q8,q7,qZ,qY,rT,uq,uo,um,uk,uj,ui,uh],S6 σ b0 b1 ga B C vb vc (pre++E.sync rest)⟩)) →
  fp σ.length prog HF K (rest.length+1) ⟨[u,u,.ptr (σ.length+1) 0,.ptr (σ.length+5) 0,u,u,u,u,u,u,u,u,u,u,u,u,u,u,u,u,u,u,u,u,u,u,u,u,u,u,u,u,u,u,u,u,u,u,u,u,u,u,u,u,u,u,u,u,u,u,u,u,u,u,u,u,u,u,u,u,u,u,u,u,u,u,u,u,u,u,u,u,.own (σ.length+2) ga,.i .i64 n,.i .i64 pre.length,u,u,u,u,u,u,u,u,u,u,u,u,u,u,u,u,u,u],S6 σ b0 b1 ga B C vb vc (pre++rest)⟩:=by
 intro rest
 induction rest with
 | nil =>
  intro pre he hg h1;refine ay fun R hR=>?_;simp only[HF,VV,seval];refine⟨fun h=>by simp at h he<;>omega,fun _=>?_⟩;simp only[gE.sync,aZ,bt]at h1;exact h1 ..
 | cons o rest ih =>
  intro pre he hg h1;have W6:=hg o (dn ..);have hl:n=pre.length+(rest.length+1):=by rw[he];simp
  have hw:IntKind.i64.wrap ((pre.length:Int)+1)=(((pre++[kj (E.fS o) o]).length:Nat):Int):=by
   rw[aX (by omega)];simp
  have er:((pre++o::rest).map cp.cells).getD pre.length []=o.cells:=jj;have h0:(0:Int)≤(pre.length:Int):=by omega
  have h2:(pre.length:Int)<(n:Int):=by omega
  have h3:(pre.length:Int)<((pre++o::rest).length:Int):=by simp<;>omega
  have h4:pre.length<(pre++o::rest).length:=by simp
  simp only[cp.cells]at er;refine ay fun R hR=>?_;simp only[HF,S6,bJ,dB,er,h0,h2,h3,hw,decide_true,beq_self_eq_true,ae,aH,VV,seval];refine an (hE.cS o W6 _) (by simp only[cp.cells,VV,seval]) ?_;simp only[k7,cp.cells,er,h0,h3,hw,ae,aH,VV,seval];have e1:pre++E.sync (o::rest)=(pre++[kj (E.fS o) o])++E.sync rest:=by simp[gE.sync]
  rw[e1]at h1;have ih':=ih (pre++[kj (E.fS o) o]) (by simp;omega) (fun o ho=>hg o (bz _ ho)) h1;have hcl':=aU (pre++kj (E.fS o) o::rest);simp only[List.append_assoc,aJ,aG,S6,bJ,dB]at ih' hcl';refine⟨fun he=>⟨h4,?_⟩,fun he=>?_⟩
  ·have he:(E.fS o).2=0:=by simpa using he
   rw[Ei (E.fS o) he];refine hR _ (cy [b0,b1,bJ ga (pre++kj (E.fS o) o::rest),B,C,dB (.own (σ.length+2) ga) vb vc] [_,_] hcl' ?_ ?_ ih')
   ·repeat' constructor
   ·simp only[LW,ag,ai,aI];omega
  ·have he:¬ (E.fS o).2=0:=by simpa using he
   have hk:kj (E.fS o) o=o:=by rw[kj,if_neg he]
   rw[hk]at ih' hcl' ⊢;refine hR _ (cy [b0,b1,bJ ga (pre++o::rest),B,C,dB (.own (σ.length+2) ga) vb vc] [_,_] hcl' ?_ ?_ ih')
   ·repeat' constructor
   ·simp only[LW,ag,ai,aI];omega
theorem EU{E:gE}(hE:Fe E){σ:ah}(b0 b1 B C:Ob)(ga:Nat)(vb vc:V)(l:ah)(Pq:vb.Lt (σ.length+6))(T6:vc.Lt (σ.length+6))(hB:∀ n,kx n B)(Ic:∀ n,kx n C)(bf:List cp)(hlen:bf.length<2^30)(x:Let)(h0:0≤x.dst)(hm:x.dst<bf.length)(hg:E.kp bf)(gC:E.ok x.op):
  PC prog 34 [.ptr (σ.length+5) 0,.agg x.cells] (σ++(b0::b1::bJ ga bf::B::C::dB (.own (σ.length+2) ga) vb vc::l)) (fun r σ'=>(∃ e,r=.i .i64 e)∧σ'=σ++(b0::b1::bJ ga (E.rZ bf x.dst.toNat x.op)::B::C::dB (.own (σ.length+2) ga) vb vc::l)):=by
 have pC:x.dst.toNat<bf.length:=by omega
 have ho:bf[x.dst.toNat]?=some bf[x.dst.toNat]:=ao pC;have W6:=hg _ (aN ho);have hp:sb (σ++(b0::b1::.dead::.dead::.dead::.dead::l)) (σ.length+5) (σ.length+2) (σ.length+3) (σ.length+4):=by constructor<;>simp<;>omega
 have hl:σ.length+6≤(σ++(b0::b1::.dead::.dead::.dead::.dead::l)).length:=by simp
 have:=GN hp vb vc (Pq.mono hl) (T6.mono hl) bf B C (hB _) (Ic _) x hlen x.dst.toNat (by omega) _ ho (E.fV bf[x.dst.toNat] x.op).1 (E.fV bf[x.dst.toNat] x.op).2 (hE.cV _ _ W6 gC) (ga:=ga);rw[nI]at this;simp only[cW,cU]at this;refine this.mono ?_;rintro r σ' ⟨rfl,rfl⟩;refine⟨⟨_,rfl⟩,?_⟩;have e:E.rZ bf x.dst.toNat x.op=(if(E.fV bf[x.dst.toNat] x.op).2=0 then bf.set x.dst.toNat (E.fV bf[x.dst.toNat] x.op).1 else bf):=by simp only[gE.rZ,ho]
 rw[nI,e];rfl
set_option maxHeartbeats 2000000 in
theorem LV{E:gE}(hE:Fe E){σ:ah}{K:Exit→St→Prop}(b0 b1 C:Ob)(Ic:∀ n,kx n C)(ga gb:Nat)(vc:V)(T6:vc.Lt (σ.length+6))(lets:List Let)(aU:∀ bf,bG (S6 σ b0 b1 ga (cv gb lets) C (.own (σ.length+3) gb) vc bf))(n m:Nat)(hn:n<2^30)(pz:n=lets.length)(hm:m<2^30)(gC:∀ x∈lets,0≤x.dst∧x.dst<m∧E.ok x.op):∀ (rest pre:List Let) (bf:List cp),lets=pre++rest→E.kp bf→bf.length=m →
  ((∀ j0 j1 j4 j5 j6 j7 j8 j9 cC cH cG cF cB cE cD cI cQ db de dh dm dv du dt dN dR dU dX ej eD eL eQ eP fb fi fh fg fw fG fF fK fW gj gi gB gA gz gy gx gY gW gU iq iD iN iM iL iK jf jD jP kt kr kq k8 mP mO mN mM mL mK nL qf rj ri rh rf re q9 q8 q7 qZ qY rT uq uo um uk uj ui uh,K (.exit 2) ⟨[j0,j1,.ptr (σ.length+1) 0,.ptr (σ.length+5) 0,j4,j5,j6,j7,j8,j9,cC,cH,cG,cF,cB,cE,cD,cI,cQ,db,de,dh,dm,dv,du,dt,dN,dR,dU,dX,ej,eD,eL,eQ,eP,fb,fi,fh,fg,fw,fG,fF,fK,fW,gj,gi,gB,gA,gz,gy,gx,gY,gW,gU,iq,iD,iN,iM,iL,iK,jf,jD,jP,kt,kr,kq,k8,mP,mO,mN,mM,mL,mK,nL,qf,rj,ri,rh,rf,re,q9,q8,q7,qZ,qY,rT,uq,uo,um,uk,uj,ui,uh],S6 σ b0 b1 ga (cv gb lets) C (.own (σ.length+3) gb) vc (E.bw rest bf)⟩)) →
  fp σ.length prog HI K (rest.length+1) ⟨[u,u,.ptr (σ.length+1) 0,.ptr (σ.length+5) 0,u,u,u,u,u,u,u,u,u,u,u,u,u,u,u,u,u,u,u,u,u,u,u,u,u,u,u,u,u,u,u,u,u,u,u,u,u,u,.own (σ.length+3) gb,.i .i64 n,.i .i64 pre.length,u,u,u,u,u,u,u,u,u,u,u,u,u,u,u,u,u,u,u,u,u,u,u,u,u,u,u,u,u,u,u,u,u,u,u,u,u,u,u,u,u,u,u,u,u,u,u,u],S6 σ b0 b1 ga (cv gb lets) C (.own (σ.length+3) gb) vc bf⟩:=by
 intro rest
 induction rest with
 | nil =>
  intro pre bf he hg lC h1;refine ay fun R hR=>?_;simp only[HI,VV,seval];refine⟨fun h=>by simp[he]at pz h<;>omega,fun _=>?_⟩;exact h1 ..
 | cons x rest ih =>
  intro pre bf he hg lC h1;have hx:=gC x (by rw[he];simp);have hl:n=pre.length+(rest.length+1):=by rw[pz,he];simp
  have hw:IntKind.i64.wrap ((pre.length:Int)+1)=(((pre++[x]).length:Nat):Int):=by
   rw[aX (by omega)];simp
  have er:(lets.map Let.cells).getD pre.length []=xG x:=by rw[he,jj,oR]
  have h0:(0:Int)≤(pre.length:Int):=by omega
  have h2:(pre.length:Int)<(n:Int):=by omega
  have h3:(pre.length:Int)<(lets.length:Int):=by omega
  simp only[xG]at er;refine ay fun R hR=>?_;simp only[HI,S6,cv,er,h0,h2,h3,hw,decide_true,beq_self_eq_true,ae,aH,VV,seval];refine jc (EU hE b0 b1 (cv gb lets) C ga (.own (σ.length+3) gb) vc [_] (.own _ _ (by omega)) T6 (fun _=>trivial) Ic bf (by omega) x hx.1 (by omega) hg hx.2.2) (by simp only[oR,xG,VV,seval]) ?_;rintro r σ' ⟨⟨e,rfl⟩,rfl⟩;simp only[hw,VV,seval];have hcl':=aU (E.rZ bf x.dst.toNat x.op);have ih':=ih (pre++[x]) (E.rZ bf x.dst.toNat x.op) (by rw[he];simp) (gE.qS hg hx.2.2) (gE.s9.trans lC) h1;simp only[S6]at ih' hcl';refine hR _ (cy [b0,b1,bJ ga (E.rZ bf x.dst.toNat x.op),cv gb lets,C,dB (.own (σ.length+2) ga) (.own (σ.length+3) gb) vc] [_] hcl' ?_ ?_ ih')
  ·repeat' constructor
  ·simp only[LW,ag,ai,aI];omega
set_option maxHeartbeats 2000000 in
theorem LU{E:gE}(hE:Fe E){σ:ah}{K:Exit→St→Prop}(b0 b1 B C:Ob)(hB:∀ n,kx n B)(Ic:∀ n,kx n C)(ga:Nat)(aU:∀ bf,bG (S6 σ b0 b1 ga B C .nil .nil bf))(xs:List bc)(n m i:Nat)(hn:n<2^30)(pz:n=xs.length)(hm:m<2^30)(hi:i<m)(gC:∀ x∈xs,E.ok x):∀ (rest pre:List bc) (bf:List cp),xs=pre++rest→E.kp bf→bf.length=m →
  ((∀ j0 j1 j4 j5 j6 j7 j8 j9 cC cH cG cF cB cE cD cI cQ db de dh dm dv du dt dN dR dU dX ej eD eL eQ eP fb fi fh fg fw fG fF fK fW gj gi gB gA gz gy gx gY gW gU iN iM iL iK jf jD jP kt kr kq k8 mP mO mN mM mL mK nL qf rj ri rh rf re q9 q8 q7 qZ qY rT uq uo um uk uj ui uh,K (.exit 6) ⟨[j0,j1,.ptr (σ.length+1) 0,.ptr (σ.length+5) 0,j4,j5,j6,j7,j8,j9,cC,cH,cG,cF,cB,cE,cD,cI,cQ,db,de,dh,dm,dv,du,dt,dN,dR,dU,dX,ej,eD,eL,eQ,eP,fb,fi,fh,fg,fw,fG,fF,fK,fW,gj,gi,gB,gA,gz,gy,gx,gY,gW,gU,.i .i64 m,.i .i64 i,iN,iM,iL,iK,jf,jD,jP,kt,kr,kq,k8,mP,mO,mN,mM,mL,mK,nL,qf,rj,ri,rh,rf,re,q9,q8,q7,qZ,qY,rT,uq,uo,um,uk,uj,ui,uh],S6 σ b0 b1 ga B C .nil .nil (E.rI i rest bf)⟩)) →
  fp σ.length prog HH K (rest.length+1) ⟨[u,u,.ptr (σ.length+1) 0,.ptr (σ.length+5) 0,u,u,u,u,u,u,.i .i64 i,u,u,u,u,u,u,u,u,u,u,u,u,u,u,u,u,u,u,u,u,u,u,u,u,u,u,u,u,u,u,u,u,u,u,u,u,u,u,u,u,u,u,u,.i .i64 m,.i .i64 i,u,u,u,.sl 13 (xs.map bc.cells),.i .i64 n,.i .i64 pre.length,u,u,u,u,u,u,u,u,u,u,u,u,u,u,u,u,u,u,u,u,u,u,u,u,u,u,u,u,u,u,u],S6 σ b0 b1 ga B C .nil .nil bf⟩:=by
 intro rest
 induction rest with
 | nil =>
  intro pre bf he hg lC h1;refine ay fun R hR=>?_;simp only[HH,VV,seval];refine⟨fun h=>by simp[he]at pz h<;>omega,fun _=>?_⟩;exact h1 ..
 | cons x rest ih =>
  intro pre bf he hg lC h1;have hx:=gC x (by rw[he];simp);have hl:n=pre.length+(rest.length+1):=by rw[pz,he];simp
  have hw:IntKind.i64.wrap ((pre.length:Int)+1)=(((pre++[x]).length:Nat):Int):=by
   rw[aX (by omega)];simp
  have er:(xs.map bc.cells).getD pre.length []=HO x:=by rw[he,jj,oN]
  have h0:(0:Int)≤(pre.length:Int):=by omega
  have h2:(pre.length:Int)<(n:Int):=by omega
  have h3:(pre.length:Int)<(xs.length:Int):=by omega
  simp only[HO]at er;refine ay fun R hR=>?_;simp only[HH,S6,er,h0,h2,h3,hw,decide_true,beq_self_eq_true,ae,aH,VV,seval];refine jc (EU hE b0 b1 B C ga .nil .nil [_] (by simp only[LW]) (by simp only[LW]) hB Ic bf (by omega) ⟨0,i,x⟩ (by show(0:Int)≤(i:Int);omega) (by show(i:Int)<_;omega) hg hx) (by simp only[oR,xG,VV,seval]) ?_;rintro r σ' ⟨⟨e,rfl⟩,rfl⟩;simp only[hw,aH,VV,seval];have hcl':=aU (E.rZ bf i x);have ih':=ih (pre++[x]) (E.rZ bf i x) (by rw[he];simp) (gE.qS hg hx) (gE.s9.trans lC) h1;simp only[S6]at ih' hcl';refine hR _ (cy [b0,b1,bJ ga (E.rZ bf i x),B,C,dB (.own (σ.length+2) ga) .nil .nil] [_] hcl' ?_ ?_ ih')
  ·repeat' constructor
  ·simp only[LW,ag,ai,aI];omega
set_option maxHeartbeats 2000000 in
theorem LS{E:gE}(hE:Fe E){σ:ah}{K:Exit→St→Prop}(uK:bG σ)(b0 b1 B C:Ob)(hB:∀ n,kx n B)(Ic:∀ n,kx n C)(ga:Nat)(aU:∀ bf,bG (S6 σ b0 b1 ga B C .nil .nil bf))(m:Nat)(hm:m<2^13):∀ (k i:Nat) (bf:List cp),m=i+k→E.kp bf→bf.length=m →
  ((∀ j0 j1 j4 j5 j6 j7 j8 j9 cC cH cG cF cB cE cD cI cQ db de dh dm dv du dt dN dR dU dX ej eD eL eQ eP fb fi fh fg fw fG fF fK fW gj gi gB gA gz gy gx gY gW gU iq iD iN iM iL iK jf jD jP kt kr kq k8 mP mO mN mM mL mK nL qf rj ri rh rf re q9 q8 q7 qZ qY rT uq uo um uk uj ui uh,K (.exit 4) ⟨[j0,j1,.ptr (σ.length+1) 0,.ptr (σ.length+5) 0,j4,j5,j6,j7,j8,j9,cC,cH,cG,cF,cB,cE,cD,cI,cQ,db,de,dh,dm,dv,du,dt,dN,dR,dU,dX,ej,eD,eL,eQ,eP,fb,fi,fh,fg,fw,fG,fF,fK,fW,gj,gi,gB,gA,gz,gy,gx,gY,gW,gU,iq,iD,iN,iM,iL,iK,jf,jD,jP,kt,kr,kq,k8,mP,mO,mN,mM,mL,mK,nL,qf,rj,ri,rh,rf,re,q9,q8,q7,qZ,qY,rT,uq,uo,um,uk,uj,ui,uh],S6 σ b0 b1 ga B C .nil .nil (E.all (List.range' i k) bf)⟩)) →
  fp σ.length prog HG K (k+1) ⟨[u,u,.ptr (σ.length+1) 0,.ptr (σ.length+5) 0,u,u,u,u,u,u,u,u,u,u,u,u,u,u,u,u,u,u,u,u,u,u,u,u,u,u,u,u,u,u,u,u,u,u,u,u,u,u,u,u,u,u,u,u,u,u,u,u,u,u,.i .i64 m,.i .i64 i,u,u,u,u,u,u,u,u,u,u,u,u,u,u,u,u,u,u,u,u,u,u,u,u,u,u,u,u,u,u,u,u,u,u,u,u,u],S6 σ b0 b1 ga B C .nil .nil bf⟩:=by
 intro k
 induction k with
 | zero =>
  intro i bf he hg lC h1;refine ay fun R hR=>?_;simp only[HG,VV,seval];refine⟨fun h=>by simp at h<;>omega,fun _=>?_⟩;exact h1 ..
 | succ k ih =>
  intro i bf he hg lC h1;have hw:IntKind.i64.wrap ((i:Int)+1)=((i+1:Nat):Int):=by rw[aX (by omega)]
  have h0:(0:Int)≤(i:Int):=by omega
  have h2:(i:Int)<(m:Int):=by omega
  have iE:(gL bf).length≤bf.length*2^16:=G2 fun o ho=>E.len o (hg o ho);have rG:=Gi bf;refine ay fun R hR=>?_;simp only[HG,S6,dB,h0,h2,decide_true,VV,seval];refine an (D9 bf (fun o ho x hx=>E.val x (E.ops o (hg o ho) x hx)) (by omega) (by omega) (σ.length+2) ga _ (by simp only[VV,seval])) rfl ?_;simp only[ae,VV,seval];have py:=fun K=>LU hE (K:=K) b0 b1 B C hB Ic ga aU (ka bf) (ka bf).length m i (by omega) rfl (by omega) (by omega) (fun x hx=>gE.xH hg hx) (ka bf) [] bf rfl hg lC;simp only[S6,dB]at py;refine bX.wk (Wk.ic ?_) (bX.ml ((ka bf).length+1) (py _ ?_))
  ·repeat' constructor
  intros;simp only[hw,VV,seval];have ih':=ih (i+1) (E.rI i (ka bf) bf) (by omega) (gE.x7 _ hg fun x hx=>gE.xH hg hx) ((gE.AA _).trans lC) h1;simp only[S6,dB]at ih';refine hR _ (bb ?_ ih')
  repeat' constructor
set_option maxHeartbeats 2000000 in
theorem IG{E:gE}(hE:Fe E)(n:Net)(hn:n.small)(hg:E.kp n.aV)(hm:n.aV.length<2^13)(hl:∀ x∈n.bw,0≤x.dst∧x.dst<n.aV.length∧E.ok x.op)(σ:ah):
  PC prog 16 [.agg n.cells] σ (fun r σ'=>r=.agg (Net.cells ⟨E.settle n,[],[]⟩)∧σ'=σ):=by
 refine PC.intro func16 c16 fun aU da=>al ?_;simp only[p16,SS,seval];simp only[Net.cells,ae,VV,seval];refine jc (mS n hn _) rfl ?_;rintro r σ' ⟨rfl,rfl⟩;simp only[bJ,cv,dW,beq_self_eq_true,Nat.add_assoc,Nat.reduceAdd,ae,VV,seval]
 have S8:∀ bf,bG (S6 σ (.box 26 [.sl 6 (n.aV.map cp.cells),.sl 15 (n.bw.map Let.cells),.sl 2 (n.dP.map dZ)]) (.box 26 [.nil,.nil,.nil]) 0 (cv 0 n.bw) (dW 0 n.dP) (.own (σ.length+3) 0) .nil bf):=fun bf=>b9 aU (by
  simp only[bJ,cv,dW,dB,ct,bK,false_imp_iff,implies_true,and_true,List.length_append,ag,ai,LW];omega)
 have vz:∀ bf,bG (S6 σ (.box 26 [.sl 6 (n.aV.map cp.cells),.sl 15 (n.bw.map Let.cells),.sl 2 (n.dP.map dZ)]) (.box 26 [.nil,.nil,.nil]) 0 (cv 0 n.bw) (dW 0 n.dP) .nil .nil bf):=fun bf=>b9 aU (by
  simp only[bJ,cv,dW,dB,ct,bK,false_imp_iff,implies_true,and_true,List.length_append,ag,ai,LW];omega)
 have lC:=hn.Wc;have Fs:=hn.Ws;have g1:=gE.NZ hg;have l1:(E.up n.aV).length=n.aV.length:=by simp[gE.up]
 have h0:=fun K=>LX hE (K:=K) (.box 26 [.sl 6 (n.aV.map cp.cells),.sl 15 (n.bw.map Let.cells),.sl 2 (n.dP.map dZ)]) (.box 26 [.nil,.nil,.nil]) (cv 0 n.bw) (dW 0 n.dP) 0 (.own (σ.length+3) 0) .nil S8 n.aV.length (by omega) n.aV [] (by simp) hg;have h1:=fun K=>LV hE (K:=K) (.box 26 [.sl 6 (n.aV.map cp.cells),.sl 15 (n.bw.map Let.cells),.sl 2 (n.dP.map dZ)]) (.box 26 [.nil,.nil,.nil]) (dW 0 n.dP) (fun _=>trivial) 0 0 .nil (by simp only[LW]) n.bw S8 n.bw.length n.aV.length (by omega) rfl (by omega) hl n.bw [] (E.up n.aV) rfl g1 l1;have g2:E.kp (E.bw n.bw (E.up n.aV)):=gE.Cg _ g1 fun x hx=>(hl x hx).2.2;have l2:(E.bw n.bw (E.up n.aV)).length=n.aV.length:=(gE.Eh _).trans l1;have h3:=fun K=>LS hE (K:=K) aU (.box 26 [.sl 6 (n.aV.map cp.cells),.sl 15 (n.bw.map Let.cells),.sl 2 (n.dP.map dZ)]) (.box 26 [.nil,.nil,.nil]) (cv 0 n.bw) (dW 0 n.dP) (fun _=>trivial) (fun _=>trivial) 0 vz n.aV.length hm n.aV.length 0 (E.bw n.bw (E.up n.aV)) (by omega) g2 l2;have g3:E.kp (E.all (List.range' 0 n.aV.length) (E.bw n.bw (E.up n.aV))):=gE.Nv _ g2;have l3:(E.all (List.range' 0 n.aV.length) (E.bw n.bw (E.up n.aV))).length=n.aV.length:=(gE.Qv _).trans l2;have h4:=fun K=>LR hE (K:=K) (.box 26 [.sl 6 (n.aV.map cp.cells),.sl 15 (n.bw.map Let.cells),.sl 2 (n.dP.map dZ)]) (.box 26 [.nil,.nil,.nil]) (cv 0 n.bw) (dW 0 n.dP) 0 .nil .nil vz n.aV.length (by omega) (E.all (List.range' 0 n.aV.length) (E.bw n.bw (E.up n.aV))) [] (by simp[l3]) g3;have YO:E.settle n=E.sync (E.all (List.range' 0 n.aV.length) (E.bw n.bw (E.up n.aV))):=by rw[gE.settle,List.range_eq_range']
 rw[YO];simp only[S6,bJ,dB,cv,dW,aG,ai,ae]at h0 h1 h3 h4;refine bX.wk (Wk.ic ?_) (bX.ml (n.aV.length+1) (h0 _ ?_))
 ·repeat' constructor
 intros;simp only[beq_self_eq_true,ae,VV,seval];refine bX.wk (Wk.ic ?_) (bX.ml (n.bw.length+1) (h1 _ ?_))
 ·repeat' constructor
 intros;simp only[beq_self_eq_true,ae,l2,VV,seval];refine bX.wk (Wk.ic ?_) (bX.ml (n.aV.length+1) (h3 _ ?_))
 ·repeat' constructor
 intros;simp only[beq_self_eq_true,ae,l3,VV,seval];refine bX.wk (Wk.ic ?_) (bX.ml ((E.all (List.range' 0 n.aV.length) (E.bw n.bw (E.up n.aV))).length+1) (h4 _ ?_))
 ·repeat' constructor
 intros;simp only[beq_self_eq_true,ae,VV,seval]
 have SL:∀ l:List cp,Wk prog σ.length [.agg [.own (σ.length+2) 0,.nil,.nil]] (σ++[.box 26 [.sl 6 (n.aV.map cp.cells),.sl 15 (n.bw.map Let.cells),.sl 2 (n.dP.map dZ)],.box 26 [.own (σ.length+2) 0,.nil,.nil],.row 44 6 80 0 false (l.map cp.cells),.row 67 15 200 0 false (n.bw.map Let.cells),.row 59 2 16 0 false (n.dP.map dZ),.box 26 [.own (σ.length+2) 0,.nil,.nil]]) [.agg (Net.cells ⟨l,[],[]⟩)] σ:=fun l=>by
  refine(Wk.EG 2 rfl).trans ((Wk.ic (ys:=[.agg (Net.cells ⟨l,[],[]⟩)]) ?_).trans (Wk.EM aU (by simp only[Net.cells,LW])));simp only[aW,aZ,Pm.fz,kF,and_self,if_true];exact .cons (.ng (.cons (.refl _) (.cons (.nil 15) (.cons (.nil 2) .nil)))) .nil
 exact ei (.inr rfl) (by simp only[RS,seval]) (SL _) rfl ⟨rfl,rfl⟩
end Go.Proofs.Tryz
namespace Go.Proofs.Tryz
open Go Go.Pm Go.Bt Go.RowKit
open Go.Pm.V(u)
structure De (o:cp):Prop where
 down:o.down=false
 small:o.small
 log:o.log.length≤60008*o.ops.length
 XQ:(o.number=0∧(o.ops=[nX]∨o.ops=[nX,nY]))∨(o.number=1∧(o.ops=[nY]∨o.ops=[nX,nY]))
def JB(x:bc):Prop:=x=nX∨x=nY
theorem De.len{o:cp}(h:De o):o.ops.length≤2:=by rcases h.XQ with⟨_,e | e⟩ | ⟨_,e | e⟩<;>rw[e]<;>decide
theorem De.ops{o:cp}(h:De o):∀ x∈o.ops,JB x:=by
 intro x hx;rcases h.XQ with⟨_,e | e⟩ | ⟨_,e | e⟩<;>rw[e]at hx<;>simp only[aY,bK,or_false]at hx<;>unfold JB<;>rcases hx with rfl | rfl<;>simp
theorem so{x:bc}(h:JB x):dQ x=0∧x.small∧(dV x).length≤60000:=by
 rcases h with rfl | rfl
 ·exact⟨Iv.2.2.1,xD,o9.2.2.1⟩
 ·exact⟨Iv.2.2.2,xC,o9.2.2.2⟩
theorem wF{o:cp}(h:De o):De { o with synced:=o.log.length }:=⟨h.down,⟨h.small.ops,h.small.len,h.small.log⟩,h.log,h.XQ⟩
theorem N0{o:cp}(h:De o){x:bc}(hx:JB x){m:Nat}(hm:m≤o.ops.length)(hw:(o.number=0∧o.ops.take m++x::o.ops.drop m=[nX,nY])∨(o.number=1∧o.ops.take m++x::o.ops.drop m=[nX,nY]))(h1:o.ops.length=1):De (gJ o x m):=by
 have hl:=h.log;have hp:=(so hx).2.2;refine⟨h.down,Af h.small (so hx).2.1 (by omega) (by omega) hp hm,?_,?_⟩
 ·simp only[gJ,List.length_append,sH,ba,ag,bB];omega
 ·rcases hw with⟨a,b⟩ | ⟨a,b⟩
  ·exact .inl ⟨a,.inr b⟩
  ·exact .inr ⟨a,.inr b⟩
theorem Hc{a x:bc}{m:Nat}(h:0≤eJ a x↔m≤0):∀ (k:Nat) (y:bc),[a][k]?=some y→(0≤eJ y x↔m≤k):=by
 intro k y hy;rcases k with _ | k
 ·obtain rfl:a=y:=by simpa using hy
  exact h
 ·simp at hy
theorem Hb{a b x:bc}{m:Nat}(h:0≤eJ a x↔m≤0)(h':0≤eJ b x↔m≤1):∀ (k:Nat) (y:bc),[a,b][k]?=some y→(0≤eJ y x↔m≤k):=by
 intro k y hy;rcases k with _ | _ | k
 ·obtain rfl:a=y:=by simpa using hy
  exact h
 ·obtain rfl:b=y:=by simpa using hy
  exact h'
 ·simp at hy
theorem od{o:cp}(h:De o){x:bc}(hx:JB x):De (hY o x)∧∀ σ,PC prog 55 [.agg o.cells,.agg x.cells] σ (fun r σ'=>r=k7 (hY o x) 0∧σ'=σ):=by
 have hk:=so hx;have hl:=h.log;have hlen:=h.len
 have same:∀ m,o.ops[m]?=some x→m≤o.ops.length→(∀ (k:Nat) (y:bc),o.ops[k]?=some y→(0≤eJ y x↔m≤k))→o.ops.any (fun y=>eJ y x==0)=true→De (hY o x)∧∀ σ,PC prog 55 [.agg o.cells,.agg x.cells] σ (fun r σ'=>r=k7 (hY o x) 0∧σ'=σ):=by
  intro m h1 h2 h3 h4;have e:hY o x=o:=by rw[hY,if_pos h4]
  rw[e];exact⟨h,fun σ=>Bk o x m h.small hk.2.1 h.down hk.1 h2 h3 h1 σ⟩
 have put:∀ m,rV o.ops x=m→m≤o.ops.length→(∀ (k:Nat) (y:bc),o.ops[k]?=some y→(0≤eJ y x↔m≤k))→(∀ y,o.ops[m]?=some y→eJ y x≠0)→x.aT.bP≠o.number→o.ops.any (fun y=>eJ y x==0)=false→o.ops.length=1 →
   ((o.number=0∧o.ops.take m++x::o.ops.drop m=[nX,nY])∨(o.number=1∧o.ops.take m++x::o.ops.drop m=[nX,nY]))→De (hY o x)∧∀ σ,PC prog 55 [.agg o.cells,.agg x.cells] σ (fun r σ'=>r=k7 (hY o x) 0∧σ'=σ):=by
  intro m h0 h2 h3 h4 h5 h6 h7 h8;have e:hY o x=gJ o x m:=by rw[hY,if_neg (by rw[h6];decide),h0]
  rw[e];exact⟨N0 h hx h2 h8 h7,fun σ=>FY o x m h.small hk.2.1 h.down hk.1 hk.2.2 (by omega) h2 h3 h4 h5 σ⟩
 rcases h.XQ with⟨hn,e | e⟩ | ⟨hn,e | e⟩<;>rcases hx with rfl | rfl
 ·exact same 0 (by rw[e];rfl) (by rw[e];decide) (by rw[e];exact Hc (by decide)) (by rw[e];decide)
 ·exact put 1 (by rw[e];decide) (by rw[e];decide) (by rw[e];exact Hc (by decide)) (by rw[e];simp) (by rw[hn];decide) (by rw[e];decide) (by rw[e];rfl) (.inl ⟨hn,by rw[e];rfl⟩)
 ·exact same 0 (by rw[e];rfl) (by rw[e];decide) (by rw[e];exact Hb (by decide) (by decide)) (by rw[e];decide)
 ·exact same 1 (by rw[e];rfl) (by rw[e];decide) (by rw[e];exact Hb (by decide) (by decide)) (by rw[e];decide)
 ·exact put 0 (by rw[e];decide) (by rw[e];decide) (by rw[e];exact Hc (by decide)) (by rw[e];intro y hy;obtain rfl:nY=y:=(by simpa using hy);decide) (by rw[hn];decide) (by rw[e];decide) (by rw[e];rfl) (.inr ⟨hn,by rw[e];rfl⟩)
 ·exact same 0 (by rw[e];rfl) (by rw[e];decide) (by rw[e];exact Hc (by decide)) (by rw[e];decide)
 ·exact same 0 (by rw[e];rfl) (by rw[e];decide) (by rw[e];exact Hb (by decide) (by decide)) (by rw[e];decide)
 ·exact same 1 (by rw[e];rfl) (by rw[e];decide) (by rw[e];exact Hb (by decide) (by decide)) (by rw[e];decide)
def A4:gE where
 qn:=De
 ok:=JB
 fR _:=(cp.zero,8)
 fV o x:=(hY o x,0)
 fS o:=({ o with synced:=o.log.length },0)
 ops _ h:=h.ops
 val _ h:=⟨(so h).1,(so h).2.1⟩
 sml _ h:=h.small
 len _ h:=bF h.len (by decide)
 gR _ _ h:=absurd h (by decide)
 gV _ _ h hx _:=(od h hx).1
 gS _ h _:=wF h
theorem Yn:Fe A4:=⟨fun o h σ=>FU o h.down σ,fun _ _ h hx σ=>(od h hx).2 σ,fun o h σ=>N5 o h.small h.down σ⟩
theorem Nz:De P0:=⟨rfl,yB,by show P0.log.length≤60008*1;exact bF (by decide +kernel:P0.log.length≤1000) (by decide),.inl ⟨rfl,.inl rfl⟩⟩
theorem Ny:De P1:=⟨rfl,Ff,by show P1.log.length≤60008*1;exact bF (by decide +kernel:P1.log.length≤1000) (by decide),.inr ⟨rfl,.inl rfl⟩⟩
theorem N7:nZ [nX,nY]=[nX,nY]:=(oK (fun x hx=>by
 simp only[aY,bK,or_false]at hx;exact⟨(so hx).1,(so hx).2.1⟩) (.refl _) (by decide +kernel)).symm
theorem KQ:nZ [nX,nY,nY]=[nX,nY,nY]:=(oK (fun x hx=>by
 simp only[aY,bK,or_false,or_self]at hx;exact⟨(so hx).1,(so hx).2.1⟩) (.refl _) (by decide +kernel)).symm
def Q0:cp:=gJ P0 nY 1
def Q1:cp:=gJ P1 nX 0
theorem RL:(jo nY nX==0)=false∧(jo nY nY==0)=true:=by decide +kernel
theorem FX:hY P0 nX=P0∧hY P0 nY=Q0:=⟨by rw[hY,if_pos (by decide)],by rw[hY,if_neg (by decide),show rV P0.ops nY=1 from by decide];rfl⟩
theorem FW:hY P1 nX=Q1∧hY Q1 nY=Q1:=⟨by rw[hY,if_neg (by decide),show rV P1.ops nX=0 from by decide];rfl,by rw[hY,if_pos (by decide)]⟩
theorem N3:A4.settle ⟨[P0,P1],[],[pU 1 0]⟩=[{ Q0 with synced:=Q0.log.length },{ Q1 with synced:=Q1.log.length }]:=by
 have k1:ka [P0,P1]=[nX,nY]:=by
  show iS _ (nZ [nX,nY])=_;rw[N7];simp only[iS,jK,RL.1,aF,if_false]
 have k2:ka [Q0,P1]=[nX,nY]:=by
  show iS _ (nZ [nX,nY,nY])=_;rw[KQ];simp only[iS,jK,RL.1,RL.2,aF,if_false,if_true]
 have g1:A4.rI 0 [nX,nY] [P0,P1]=[Q0,P1]:=by
  show[hY (hY P0 nX) nY,P1]=_;rw[FX.1,FX.2]
 have g2:A4.rI 1 [nX,nY] [Q0,P1]=[Q0,Q1]:=by
  show[Q0,hY (hY P1 nX) nY]=_;rw[FW.1,FW.2]
 show A4.sync (A4.rI 1 (ka (A4.rI 0 (ka [P0,P1]) [P0,P1])) (A4.rI 0 (ka [P0,P1]) [P0,P1]))=_;rw[k1,g1,k2,g2];rfl
def xy:Net:=⟨[{ Q0 with synced:=Q0.log.length },{ Q1 with synced:=Q1.log.length }],[],[]⟩
theorem D8:∀ o∈xy.aV,De o:=by
 have WO:De Q0:=FX.2▸(od Nz (.inr rfl)).1;have JL:De Q1:=FW.1▸(od Ny (.inl rfl)).1;intro o ho;simp only[xy,aY,bK,or_false]at ho;rcases ho with rfl | rfl
 ·exact wF WO
 ·exact wF JL
theorem Wi:gm (eK [nX,nY]) [rm [97] [121]]=true:=by decide +kernel
theorem Ry:DI [P0,P1]=false:=by decide +kernel
theorem Rx:DI xy.aV=true:=by decide +kernel
end Go.Proofs.Tryz
namespace Go.Proofs.Tryz
open Go Go.Pm Go.Bt
open Go.Pm.V(u)
theorem qd(t:List UInt8)(σ:ah):PC prog 15 [.s t] σ (fun r σ'=>r=.agg (rm [97] t).cells∧σ'=σ):=by
 refine PC.intro func15 c15 fun aU da=>al ?_;simp only[p15,SS,seval];simp only[VV,seval];refine jW (xs:=[.agg [.lit 3 [[.i .i64 1,.s [97],.i .i64 0]],.lit 3 [[.i .i64 1,.s t,.i .i64 0]],.s [],.s [],.s [],.s [],.i .i64 0,.i .i64 1]]) (ys:=[.agg (rm [97] t).cells]) aU (.inr rfl) (by simp only[RS,seval]) (.cons (.ng ?_) .nil) (by simp only[En.cells,LW]) ⟨rfl,rfl⟩;exact .cons (.lit _ _) (.cons (.lit _ _) (.cons (.refl _) (.cons (.refl _) (.cons (.refl _) (.cons (.refl _) (.cons (.refl _) (.cons (.refl _) .nil)))))))
def n1:Net:=⟨[jC 0,jC 1],[],[]⟩
theorem r5(n:Net):jg n 0=.gZ [.agg [.sl 6 (n.aV.map cp.cells),.sl 15 (n.bw.map Let.cells),.sl 2 (n.dP.map dZ)],.i .i64 0]:=rfl
theorem HS(σ:ah):PC prog 4 [.i .i64 2] σ (fun r σ'=>r=.gZ [.agg n1.cells,.i .i64 0]∧σ'=σ):=Ji 2 (by decide) (by decide) σ
theorem oq(bf:List cp)(dP:List (Int×Int))(h:∀ o∈bf,o.small)(hl:bf.length<2^30)(hc:dP.length<2^30):Net.small ⟨bf,[],dP⟩:=⟨h,hl,(fun x hx=>by cases hx),(by show(0:Nat)<2^30;decide),hc⟩
def n2:Net:=⟨[jC 0,jC 1],[],[pU 1 0]⟩
def n3:Net:=⟨[P0,jC 1],[],[pU 1 0]⟩
def n4:Net:=⟨[P0,P1],[],[pU 1 0]⟩
theorem Eb:n1.small:=oq _ _ (by simp[gq]) (by decide) (by decide)
theorem LA:n2.small:=oq _ _ (by simp[gq]) (by decide) (by decide)
theorem Ly:n3.small:=oq _ _ (by simp[gq,yB]) (by decide) (by decide)
theorem xE:n4.small:=oq _ _ (by simp[yB,Ff]) (by decide) (by decide)
theorem Yv(σ:ah):PC prog 5 [.agg n1.cells,.agg (Ev.cells ⟨7,1,0,0,Fo⟩)] σ (fun r σ'=>r=jg n2 0∧σ'=σ):=Xw n1 Eb 1 0 (by decide) (by decide) (by decide) rfl Fo σ
theorem Sk(σ:ah):PC prog 5 [.agg n2.cells,.agg (Ev.cells ⟨1,0,0,0,rm [97] [120]⟩)] σ (fun r σ'=>r=jg n3 0∧σ'=σ):=qU n2 LA 0 (jC 0) P0 nX rfl _ XC σ
theorem Sj(σ:ah):PC prog 5 [.agg n3.cells,.agg (Ev.cells ⟨1,1,0,0,rm [97] [121]⟩)] σ (fun r σ'=>r=jg n4 0∧σ'=σ):=qU n3 Ly 1 (jC 1) P1 nY rfl _ XB σ
theorem Wv(σ:ah):PC prog 5 [.agg n4.cells,.agg (Ev.cells ⟨3,0,1,0,Fo⟩)] σ (fun r σ'=>r=jg Net.zero 8∧σ'=σ):=Qh n4 xE 0 1 (by decide) P0 P1 rfl rfl rfl rfl (by decide) Fo σ
theorem Ph(σ:ah):PC prog 16 [.agg n4.cells] σ (fun r σ'=>r=.agg xy.cells∧σ'=σ):=by
 have:=IG Yn n4 xE (by intro o ho;simp only[n4,aY,bK,or_false]at ho;rcases ho with rfl | rfl;exact Nz;exact Ny) (by decide) (fun x hx=>by cases hx) σ
 rwa [show A4.settle n4=xy.aV from N3]at this
theorem Si(σ:ah):PC prog 17 [.agg n4.cells] σ (fun r σ'=>r=.b false∧σ'=σ):=by
 have:=Is n4 (by decide) xE.bf (by simp[n4]) σ
 rwa [show DI n4.aV=false from Ry]at this
theorem Sh(σ:ah):PC prog 17 [.agg xy.cells] σ (fun r σ'=>r=.b true∧σ'=σ):=by
 have:=Is xy (by decide) (fun o ho=>(D8 o ho).small) (by simp[xy]) σ
 rwa [Rx]at this
theorem Iu{k a b n:Int}:nP [.i .i64 k,.i .i64 a,.i .i64 b,.i .i64 n,.nil,.nil,.s [],.s [],.s [],.s [],.i .i64 0,.i .i64 0] (Ev.cells ⟨k,a,b,n,Fo⟩):=by
 simp only[Ev.cells,En.cells,Fo,aZ]
 repeat first | exact .nil | refine .cons (.refl _) ?_ | refine .cons (.nil _) ?_
def pZ:cp:={ Q0 with synced:=Q0.log.length }
set_option maxHeartbeats 2000000 in
theorem Gk(σ:ah):PC prog 7 [] σ (fun r σ'=>r=.b true∧σ'=σ):=by
 refine PC.intro func7 c7 fun aU da=>al ?_;simp only[p7,SS,seval];simp only[VV,seval];refine an (HS _) rfl ?_;simp only[Net.cells,VV,seval];refine iv (zs:=[.agg n1.cells,.agg (Ev.cells ⟨7,1,0,0,Fo⟩)]) (.cons (.refl _) (.cons (Cv.ng Iu) .nil)) (Yv _) ?_;simp only[r5,VV,seval];refine oB rfl (by kernel_rfl) (qd [120] _) rfl ?_;simp only[En.cells,VV,seval];refine an (Sk _) rfl ?_;simp only[r5,VV,seval];refine oB rfl (by kernel_rfl) (qd [121] _) rfl ?_;simp only[En.cells,VV,seval];refine an (Sj _) rfl ?_;simp only[r5,VV,seval];refine iv (zs:=[.agg n4.cells,.agg (Ev.cells ⟨3,0,1,0,Fo⟩)]) (.cons (.refl _) (.cons (Cv.ng Iu) .nil)) (Wv _) ?_;simp only[jg,Net.zero,Net.cells,VV,seval];refine an (Ph _) rfl ?_;simp only[Net.cells,VV,seval];refine br (c:=true) (by simp only[VV,seval]<;>rfl) (fun _=>Si _) rfl ?_;have k4:(false==true)=false:=rfl;have k3:(true==true)=true:=rfl;have hlen:xy.aV.length=2:=rfl;have qm:(xy.aV.map cp.cells).getD 0 []=[.i .i64 pZ.number,.i .i64 pZ.clock,.sl 13 (pZ.ops.map bc.cells),.sl 1 (aQ pZ.log),.i .i64 pZ.synced,.b pZ.down]:=rfl;simp only[k3,k4,hlen,qm,ae,VV,seval];refine br (c:=true) (by simp only[VV,seval]<;>rfl) (fun _=>Sh _) rfl ?_;simp only[k3,k4,hlen,qm,ae,VV,seval];refine⟨_,rfl,?_⟩;have YQ:pZ.small:=(D8 pZ (by simp[xy,pZ])).small;have ho0:pZ.ops=[nX,nY]:=rfl;refine br (c:=true) (by simp only[VV,seval]<;>rfl) (fun _=>F0 pZ YQ _) rfl ?_;simp only[k3,k4,ho0,VV,seval];refine AQ (c:=true) (v:=.agg (rm [97] [121]).cells) (by simp only[VV,seval]<;>rfl) (fun _=>⟨_,_,rfl,by kernel_rfl,qd [121] _⟩) ?_;simp only[En.cells,V.pure,VV,seval];refine br (c:=true) (by simp only[VV,seval]<;>rfl) (fun _=>PC.wk (args':=[.sl 8 ((eK [nX,nY]).map En.cells),.sl 8 ([rm [97] [121]].map En.cells)]) (Wk.ic (.cons (.refl _) (.cons (.lit _ _) .nil))) (sN (eK [nX,nY]) [rm [97] [121]] _)) rfl ?_;simp only[Wi,VV,seval];exact aD aU (.inr rfl) (by simp only[RS,seval];rfl) (by simp only[LW]) ⟨rfl,rfl⟩
def l0:Let:=⟨0,1,y0⟩
def l1:Let:=⟨0,1,y1⟩
def LL:Nat→List Let
 | 0=>[]
 | k+1=>LL k++[l0,l1]
def l6(ls:List Let):Net:=⟨[O2,jC 1],ls,[]⟩
theorem yD(k:Nat):(LL k).length=2*k:=by
 induction k with
 | zero=>rfl
 | succ k ih=>simp only[LL,List.length_append,ag,ai];omega
theorem ND(k:Nat):∀ x∈LL k,x=l0∨x=l1:=by
 induction k with
 | zero=>intro x hx;cases hx
 | succ k ih =>
  intro x hx;simp only[LL,List.mem_append,aY,bK,or_false]at hx;exact hx.elim (ih x) id
theorem XK(k:Nat):(LL (k+1))[0]?=some l0∧(LL (k+1))[1]?=some l1:=by
 induction k with
 | zero=>exact⟨rfl,rfl⟩
 | succ k ih =>
  have hl:=yD (k+1);rw[LL,az (by omega),az (by omega)];exact ih
theorem xA(ls:List Let)(h:∀ x∈ls,x=l0∨x=l1)(hl:ls.length<2^30):(l6 ls).small :=
 ⟨by simp[l6,Fh,gq],(by show(2:Nat)<2^30;decide),(fun x hx=>by rcases h x hx with rfl | rfl;exact wB;exact wA),hl,(by show(0:Nat)<2^30;decide)⟩
theorem UA(σ:ah):PC prog 26 [.agg (jC 1).cells] σ (fun r σ'=>r=.sl 1 (([]:List Int).map bW)∧σ'=σ):=by
 have:=Hf (jC 1) (gq 1) rfl (Ku 0 0) tm σ
 rwa [show ph (kH (Ku 0 0)) []=[]from by decide +kernel]at this
theorem Rz(σ:ah):PC prog 25 [.agg O2.cells,.sl 1 (([]:List Int).map bW)] σ (fun r σ'=>r=.sl 13 ([y0,y1].map bc.cells)∧σ'=σ):=by
 have:=L4 O2 Fh rfl [] σ
 rwa [show nr O2.ops []=[y0,y1]from rfl]at this
theorem QQ(ls:List Let)(h:∀ x∈ls,x=l0∨x=l1)(hl:ls.length<2^29)(σ:ah):PC prog 5 [.agg (l6 ls).cells,.agg (Ev.cells ⟨3,0,1,0,Fo⟩)] σ (fun r σ'=>r=jg (l6 (ls++[l0,l1])) (if ls.length+2≤256 then 0 else 3)∧σ'=σ) :=
 TG (l6 ls) (xA ls h (by omega)) 0 1 (by decide) O2 (jC 1) rfl rfl rfl rfl rfl [] UA [y0,y1] Rz hl (by decide) Fo σ
theorem Wt(ls:List Let)(h:∀ x∈ls,x=l0∨x=l1)(hl:ls.length<2^29)(i:Nat)(x:Let)(hx:ls[i]?=some x)(σ:ah):PC prog 5 [.agg (l6 ls).cells,.agg (Ev.cells ⟨6,0,0,i,Fo⟩)] σ (fun r σ'=>r=jg (l6 (ls++[x])) (if ls.length=256 then 3 else 0)∧σ'=σ) :=
 doRepeat (l6 ls) (xA ls h (by omega)) i x hx hl Fo σ
def m1:Net:=⟨[O1,jC 1],[],[]⟩
theorem LD:m1.small:=oq _ _ (by simp[gq,yC]) (by decide) (by decide)
theorem lC1(σ:ah):PC prog 5 [.agg n1.cells,.agg (Ev.cells ⟨1,0,0,0,eA⟩)] σ (fun r σ'=>r=jg m1 0∧σ'=σ):=qU n1 Eb 0 (jC 0) O1 y0 rfl _ XE σ
theorem lC2(σ:ah):PC prog 5 [.agg m1.cells,.agg (Ev.cells ⟨1,0,0,0,eA⟩)] σ (fun r σ'=>r=jg (l6 (LL 0)) 0∧σ'=σ):=qU m1 LD 0 O1 O2 y1 rfl _ XD σ
theorem Xv:nP [.i .i64 1,.i .i64 0,.i .i64 0,.i .i64 0,.lit 3 [[.i .i64 1,.s [97],.i .i64 0]],.nil,.s [],.s [],.s [],.s [],.i .i64 0,.i .i64 1] (Ev.cells ⟨1,0,0,0,eA⟩):=by
 simp only[Ev.cells,En.cells,eA,aZ,aW,It.cells]
 repeat first | exact .nil | refine .cons (.refl _) ?_ | refine .cons (.nil _) ?_ | refine .cons (.lit _ _) ?_
def nB(n:Net):Ob:=.box 26 [.sl 6 (n.aV.map cp.cells),.sl 15 (n.bw.map Let.cells),.sl 2 (n.dP.map dZ)]
set_option maxHeartbeats 1000000 in
theorem OF{σ:ah}{K:Exit→St→Prop}(aU:∀ n,bG (σ++[nB n,(.box 34 [.lit 3 [[.i .i64 1,.s [97],.i .i64 0]],.nil,.s [],.s [],.s [],.s [],.i .i64 0,.i .i64 1])]))(v:Int)
  (h1:(∀ j1 j2 j4 j5 j6 j7 j8 j9 cC cH cG cF cB cE cD cI cQ db de dh dm dv du dt dN dR dU dX ej eD eL eQ eP fb fi fh fg fw fG fF fK fW gj gi gB gA gz gy gx gY gW gU iq iD iN iM iL iK jf jD jP kt kr kq k8 mP mO mN mM mL mK nL qf rj ri rh rf re q9 q8 q7 qZ qY rT uq uo um uk uj ui uh Ep Eo Em El Ek Ej Gm uG uF uE uD uC uB uA uz uy ux uw uv uu ur Co Cn Cm Cl Ck Cj Ci,K (.exit 0) ⟨[.i .i64 v,j1,j2,.ptr σ.length 0,j4,j5,j6,j7,j8,j9,cC,cH,cG,cF,cB,cE,cD,cI,cQ,db,de,dh,dm,dv,du,dt,dN,dR,dU,dX,ej,eD,eL,eQ,eP,fb,fi,fh,fg,fw,fG,fF,fK,fW,gj,gi,gB,gA,gz,gy,gx,gY,gW,gU,iq,iD,iN,iM,iL,iK,jf,jD,jP,kt,kr,kq,k8,mP,mO,mN,mM,mL,mK,nL,qf,rj,ri,rh,rf,re,q9,q8,q7,qZ,qY,rT,uq,uo,um,uk,uj,ui,uh,Ep,Eo,Em,El,Ek,Ej,Gm,uG,uF,uE,uD,uC,uB,uA,uz,uy,ux,uw,uv,uu,ur,Co,Cn,Cm,Cl,Ck,Cj,Ci],σ++[nB (l6 (LL 0)),(.box 34 [.lit 3 [[.i .i64 1,.s [97],.i .i64 0]],.nil,.s [],.s [],.s [],.s [],.i .i64 0,.i .i64 1])]⟩)) :
  fp σ.length prog Lm K 3 ⟨[.i .i64 v,u,u,.ptr σ.length 0,u,.ptr (σ.length+1) 0,.i .i64 0,u,u,u,u,u,u,u,u,u,u,u,u,u,u,u,u,u,u,u,u,u,u,u,u,u,u,u,u,u,u,u,u,u,u,u,u,u,u,u,u,u,u,u,u,u,u,u,u,u,u,u,u,u,u,u,u,u,u,u,u,u,u,u,u,u,u,u,u,u,u,u,u,u,u,u,u,u,u,u,u,u,u,u,u,u,u,u,u,u,u,u,u,u,u,u,u,u,u,u,u,u,u,u,u,u,u,u,u,u,u,u,u,u,u],σ++[nB n1,(.box 34 [.lit 3 [[.i .i64 1,.s [97],.i .i64 0]],.nil,.s [],.s [],.s [],.s [],.i .i64 0,.i .i64 1])]⟩:=by
 refine ay fun R hR=>?_;simp only[Lm,nB,decide_true,VV,seval];refine iv (zs:=[.agg n1.cells,.agg (Ev.cells ⟨1,0,0,0,eA⟩)]) (.cons (.refl _) (.cons (Cv.ng Xv) .nil)) (lC1 _) ?_;simp only[r5,VV,seval];refine hR _ (cy (fr':=[.i .i64 v,u,u,.ptr σ.length 0,u,.ptr (σ.length+1) 0,.i .i64 1,u,u,u,u,u,u,u,u,u,u,u,u,u,u,u,u,u,u,u,u,u,u,u,u,u,u,u,u,u,u,u,u,u,u,u,u,u,u,u,u,u,u,u,u,u,u,u,u,u,u,u,u,u,u,u,u,u,u,u,u,u,u,u,u,u,u,u,u,u,u,u,u,u,u,u,u,u,u,u,u,u,u,u,u,u,u,u,u,u,u,u,u,u,u,u,u,u,u,u,u,u,u,u,u,u,u,u,u,u,u,u,u,u,u]) [nB m1,(.box 34 [.lit 3 [[.i .i64 1,.s [97],.i .i64 0]],.nil,.s [],.s [],.s [],.s [],.i .i64 0,.i .i64 1])] [_] (aU _) ?_ ?_ ?_)
 ·repeat' constructor
 ·simp only[LW,ag,ai,aI];omega
 clear hR R;refine ay fun R hR=>?_;simp only[Lm,nB,decide_true,VV,seval];refine iv (zs:=[.agg m1.cells,.agg (Ev.cells ⟨1,0,0,0,eA⟩)]) (.cons (.refl _) (.cons (Cv.ng Xv) .nil)) (lC2 _) ?_;simp only[r5,VV,seval];refine hR _ (cy (fr':=[.i .i64 v,u,u,.ptr σ.length 0,u,.ptr (σ.length+1) 0,.i .i64 2,u,u,u,u,u,u,u,u,u,u,u,u,u,u,u,u,u,u,u,u,u,u,u,u,u,u,u,u,u,u,u,u,u,u,u,u,u,u,u,u,u,u,u,u,u,u,u,u,u,u,u,u,u,u,u,u,u,u,u,u,u,u,u,u,u,u,u,u,u,u,u,u,u,u,u,u,u,u,u,u,u,u,u,u,u,u,u,u,u,u,u,u,u,u,u,u,u,u,u,u,u,u,u,u,u,u,u,u,u,u,u,u,u,u]) [nB (l6 (LL 0)),(.box 34 [.lit 3 [[.i .i64 1,.s [97],.i .i64 0]],.nil,.s [],.s [],.s [],.s [],.i .i64 0,.i .i64 1])] [_] (aU _) ?_ ?_ ?_)
 ·repeat' constructor
 ·simp only[LW,ag,ai,aI];omega
 clear hR R;refine ay fun R hR=>?_;simp only[Lm,decide_false,VV,seval];exact h1 ..
set_option maxHeartbeats 1000000 in
theorem OE{σ:ah}{K:Exit→St→Prop}(be:Ob)(aU:∀ n,bG (σ++[nB n,be]))(v:Int):∀ (k i:Nat),127=i+k →
  ((∀ j1 j2 j4 j5 j6 j7 j8 j9 cC cH cG cF cB cE cD cI cQ db de dh dm dv du dt dN dR dU dX ej eD eL eQ eP fb fi fh fg fw fG fF fK fW gj gi gB gA gz gy gx gY gW gU iq iD iN iM iL iK jf jD jP kt kr kq k8 mP mO mN mM mL mK nL qf rj ri rh rf re q9 q8 q7 qZ qY rT uq uo um uk uj ui uh Ep Eo Em El Ek Ej Gm uG uF uE uD uC uB uA uz uy ux uw uv uu ur Co Cn Cm Cl Ck Cj Ci,K (.exit 2) ⟨[.i .i64 v,j1,j2,.ptr σ.length 0,j4,j5,j6,j7,j8,j9,cC,cH,cG,cF,cB,cE,cD,cI,cQ,db,de,dh,dm,dv,du,dt,dN,dR,dU,dX,ej,eD,eL,eQ,eP,fb,fi,fh,fg,fw,fG,fF,fK,fW,gj,gi,gB,gA,gz,gy,gx,gY,gW,gU,iq,iD,iN,iM,iL,iK,jf,jD,jP,kt,kr,kq,k8,mP,mO,mN,mM,mL,mK,nL,qf,rj,ri,rh,rf,re,q9,q8,q7,qZ,qY,rT,uq,uo,um,uk,uj,ui,uh,Ep,Eo,Em,El,Ek,Ej,Gm,uG,uF,uE,uD,uC,uB,uA,uz,uy,ux,uw,uv,uu,ur,Co,Cn,Cm,Cl,Ck,Cj,Ci],σ++[nB (l6 (LL 127)),be]⟩)) →
  fp σ.length prog Oj K (k+1) ⟨[.i .i64 v,u,u,.ptr σ.length 0,u,u,u,u,u,.i .i64 i,u,u,u,u,u,u,u,u,u,u,u,u,u,u,u,u,u,u,u,u,u,u,u,u,u,u,u,u,u,u,u,u,u,u,u,u,u,u,u,u,u,u,u,u,u,u,u,u,u,u,u,u,u,u,u,u,u,u,u,u,u,u,u,u,u,u,u,u,u,u,u,u,u,u,u,u,u,u,u,u,u,u,u,u,u,u,u,u,u,u,u,u,u,u,u,u,u,u,u,u,u,u,u,u,u,u,u,u,u,u,u],σ++[nB (l6 (LL i)),be]⟩:=by
 intro k
 induction k with
 | zero =>
  intro i he h1;have he:i=127:=by omega
  subst he;refine ay fun R hR=>?_;have hd:(((127:Nat):Int)<127)=False:=by simp
  simp only[Oj,hd,decide_false,VV,seval];exact h1 ..
 | succ k ih =>
  intro i he h1;have hw:IntKind.i64.wrap ((i:Int)+1)=((i+1:Nat):Int):=by rw[aX (by omega)]
  have h2:(i:Int)<127:=by omega
  have hlen:=yD i;have WZ:=yD (i+1);have hs:=QQ (LL i) (ND i) (by omega);rw[if_pos (by omega)]at hs;refine ay fun R hR=>?_;simp only[Oj,nB,h2,hw,decide_true,VV,seval];refine iv (zs:=[.agg (l6 (LL i)).cells,.agg (Ev.cells ⟨3,0,1,0,Fo⟩)]) (.cons (.refl _) (.cons (Cv.ng Iu) .nil)) (hs _) ?_;have Fs:(l6 (LL i++[l0,l1])).bw.length=2*i+2:=by show(LL (i+1)).length=_;omega
  have hwr:IntKind.i64.wrap (IntKind.i64.wrap (2*(i:Int))+2)=((2*i+2:Nat):Int):=by
   rw[IntWalk.i64_in (2*(i:Int)) (by omega),IntWalk.i64_in _ (by omega)];omega
  simp only[r5,h2,hw,Fs,hwr,bne_self_eq_false,decide_true,ae,VV,seval];refine hR _ (cy [nB (l6 (LL (i+1))),be] [_] (aU _) ?_ ?_ (ih (i+1) (by omega) h1))
  ·repeat' constructor
  ·simp only[LW,ag,ai,aI];omega
theorem NC(j:Nat):∀ x∈LL 127++List.replicate j l0,x=l0∨x=l1:=by
 intro x hx;rcases List.mem_append.1 hx with hx | hx
 ·exact ND _ x hx
 ·exact .inl (XN hx)
theorem G3(j:Nat):(LL 127++List.replicate j l0).length=254+j:=by
 rw[List.length_append,yD,oF]
theorem Ra(j:Nat):(LL 127++List.replicate j l0)[0]?=some l0∧(LL 127++List.replicate j l0)[1]?=some l1:=by
 have hl:=yD 127;rw[az (by omega),az (by omega)];exact XK 126
set_option maxHeartbeats 1000000 in
theorem OD{σ:ah}{K:Exit→St→Prop}(be:Ob)(aU:∀ n,bG (σ++[nB n,be]))(p:Nat)(hp:p≤2):∀ (k j:Nat),p=j+k →
  ((∀ j0 j1 j2 j4 j5 j6 j7 j8 j9 cC cH cG cF cB cE cD cI cQ db de dh dm dv du dt dN dR dU dX ej eD eL eQ eP fb fi fh fg fw fG fF fK fW gj gi gB gA gz gy gx gY gW gU iq iD iN iM iL iK jf jD jP kt kr kq k8 mP mO mN mM mL mK nL qf rj ri rh rf re q9 q8 q7 qZ qY rT uq uo um uk uj ui uh Ep Eo Em El Ek Ej Gm uG uF uE uD uC uB uA uz uy ux uw uv uu ur Co Cn Cm Cl Ck Cj Ci,K (.exit 4) ⟨[j0,j1,j2,.ptr σ.length 0,j4,j5,j6,j7,j8,j9,cC,cH,cG,cF,cB,cE,cD,cI,cQ,db,de,dh,dm,dv,du,dt,dN,dR,dU,dX,ej,eD,eL,eQ,eP,fb,fi,fh,fg,fw,fG,fF,fK,fW,gj,gi,gB,gA,gz,gy,gx,gY,gW,gU,iq,iD,iN,iM,iL,iK,jf,jD,jP,kt,kr,kq,k8,mP,mO,mN,mM,mL,mK,nL,qf,rj,ri,rh,rf,re,q9,q8,q7,qZ,qY,rT,uq,uo,um,uk,uj,ui,uh,Ep,Eo,Em,El,Ek,Ej,Gm,uG,uF,uE,uD,uC,uB,uA,uz,uy,ux,uw,uv,uu,ur,Co,Cn,Cm,Cl,Ck,Cj,Ci],σ++[nB (l6 (LL 127++List.replicate p l0)),be]⟩)) →
  fp σ.length prog Oi K (k+1) ⟨[u,u,u,.ptr σ.length 0,u,u,u,u,u,u,u,u,.i .i64 k,u,u,u,u,u,u,u,u,u,u,u,u,u,u,u,u,u,u,u,u,u,u,u,u,u,u,u,u,u,u,u,u,u,u,u,u,u,u,u,u,u,u,u,u,u,u,u,u,u,u,u,u,u,u,u,u,u,u,u,u,u,u,u,u,u,u,u,u,u,u,u,u,u,u,u,u,u,u,u,u,u,u,u,u,u,u,u,u,u,u,u,u,u,u,u,u,u,u,u,u,u,u,u,u,u,u,u,u],σ++[nB (l6 (LL 127++List.replicate j l0)),be]⟩:=by
 intro k
 induction k with
 | zero =>
  intro j he h1;have he:p=j:=by omega
  subst he;refine ay fun R hR=>?_;have hd:((0:Int)<((0:Nat):Int))=False:=by simp
  simp only[Oi,hd,decide_false,VV,seval];exact h1 ..
 | succ k ih =>
  intro j he h1;have hw:IntKind.i64.wrap (((k+1:Nat):Int) - 1)=(k:Int):=by rw[IntWalk.i64_in _ (by omega)];omega
  have h2:(0:Int)<((k+1:Nat):Int):=by omega
  have hs:=Wt (LL 127++List.replicate j l0) (NC j) (by rw[G3];omega) 0 l0 (Ra j).1;rw[if_neg (by rw[G3];omega)]at hs;refine ay fun R hR=>?_;simp only[Oi,nB,h2,hw,decide_true,VV,seval];refine iv (zs:=[.agg (l6 (LL 127++List.replicate j l0)).cells,.agg (Ev.cells ⟨6,0,0,0,Fo⟩)]) (.cons (.refl _) (.cons (Cv.ng Iu) .nil)) (hs _) ?_;simp only[r5,h2,hw,decide_true,VV,seval];have e:List.replicate j l0++[l0]=List.replicate (j+1) l0:=by rw[List.replicate_succ']
  rw[e];refine hR _ (bb ?_ (ih (j+1) (by omega) h1))
  repeat' constructor
set_option maxRecDepth 20000 in
set_option maxHeartbeats 2000000 in
theorem ud(v:Int)(σ:ah):PC prog 3 [.i .i64 v] σ (fun r σ'=>r=.b true∧σ'=σ):=by
 refine PC.intro func3 c3 fun aU da=>?_;have hb:∀ n,bG (σ++[nB n,.box 34 [.lit 3 [[.i .i64 1,.s [97],.i .i64 0]],.nil,.s [],.s [],.s [],.s [],.i .i64 0,.i .i64 1]]):=fun n=>b9 aU (by simp only[nB,ct,bK,false_imp_iff,implies_true,and_true,LW]);simp only[p3,SS,seval];refine bX.cutAt (.more (.more (.one _ _))) fun R hR=>?_;simp only[VV,seval];refine an (HS _) rfl ?_;simp only[Net.cells,VV,seval];refine hR _ (bX.ic (fr':=[.i .i64 v,u,.b false,.ptr σ.length 0,u,.ptr (σ.length+1) 0,u,u,u,u,u,u,u,u,u,u,u,u,u,u,u,u,u,u,u,u,u,u,u,u,u,u,u,u,u,u,u,u,u,u,u,u,u,u,u,u,u,u,u,u,u,u,u,u,u,u,u,u,u,u,u,u,u,u,u,u,u,u,u,u,u,u,u,u,u,u,u,u,u,u,u,u,u,u,u,u,u,u,u,u,u,u,u,u,u,u,u,u,u,u,u,u,u,u,u,u,u,u,u,u,u,u,u,u,u,u,u,u,u,u,u]) ?_ (by repeat' constructor));clear hR R;refine bX.cut fun R hR=>?_;simp only[VV,seval];refine bX.wk (Wk.ic ?_) (bX.ml 3 (OF hb v ?_))
 ·repeat' constructor
 intros;simp only[VV,seval];refine hR _ (bX.ic (fr':=[.i .i64 v,u,u,.ptr σ.length 0,u,u,u,u,u,u,u,u,u,u,u,u,u,u,u,u,u,u,u,u,u,u,u,u,u,u,u,u,u,u,u,u,u,u,u,u,u,u,u,u,u,u,u,u,u,u,u,u,u,u,u,u,u,u,u,u,u,u,u,u,u,u,u,u,u,u,u,u,u,u,u,u,u,u,u,u,u,u,u,u,u,u,u,u,u,u,u,u,u,u,u,u,u,u,u,u,u,u,u,u,u,u,u,u,u,u,u,u,u,u,u,u,u,u,u,u,u]) ?_ (by repeat' constructor));clear hR R;refine bX.cut fun R hR=>?_;simp only[VV,seval];refine bX.wk (Wk.ic ?_) (bX.ml 128 (OE _ hb v 127 0 rfl ?_))
 ·repeat' constructor
 intros;simp only[VV,seval];refine hR _ (bX.ic (fr':=[.i .i64 v,u,u,.ptr σ.length 0,u,u,u,u,u,u,u,u,u,u,u,u,u,u,u,u,u,u,u,u,u,u,u,u,u,u,u,u,u,u,u,u,u,u,u,u,u,u,u,u,u,u,u,u,u,u,u,u,u,u,u,u,u,u,u,u,u,u,u,u,u,u,u,u,u,u,u,u,u,u,u,u,u,u,u,u,u,u,u,u,u,u,u,u,u,u,u,u,u,u,u,u,u,u,u,u,u,u,u,u,u,u,u,u,u,u,u,u,u,u,u,u,u,u,u,u,u]) ?_ (by repeat' constructor));clear hR R;refine bX.cut fun R hR=>?_;simp only[VV,seval];refine an (Lj v 3 (by decide) (by decide) _) rfl ?_;have EC:=vj (x:=v) (n:=3) (by decide);obtain⟨p,X0,zk⟩:∃ p:Nat,place v 3=(p:Int)∧p≤2:=⟨(place v 3).toNat,by omega,by omega⟩;simp only[X0,VV,seval];have h2:=fun K=>OD (K:=K) _ hb p zk p 0 (by omega);rw[Fk,bt]at h2;refine bX.wk (Wk.ic ?_) (bX.ml (p+1) (h2 _ ?_))
 ·repeat' constructor
 intros;simp only[VV,seval];refine hR _ (bX.ic (fr':=[u,u,u,.ptr σ.length 0,u,u,u,u,u,u,u,u,u,u,u,u,u,u,u,u,u,u,u,u,u,u,u,u,u,u,u,u,u,u,u,u,u,u,u,u,u,u,u,u,u,u,u,u,u,u,u,u,u,u,u,u,u,u,u,u,u,u,u,u,u,u,u,u,u,u,u,u,u,u,u,u,u,u,u,u,u,u,u,u,u,u,u,u,u,u,u,u,u,u,u,u,u,u,u,u,u,u,u,u,u,u,u,u,u,u,u,u,u,u,u,u,u,u,u,u,u]) ?_ (by repeat' constructor));clear hR R;have hm:=NC p;have hL:=G3 p;have ha:=(Ra p).2;clear h2;generalize LL 127++List.replicate p l0=L at *;have hF:=QQ L hm (by omega);have hG:=Wt L hm (by omega) 1 l1 ha;rw[hL]at hF hG
 obtain⟨f,g,hc⟩:∃ f g:Int,((L.length=254∧f=0∧g=0)∨(L.length=255∧f=3∧g=0)∨(L.length=256∧f=3∧g=3))∧(if 254+p+2≤256 then(0:Int)else 3)=f∧(if 254+p=256 then(3:Int)else 0)=g:=by
  refine⟨_,_,?_,rfl,rfl⟩;rw[hL];rcases(by omega:p=0∨p=1∨p=2)with rfl | rfl | rfl<;>simp
 rw[hc.2.1]at hF;rw[hc.2.2]at hG;have Fs:(l6 L).bw.length=L.length:=rfl;have hc:=hc.1;generalize l6 (L++[l0,l1])=N1 at *;generalize l6 (L++[l1])=N2 at *;refine bX.cut fun R hR=>?_;simp only[nB,VV,seval];refine iv (zs:=[.agg (l6 L).cells,.agg (Ev.cells ⟨3,0,1,0,Fo⟩)]) (.cons (.refl _) (.cons (Cv.ng Iu) .nil)) (hF _) ?_;simp only[jg,Net.cells,VV,seval];refine hR _ (bX.ic (fr':=[u,u,u,.ptr σ.length 0,u,u,u,u,u,u,u,u,u,u,.i .i64 f,u,u,u,u,u,u,u,u,u,u,u,u,u,u,u,u,u,u,u,u,u,u,u,u,u,u,u,u,u,u,u,u,u,u,u,u,u,u,u,u,u,u,u,u,u,u,u,u,u,u,u,u,u,u,u,u,u,u,u,u,u,u,u,u,u,u,u,u,u,u,u,u,u,u,u,u,u,u,u,u,u,u,u,u,u,u,u,u,u,u,u,u,u,u,u,u,u,u,u,u,u,u,u,u,u,u]) ?_ (by repeat' constructor));clear hR R;refine bX.cut fun R hR=>?_;simp only[VV,seval];refine iv (zs:=[.agg (l6 L).cells,.agg (Ev.cells ⟨6,0,0,1,Fo⟩)]) (.cons (.refl _) (.cons (Cv.ng Iu) .nil)) (hG _) ?_;simp only[jg,Net.cells,VV,seval];refine hR _ (bX.ic (fr':=[u,u,u,.ptr σ.length 0,u,u,u,u,u,u,u,u,u,u,.i .i64 f,u,.i .i64 g,u,u,u,u,u,u,u,u,u,u,u,u,u,u,u,u,u,u,u,u,u,u,u,u,u,u,u,u,u,u,u,u,u,u,u,u,u,u,u,u,u,u,u,u,u,u,u,u,u,u,u,u,u,u,u,u,u,u,u,u,u,u,u,u,u,u,u,u,u,u,u,u,u,u,u,u,u,u,u,u,u,u,u,u,u,u,u,u,u,u,u,u,u,u,u,u,u,u,u,u,u,u,u,u]) ?_ (by repeat' constructor));clear hR R;refine al ?_;rcases hc with⟨h,rfl,rfl⟩ | ⟨h,rfl,rfl⟩ | ⟨h,rfl,rfl⟩
 all_goals
  simp only[Fs,h,ae,VV,seval];refine br (c:=true) (by simp only[VV,seval]<;>rfl) (fun _=>Gk _) rfl ?_;simp only[VV,seval];exact aD aU (.inr rfl) (by simp only[RS,seval];rfl) (by simp only[LW]) ⟨rfl,rfl⟩
end Go.Proofs.Tryz

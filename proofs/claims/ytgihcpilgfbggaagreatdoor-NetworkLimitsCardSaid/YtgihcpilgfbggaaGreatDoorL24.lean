/- A part of the proof that for every input the law NetworkLimits returns true and leaves its argument as it was. -/
import Derived.Test.YtgihcpilgfbggaaGreatDoorL17
import Derived.Test.YtgihcpilgfbggaaGreatDoorL18
import Derived.Test.YtgihcpilgfbggaaGreatDoorL20
import Derived.Test.YtgihcpilgfbggaaGreatDoorL21
import Derived.Test.YtgihcpilgfbggaaGreatDoorL23
set_option linter.all false

namespace Go.Proofs.Tryz
open Go Go.Pm Go.Bt
theorem Wh(c:UInt8):((c.toNat:Int) != 62)=(c != 62):=by revert c;exact fO (by decide +kernel)
theorem Qi(c:UInt8):(decide (48≤(c.toNat:Int))&&decide ((c.toNat:Int)≤57))=di c:=by revert c;exact fO (by decide +kernel)
theorem M4{pre:List UInt8}{c:UInt8}(hp:∀ c∈pre,di c=true)(hl:pre.length≤4)(hc:di c=true):
  IntKind.i64.wrap (IntKind.i64.wrap (10*dq 0 pre)+IntKind.i64.wrap (IntKind.u8.wrap ((c.toNat:Int) - 48)))=dq 0 (pre++[c]):=by
 have h:=yi pre 0 pre.length rfl (bR.2 hp) (tH 0)
 have Fv:(10:Int)^pre.length≤10^4:=by
  have:pre.length=0∨pre.length=1∨pre.length=2∨pre.length=3∨pre.length=4:=by omega
  rcases this with h | h | h | h | h<;>rw[h]<;>decide
 simp only[di,aB,decide_eq_true_eq]at hc;have e:IntKind.u8.wrap ((c.toNat:Int) - 48)=(c.toNat:Int) - 48:=IntWalk.u8_in _ (by omega);have h2:dq 0 pre<10000:=by omega
 rw[e,IntWalk.i64_in (10*dq 0 pre) (by omega),IntWalk.i64_in ((c.toNat:Int) - 48) (by omega),IntWalk.i64_in _ (by omega)];simp[dq]
theorem FB{pre rest:List UInt8}(hp:∀ c∈pre,di c=true):((pre++rest).takeWhile di).length=pre.length+(rest.takeWhile di).length:=by
 rw[List.takeWhile_append_of_pos hp,List.length_append]
set_option maxRecDepth 4000 in
theorem Jp{n:Nat}{σ:ah}{K:Exit→St→Prop}(A:V)(s:List UInt8)(hlen:s.length<2^62):∀ (rest pre:List UInt8),s=pre++rest →
  ((∀ j1 j3 j5 j6 j7 j8 j9 cC cH cG cF cB cE cD cI cQ db de dh dm dv du dt dN dR dU dX ej eD eL eQ eP fb fi fh fg fw fG fF fK fW gj gi gB gA gz gy gx gY gW gU iq iD iN iM iL iK jf jD jP kt kr kq k8 mP mO mN mM mL mK nL qf rj ri rh rf re q9 q8 q7 qZ qY rT uq uo um uk uj ui uh Ep Eo Em El Ek Ej Gm uG uF uE uD uC uB uA uz uy ux uw uv uu ur Co Cn Cm Cl Ck Cj Ci SF SE SC SB SA Sz Sy Sx Sw Sv Su Ss Sr Sq Sp Sn Sm Sl,K (.exit 0) ⟨[.s s,j1,A,j3,.i .i64 ((pre.length+(rest.takeWhile fun c=>c != 62).length:Nat):Int),j5,j6,j7,j8,j9,cC,cH,cG,cF,cB,cE,cD,cI,cQ,db,de,dh,dm,dv,du,dt,dN,dR,dU,dX,ej,eD,eL,eQ,eP,fb,fi,fh,fg,fw,fG,fF,fK,fW,gj,gi,gB,gA,gz,gy,gx,gY,gW,gU,iq,iD,iN,iM,iL,iK,jf,jD,jP,kt,kr,kq,k8,mP,mO,mN,mM,mL,mK,nL,qf,rj,ri,rh,rf,re,q9,q8,q7,qZ,qY,rT,uq,uo,um,uk,uj,ui,uh,Ep,Eo,Em,El,Ek,Ej,Gm,uG,uF,uE,uD,uC,uB,uA,uz,uy,ux,uw,uv,uu,ur,Co,Cn,Cm,Cl,Ck,Cj,Ci,SF,SE,SC,SB,SA,Sz,Sy,Sx,Sw,Sv,Su,Ss,Sr,Sq,Sp,Sn,Sm,Sl],σ⟩)) →
  fp n prog Bs K (rest.length+1) ⟨[.s s,.u,A,.u,.i .i64 pre.length,.u,.u,.u,.u,.u,.u,.u,.u,.u,.u,.u,.u,.u,.u,.u,.u,.u,.u,.u,.u,.u,.u,.u,.u,.u,.u,.u,.u,.u,.u,.u,.u,.u,.u,.u,.u,.u,.u,.u,.u,.u,.u,.u,.u,.u,.u,.u,.u,.u,.u,.u,.u,.u,.u,.u,.u,.u,.u,.u,.u,.u,.u,.u,.u,.u,.u,.u,.u,.u,.u,.u,.u,.u,.u,.u,.u,.u,.u,.u,.u,.u,.u,.u,.u,.u,.u,.u,.u,.u,.u,.u,.u,.u,.u,.u,.u,.u,.u,.u,.u,.u,.u,.u,.u,.u,.u,.u,.u,.u,.u,.u,.u,.u,.u,.u,.u,.u,.u,.u,.u,.u,.u,.u,.u,.u,.u,.u,.u,.u,.u,.u,.u,.u,.u],σ⟩:=by
 intro rest
 induction rest with
 | nil =>
  intro pre he h1;have he:s=pre:=by simpa using he
  subst he;have e0:decide ((s.length:Int)<(s.length:Int))=false:=by simp
  simp only[List.takeWhile_nil,ai,cn]at h1;refine ay fun R hR=>?_;simp only[Bs,e0,VV,seval];exact⟨fun h=>by simp at h,h1 ..⟩
 | cons c rest ih =>
  intro pre he h1;subst he;have e0:decide ((pre.length:Int)<((pre++c::rest).length:Int))=true:=by simp;omega
  refine ay fun R hR=>?_;simp only[Bs,e0,VV,seval];refine⟨by simp;omega,fun hc=>?_,fun hc=>?_⟩
  ·have vz:(c != 62)=true:=by rw[← Wh];exact hc
   have e2:pre.length+((c::rest).takeWhile fun c=>c != 62).length=(pre++[c]).length+(rest.takeWhile fun c=>c != 62).length:=by
    rw[iF,if_pos vz];simp;omega
   rw[e2]at h1;refine hR _ (bb ?_ (ih (pre++[c]) (by simp) h1));rw[aX (by simp at hlen;omega)];simp only[List.length_append,ag,ai]
   repeat' constructor
  ·have vz:¬ (c != 62)=true:=by rw[← Wh,hc];simp
   have e2:pre.length+((c::rest).takeWhile fun c=>c != 62).length=pre.length:=by
    rw[iF,if_neg vz];simp
   rw[e2]at h1;exact h1 ..
set_option maxRecDepth 4000 in
theorem Jo{n:Nat}{σ:ah}{K:Exit→St→Prop}(A B C:V)(t:List UInt8)(hlen:t.length<2^62):∀ (m:Nat) (pre rest:List UInt8),t=pre++rest→pre.length+m=4→(∀ c∈pre,di c=true) →
  (∀ k:Nat,k=min 4 (t.takeWhile di).length→(∀ j0 j1 j3 j9 cC cH cG cF cB cE cD cI cQ db de dh dm dv du dt dN dR dU dX ej eD eL eQ eP fb fi fh fg fw fG fF fK fW gj gi gB gA gz gy gx gY gW gU iq iD iN iM iL iK jf jD jP kt kr kq k8 mP mO mN mM mL mK nL qf rj ri rh rf re q9 q8 q7 qZ qY rT uq uo um uk uj ui uh Ep Eo Em El Ek Ej Gm uG uF uE uD uC uB uA uz uy ux uw uv uu ur Co Cn Cm Cl Ck Cj Ci SF SE SC SB SA Sz Sy Sx Sw Sv Su Ss Sr Sq Sp Sn Sm Sl,K (.exit 2) ⟨[j0,j1,A,j3,B,.s t,C,.i .i64 (dq 0 (t.take k)),.i .i64 k,j9,cC,cH,cG,cF,cB,cE,cD,cI,cQ,db,de,dh,dm,dv,du,dt,dN,dR,dU,dX,ej,eD,eL,eQ,eP,fb,fi,fh,fg,fw,fG,fF,fK,fW,gj,gi,gB,gA,gz,gy,gx,gY,gW,gU,iq,iD,iN,iM,iL,iK,jf,jD,jP,kt,kr,kq,k8,mP,mO,mN,mM,mL,mK,nL,qf,rj,ri,rh,rf,re,q9,q8,q7,qZ,qY,rT,uq,uo,um,uk,uj,ui,uh,Ep,Eo,Em,El,Ek,Ej,Gm,uG,uF,uE,uD,uC,uB,uA,uz,uy,ux,uw,uv,uu,ur,Co,Cn,Cm,Cl,Ck,Cj,Ci,SF,SE,SC,SB,SA,Sz,Sy,Sx,Sw,Sv,Su,Ss,Sr,Sq,Sp,Sn,Sm,Sl],σ⟩)) →
  fp n prog xd K (m+1) ⟨[.u,.u,A,.u,B,.s t,C,.i .i64 (dq 0 pre),.i .i64 pre.length,.u,.u,.u,.u,.u,.u,.u,.u,.u,.u,.u,.u,.u,.u,.u,.u,.u,.u,.u,.u,.u,.u,.u,.u,.u,.u,.u,.u,.u,.u,.u,.u,.u,.u,.u,.u,.u,.u,.u,.u,.u,.u,.u,.u,.u,.u,.u,.u,.u,.u,.u,.u,.u,.u,.u,.u,.u,.u,.u,.u,.u,.u,.u,.u,.u,.u,.u,.u,.u,.u,.u,.u,.u,.u,.u,.u,.u,.u,.u,.u,.u,.u,.u,.u,.u,.u,.u,.u,.u,.u,.u,.u,.u,.u,.u,.u,.u,.u,.u,.u,.u,.u,.u,.u,.u,.u,.u,.u,.u,.u,.u,.u,.u,.u,.u,.u,.u,.u,.u,.u,.u,.u,.u,.u,.u,.u,.u,.u,.u,.u],σ⟩:=by
 intro m
 induction m with
 | zero =>
  intro pre rest he hm hp h1;subst he;have e1:decide ((pre.length:Int)<4)=false:=by simp;omega
  refine ay fun R hR=>?_;simp only[xd,e1,VV,seval];have:=h1 pre.length (by rw[FB hp];omega);rw[ln]at this;exact⟨fun h=>by simp at h,fun h=>by simp at h,this ..⟩
 | succ m ih =>
  intro pre rest he hm hp h1;subst he;have e1:decide ((pre.length:Int)<4)=true:=by simp;omega
  cases rest with
  | nil =>
   have e0:decide ((pre.length:Int)<(pre.length:Int))=false:=by simp
   have h2:=h1 pre.length (by rw[FB hp];simp;omega);rw[ln]at h2;clear h1 ih;simp only[bt]at h2 ⊢;refine ay fun R hR=>?_;simp only[xd,e0,e1,VV,seval];exact⟨fun h=>by simp at h,fun h=>by simp at h,h2 ..⟩
  | cons c rest =>
   have e0:decide ((pre.length:Int)<((pre++c::rest).length:Int))=true:=by simp;omega
   refine ay fun R hR=>?_;simp only[xd,e0,e1,VV,seval];have hb:(0:Int)≤(pre.length:Int)∧(pre.length:Int)<((pre++c::rest).length:Int):=by simp;omega
   rw[Qi];refine⟨hb,fun _=>hb,fun hc=>⟨hb,?_⟩,fun hc=>?_⟩
   ·rw[M4 hp (by omega) hc]
    refine hR _ (bb ?_ (ih (pre++[c]) rest (by simp) (by simp;omega) (by
     intro x hx;rcases List.mem_append.1 hx with hx | hx
     ·exact hp x hx
     ·simp only[aY,bK,or_false]at hx;subst hx;exact hc) h1))
    rw[aX (by omega)];simp only[List.length_append,ag,ai]
    repeat' constructor
   ·have:=h1 pre.length (by rw[FB hp,iF,if_neg (by rw[hc];simp)];simp;omega);rw[ln]at this;exact this ..
theorem Mc(c:UInt8):∀ l:List UInt8,Lib.indexByte l c=if(l.takeWhile fun x=>x != c).length<l.length then((l.takeWhile fun x=>x != c).length:Int)else -1
 | []=>by simp[Lib.indexByte]
 | a::l=>by
  by_cases ha:a=c
  ·subst ha;simp[Lib.indexByte]
  ·have Tb:(a==c)=false:=by simpa using ha
   have ha3:(a != c)=true:=by simpa using ha
   have ih:=Mc c l;simp only[Lib.indexByte,Tb,aF,if_false,iF,ha3,if_true,ag];generalize (l.takeWhile fun x=>x != c).length=tw at ih
   by_cases h:tw<l.length
   ·rw[if_pos h]at ih;have e:((tw:Int) == -1)=false:=by rw[beq_eq_false_iff_ne];omega
    rw[ih,if_pos (show tw+1<l.length+1 by omega),e];rfl
   ·rw[if_neg h]at ih;rw[ih,if_neg (show ¬ tw+1<l.length+1 by omega)];rfl
theorem FO(rest:List UInt8):iH (60::rest)=if(rest.takeWhile fun x=>x != 62).length<rest.length then
  (if(Bd (rest.take (rest.takeWhile fun x=>x != 62).length)).2=true then((Bd (rest.take (rest.takeWhile fun x=>x != 62).length)).1,((rest.takeWhile fun x=>x != 62).length:Int)+2)else(kQ,0))else(kQ,0):=by
 have hi:=Mc 62 (60::rest);simp only[iF,show((60:UInt8) != 62)=true from rfl,if_true,ag]at hi;rw[IS rfl]
 by_cases h:(rest.takeWhile fun x=>x != 62).length<rest.length
 ·rw[if_pos (by omega)]at hi;rw[hi,if_pos h,if_neg (by omega)]
  have e:((60::rest).take (((rest.takeWhile fun x=>x != 62).length+1:Nat):Int).toNat).drop 1=rest.take (rest.takeWhile fun x=>x != 62).length:=by
   rw[aH,gu];rfl
  rw[e];congr 2
 ·rw[if_neg (by omega)]at hi;rw[hi,if_neg h,if_pos (by decide)]
theorem u47(a:UInt8):((a.toNat:Int)==47)=(a==47):=by revert a;exact fO (by decide +kernel)
theorem u48(a:UInt8):((a.toNat:Int)==48)=(a==48):=by revert a;exact fO (by decide +kernel)
theorem u58(a:UInt8):((a.toNat:Int) != 58)=(a != 58):=by revert a;exact fO (by decide +kernel)
theorem UF{t:List UInt8}(h:t≠[]):hasPrefix t [47]=(((t.getD 0 0).toNat:Int)==47):=by
 cases t with
 | nil=>exact absurd rfl h
 | cons a t=>rw[u47];simp[hasPrefix]
theorem Ut{t:List UInt8}(h:t≠[]):hasSuffix t [47]=(((t.getD (t.length - 1) 0).toNat:Int)==47):=by
 rcases kO t with ht | ⟨t',a,ht⟩
 ·exact absurd ht h
 ·rw[kP]at ht;subst ht;rw[u47,kD];simp[List.getD_eq_getElem?_getD]
set_option maxRecDepth 8000 in
theorem Bl(s:List UInt8)(h0:s.getD 0 0=60)(hlen:s.length<2^62)(σ:ah):PC prog 246 [.s s] σ (fun r σ'=>r=.gZ [.agg (iH s).1.cells,.i .i64 (iH s).2]∧σ'=σ):=by
 obtain⟨rest,rfl⟩:∃ rest,s=60::rest:=by
  cases s with
  | nil=>simp at h0
  | cons a r=>simp only[ar]at h0;exact⟨r,by rw[h0]⟩
 refine PC.intro func246 ZA fun aU da=>?_;simp only[UJ,SS,seval];refine bX.cut fun R hR=>?_;simp only[VV,seval];refine hR _ (bX.ic (fr':=[.s (60::rest),.u,.ptr σ.length 0,.u,.u,.u,.u,.u,.u,.u,.u,.u,.u,.u,.u,.u,.u,.u,.u,.u,.u,.u,.u,.u,.u,.u,.u,.u,.u,.u,.u,.u,.u,.u,.u,.u,.u,.u,.u,.u,.u,.u,.u,.u,.u,.u,.u,.u,.u,.u,.u,.u,.u,.u,.u,.u,.u,.u,.u,.u,.u,.u,.u,.u,.u,.u,.u,.u,.u,.u,.u,.u,.u,.u,.u,.u,.u,.u,.u,.u,.u,.u,.u,.u,.u,.u,.u,.u,.u,.u,.u,.u,.u,.u,.u,.u,.u,.u,.u,.u,.u,.u,.u,.u,.u,.u,.u,.u,.u,.u,.u,.u,.u,.u,.u,.u,.u,.u,.u,.u,.u,.u,.u,.u,.u,.u,.u,.u,.u,.u,.u,.u,.u,.u,.u,.u,.u,.u,.u]) ?_ (by repeat' constructor));clear hR R;refine bX.cut fun R hR=>?_;simp only[VV,seval];refine hR _ (bX.ic (fr':=[.s (60::rest),.u,.ptr σ.length 0,.u,.i .i64 ((1:Nat):Int),.u,.u,.u,.u,.u,.u,.u,.u,.u,.u,.u,.u,.u,.u,.u,.u,.u,.u,.u,.u,.u,.u,.u,.u,.u,.u,.u,.u,.u,.u,.u,.u,.u,.u,.u,.u,.u,.u,.u,.u,.u,.u,.u,.u,.u,.u,.u,.u,.u,.u,.u,.u,.u,.u,.u,.u,.u,.u,.u,.u,.u,.u,.u,.u,.u,.u,.u,.u,.u,.u,.u,.u,.u,.u,.u,.u,.u,.u,.u,.u,.u,.u,.u,.u,.u,.u,.u,.u,.u,.u,.u,.u,.u,.u,.u,.u,.u,.u,.u,.u,.u,.u,.u,.u,.u,.u,.u,.u,.u,.u,.u,.u,.u,.u,.u,.u,.u,.u,.u,.u,.u,.u,.u,.u,.u,.u,.u,.u,.u,.u,.u,.u,.u,.u]) ?_ (by repeat' constructor));clear hR R;refine bX.cut fun R hR=>?_;simp only[VV,seval];have hr:=FO rest;refine bX.bb ?_ (rest.length+1) (Jp (.ptr σ.length 0) (60::rest) hlen rest [60] rfl ?_)
 ·simp only[ag,ai]
  repeat' constructor
 generalize he:(rest.takeWhile fun x=>x != 62).length=e at hr;have hle:e≤rest.length:=by rw[← he];exact(List.takeWhile_prefix _).length_le
 intros;simp only[ag,ai,aI,VV,seval];refine hR _ (bX.ic (fr':=[.s (60::rest),.u,.ptr σ.length 0,.u,.i .i64 ((1+e:Nat):Int),.u,.u,.u,.u,.u,.u,.u,.u,.u,.u,.u,.u,.u,.u,.u,.u,.u,.u,.u,.u,.u,.u,.u,.u,.u,.u,.u,.u,.u,.u,.u,.u,.u,.u,.u,.u,.u,.u,.u,.u,.u,.u,.u,.u,.u,.u,.u,.u,.u,.u,.u,.u,.u,.u,.u,.u,.u,.u,.u,.u,.u,.u,.u,.u,.u,.u,.u,.u,.u,.u,.u,.u,.u,.u,.u,.u,.u,.u,.u,.u,.u,.u,.u,.u,.u,.u,.u,.u,.u,.u,.u,.u,.u,.u,.u,.u,.u,.u,.u,.u,.u,.u,.u,.u,.u,.u,.u,.u,.u,.u,.u,.u,.u,.u,.u,.u,.u,.u,.u,.u,.u,.u,.u,.u,.u,.u,.u,.u,.u,.u,.u,.u,.u,.u]) ?_ (by repeat' constructor));clear hR R;refine bX.cut fun R hR=>?_;simp only[ag,VV,seval];refine⟨fun h=>?_,fun h=>?_⟩
 ·have h:¬ e<rest.length:=by simp at h;omega
  rw[if_neg h]at hr;refine aD aU (.inr rfl) (by simp only[RS,seval];rfl) (by simp only[LW]) ⟨?_,rfl⟩;rw[hr];rfl
 have h:e<rest.length:=by simp at h;omega
 rw[if_pos h]at hr;refine hR _ (bX.ic (fr':=[.s (60::rest),.u,.ptr σ.length 0,.u,.i .i64 ((1+e:Nat):Int),.u,.u,.u,.u,.u,.u,.u,.u,.u,.u,.u,.u,.u,.u,.u,.u,.u,.u,.u,.u,.u,.u,.u,.u,.u,.u,.u,.u,.u,.u,.u,.u,.u,.u,.u,.u,.u,.u,.u,.u,.u,.u,.u,.u,.u,.u,.u,.u,.u,.u,.u,.u,.u,.u,.u,.u,.u,.u,.u,.u,.u,.u,.u,.u,.u,.u,.u,.u,.u,.u,.u,.u,.u,.u,.u,.u,.u,.u,.u,.u,.u,.u,.u,.u,.u,.u,.u,.u,.u,.u,.u,.u,.u,.u,.u,.u,.u,.u,.u,.u,.u,.u,.u,.u,.u,.u,.u,.u,.u,.u,.u,.u,.u,.u,.u,.u,.u,.u,.u,.u,.u,.u,.u,.u,.u,.u,.u,.u,.u,.u,.u,.u,.u,.u]) ?_ (by repeat' constructor));clear hR R;generalize ht:rest.take e=t at hr;have vW:t.length<2^62:=by rw[← ht,ba];simp at hlen;omega
 refine bX.cut fun R hR=>?_;simp only[ag,VV,seval];refine⟨by omega,?_⟩;have e1:List.take (1+e - 1) rest=t:=by rw[← ht];congr 1;omega
 rw[e1];refine hR _ (bX.ic (fr':=[.u,.u,.ptr σ.length 0,.u,.i .i64 ((1+e:Nat):Int),.s t,.i .i64 2,.u,.u,.u,.u,.u,.u,.u,.u,.u,.u,.u,.u,.u,.u,.u,.u,.u,.u,.u,.u,.u,.u,.u,.u,.u,.u,.u,.u,.u,.u,.u,.u,.u,.u,.u,.u,.u,.u,.u,.u,.u,.u,.u,.u,.u,.u,.u,.u,.u,.u,.u,.u,.u,.u,.u,.u,.u,.u,.u,.u,.u,.u,.u,.u,.u,.u,.u,.u,.u,.u,.u,.u,.u,.u,.u,.u,.u,.u,.u,.u,.u,.u,.u,.u,.u,.u,.u,.u,.u,.u,.u,.u,.u,.u,.u,.u,.u,.u,.u,.u,.u,.u,.u,.u,.u,.u,.u,.u,.u,.u,.u,.u,.u,.u,.u,.u,.u,.u,.u,.u,.u,.u,.u,.u,.u,.u,.u,.u,.u,.u,.u,.u]) ?_ (by repeat' constructor));clear hR R;refine bX.cut fun R hR=>?_
 have tail:∀ (kind:Int) (u:List UInt8),u.length<2^62→iH (60::rest)=(if(pQ kind u).2=true then((pQ kind u).1,(e:Int)+2)else(kQ,0))→(kind=2∨kind=3∨kind=4) →
   ∀ {fr:List V},nP fr [.u,.u,.ptr σ.length 0,.u,.i .i64 ((1+e:Nat):Int),.s u,.i .i64 kind,.u,.u,.u,.u,.u,.u,.u,.u,.u,.u,.u,.u,.u,.u,.u,.u,.u,.u,.u,.u,.u,.u,.u,.u,.u,.u,.u,.u,.u,.u,.u,.u,.u,.u,.u,.u,.u,.u,.u,.u,.u,.u,.u,.u,.u,.u,.u,.u,.u,.u,.u,.u,.u,.u,.u,.u,.u,.u,.u,.u,.u,.u,.u,.u,.u,.u,.u,.u,.u,.u,.u,.u,.u,.u,.u,.u,.u,.u,.u,.u,.u,.u,.u,.u,.u,.u,.u,.u,.u,.u,.u,.u,.u,.u,.u,.u,.u,.u,.u,.u,.u,.u,.u,.u,.u,.u,.u,.u,.u,.u,.u,.u,.u,.u,.u,.u,.u,.u,.u,.u,.u,.u,.u,.u,.u,.u,.u,.u,.u,.u,.u,.u]→R ⟨fr,σ++[.box 31 [.i .i64 0,.s [],.i .i64 0]]⟩:=by
  intro kind u hu WK QX fr hc;refine hR _ (bX.ic ?_ hc);clear hR R;refine bX.cut fun R hR=>?_;simp only[VV,seval];refine hR _ (bX.ic (fr':=[.u,.u,.ptr σ.length 0,.u,.i .i64 ((1+e:Nat):Int),.s u,.i .i64 kind,.i .i64 (dq 0 []),.i .i64 (([]:List UInt8).length:Nat),.u,.u,.u,.u,.u,.u,.u,.u,.u,.u,.u,.u,.u,.u,.u,.u,.u,.u,.u,.u,.u,.u,.u,.u,.u,.u,.u,.u,.u,.u,.u,.u,.u,.u,.u,.u,.u,.u,.u,.u,.u,.u,.u,.u,.u,.u,.u,.u,.u,.u,.u,.u,.u,.u,.u,.u,.u,.u,.u,.u,.u,.u,.u,.u,.u,.u,.u,.u,.u,.u,.u,.u,.u,.u,.u,.u,.u,.u,.u,.u,.u,.u,.u,.u,.u,.u,.u,.u,.u,.u,.u,.u,.u,.u,.u,.u,.u,.u,.u,.u,.u,.u,.u,.u,.u,.u,.u,.u,.u,.u,.u,.u,.u,.u,.u,.u,.u,.u,.u,.u,.u,.u,.u,.u,.u,.u,.u,.u,.u,.u]) ?_ (by repeat' constructor));clear hR R;refine bX.cut fun R hR=>?_;simp only[VV,seval];refine bX.bb ?_ 5 (Jo (.ptr σ.length 0) (.i .i64 ((1+e:Nat):Int)) (.i .i64 kind) u hu 4 [] u rfl rfl (by simp) ?_)
  ·repeat' constructor
  intro k hk;intros;simp only[VV,seval];refine hR _ (bX.ic (fr':=[.u,.u,.ptr σ.length 0,.u,.i .i64 ((1+e:Nat):Int),.s u,.i .i64 kind,.i .i64 (dq 0 (u.take k)),.i .i64 k,.u,.u,.u,.u,.u,.u,.u,.u,.u,.u,.u,.u,.u,.u,.u,.u,.u,.u,.u,.u,.u,.u,.u,.u,.u,.u,.u,.u,.u,.u,.u,.u,.u,.u,.u,.u,.u,.u,.u,.u,.u,.u,.u,.u,.u,.u,.u,.u,.u,.u,.u,.u,.u,.u,.u,.u,.u,.u,.u,.u,.u,.u,.u,.u,.u,.u,.u,.u,.u,.u,.u,.u,.u,.u,.u,.u,.u,.u,.u,.u,.u,.u,.u,.u,.u,.u,.u,.u,.u,.u,.u,.u,.u,.u,.u,.u,.u,.u,.u,.u,.u,.u,.u,.u,.u,.u,.u,.u,.u,.u,.u,.u,.u,.u,.u,.u,.u,.u,.u,.u,.u,.u,.u,.u,.u,.u,.u,.u,.u,.u]) ?_ (by repeat' constructor));clear hR R
  have Mj:pQ kind u=if k=0∨u.length≤k∨u.getD 0 0=48∨999<dq 0 (u.take k)∨u.getD k 0≠58 then(kQ,false)else
    if(kind=3∧isName (u.drop (k+1))=false)∨(kind≠3∧cA (u.drop (k+1))=false)then(kQ,false)else(⟨kind,u.drop (k+1),dq 0 (u.take k)⟩,true):=by rw[hk];rfl
  refine bX.cut fun R hR=>?_;simp only[aH,VV,seval]
  have hC:(((((k:Int)==0||decide ((u.length:Int)≤(k:Int)))||((u.getD 0 0).toNat:Int)==48)||decide (999<dq 0 (u.take k)))||((u.getD k 0).toNat:Int) != 58)=decide (k=0∨u.length≤k∨u.getD 0 0=48∨999<dq 0 (u.take k)∨u.getD k 0≠58):=by
   rw[u48,u58,cP];simp[or_assoc]
  rw[hC];refine⟨fun h=>by simp at h;omega,fun h=>by simp at h;omega,fun h=>?_,fun h=>?_⟩
  ·rw[if_pos (by simpa using h)]at Mj;refine aD aU (.inr rfl) (by simp only[RS,seval];rfl) (by simp only[LW]) ⟨?_,rfl⟩;rw[WK,Mj];rfl
  have h:=of_decide_eq_false h;rw[if_neg h]at Mj;simp only[not_or]at h;refine hR _ (bX.ic (fr':=[.u,.u,.ptr σ.length 0,.u,.i .i64 ((1+e:Nat):Int),.s u,.i .i64 kind,.i .i64 (dq 0 (u.take k)),.i .i64 k,.u,.u,.u,.u,.u,.u,.u,.u,.u,.u,.u,.u,.u,.u,.u,.u,.u,.u,.u,.u,.u,.u,.u,.u,.u,.u,.u,.u,.u,.u,.u,.u,.u,.u,.u,.u,.u,.u,.u,.u,.u,.u,.u,.u,.u,.u,.u,.u,.u,.u,.u,.u,.u,.u,.u,.u,.u,.u,.u,.u,.u,.u,.u,.u,.u,.u,.u,.u,.u,.u,.u,.u,.u,.u,.u,.u,.u,.u,.u,.u,.u,.u,.u,.u,.u,.u,.u,.u,.u,.u,.u,.u,.u,.u,.u,.u,.u,.u,.u,.u,.u,.u,.u,.u,.u,.u,.u,.u,.u,.u,.u,.u,.u,.u,.u,.u,.u,.u,.u,.u,.u,.u,.u,.u,.u,.u,.u,.u,.u,.u]) ?_ (by repeat' constructor));clear hR R;have sk:IntKind.i64.wrap ((k:Int)+1)=((k+1:Nat):Int):=by rw[IntWalk.i64_in _ (by omega)];omega
  refine bX.cut fun R hR=>?_;simp only[sk,aH,VV,seval];have YK:List.take (u.length - (k+1)) (List.drop (k+1) u)=u.drop (k+1):=cJ (by simp);rw[YK];refine⟨by omega,?_⟩;refine hR _ (bX.ic (fr':=[.u,.u,.ptr σ.length 0,.u,.i .i64 ((1+e:Nat):Int),.u,.i .i64 kind,.u,.u,.ptr (σ.length+1) 0,.u,.u,.u,.u,.u,.u,.u,.u,.u,.u,.u,.u,.u,.u,.u,.u,.u,.u,.u,.u,.u,.u,.u,.u,.u,.u,.u,.u,.u,.u,.u,.u,.u,.u,.u,.u,.u,.u,.u,.u,.u,.u,.u,.u,.u,.u,.u,.u,.u,.u,.u,.u,.u,.u,.u,.u,.u,.u,.u,.u,.u,.u,.u,.u,.u,.u,.u,.u,.u,.u,.u,.u,.u,.u,.u,.u,.u,.u,.u,.u,.u,.u,.u,.u,.u,.u,.u,.u,.u,.u,.u,.u,.u,.u,.u,.u,.u,.u,.u,.u,.u,.u,.u,.u,.u,.u,.u,.u,.u,.u,.u,.u,.u,.u,.u,.u,.u,.u,.u,.u,.u,.u,.u,.u,.u,.u,.u,.u,.u]) ?_ (by repeat' constructor));clear hR R;have Ud:IntKind.i64.wrap (((1+e:Nat):Int)+1)=(e:Int)+2:=by rw[IntWalk.i64_in _ (by simp at hlen;omega)];omega
  refine bX.cut fun R hR=>?_
  have fin:∀ {fr:List V},iH (60::rest)=(⟨kind,u.drop (k+1),dq 0 (u.take k)⟩,(e:Int)+2)→nP fr [.u,.u,.ptr σ.length 0,.u,.i .i64 ((1+e:Nat):Int),.u,.u,.u,.u,.ptr (σ.length+1) 0,.u,.u,.u,.u,.u,.u,.u,.u,.u,.u,.u,.u,.u,.u,.u,.u,.u,.u,.u,.u,.u,.u,.u,.u,.u,.u,.u,.u,.u,.u,.u,.u,.u,.u,.u,.u,.u,.u,.u,.u,.u,.u,.u,.u,.u,.u,.u,.u,.u,.u,.u,.u,.u,.u,.u,.u,.u,.u,.u,.u,.u,.u,.u,.u,.u,.u,.u,.u,.u,.u,.u,.u,.u,.u,.u,.u,.u,.u,.u,.u,.u,.u,.u,.u,.u,.u,.u,.u,.u,.u,.u,.u,.u,.u,.u,.u,.u,.u,.u,.u,.u,.u,.u,.u,.u,.u,.u,.u,.u,.u,.u,.u,.u,.u,.u,.u,.u,.u,.u,.u,.u,.u,.u,.u,.u,.u,.u,.u,.u] →
    R ⟨fr,σ++[.box 31 [.i .i64 0,.s [],.i .i64 0],.box 31 [.i .i64 kind,.s (u.drop (k+1)),.i .i64 (dq 0 (u.take k))]]⟩:=by
   intro fr hg hc;refine hR _ (bX.ic ?_ hc);clear hR R;refine al ?_;simp only[Ud,VV,seval];refine aD aU (.inr rfl) (by simp only[RS,seval];rfl) (by simp only[LW]) ⟨?_,rfl⟩;rw[hg];rfl
  by_cases k3:kind=3
  ·subst k3;simp only[VV,seval];refine br (by simp only[VV,seval]<;>rfl) (fun _=>ki _ _) rfl ?_;simp only[VV,seval];refine br (c:=false) (v:=.b false) (by simp only[VV,seval]<;>simp) (fun h=>by simp at h) rfl ?_;simp only[VV,seval];refine⟨fun h2=>?_,fun h2=>?_⟩
   ·have h2:isName (u.drop (k+1))=false:=by rw[bU]at h2;exact h2
    rw[if_pos (.inl ⟨rfl,h2⟩)]at Mj;refine aD aU (.inr rfl) (by simp only[RS,seval];rfl) (by simp only[LW]) ⟨?_,rfl⟩;rw[WK,Mj];rfl
   ·have h2:isName (u.drop (k+1))=true:=by rw[cL]at h2;exact h2
    rw[if_neg (by simp only[h2];simp)]at Mj;exact fin (by rw[WK,Mj];rfl) (by repeat' constructor)
  ·have n3:(kind==3)=false:=by simpa using k3
   have n3':(kind != 3)=true:=by simpa using k3
   simp only[n3,n3',VV,seval];refine br (c:=false) (v:=.b false) (by simp only[VV,seval]<;>rfl) (fun h=>by simp at h) rfl ?_;simp only[n3,n3',VV,seval];refine br (by simp only[VV,seval]<;>rfl) (fun _=>mB _ _) rfl ?_;simp only[VV,seval];refine⟨fun h2=>?_,fun h2=>?_⟩
   ·have h2:cA (u.drop (k+1))=false:=by rw[bU]at h2;exact h2
    rw[if_pos (.inr ⟨k3,h2⟩)]at Mj;refine aD aU (.inr rfl) (by simp only[RS,seval];rfl) (by simp only[LW]) ⟨?_,rfl⟩;rw[WK,Mj];rfl
   ·have h2:cA (u.drop (k+1))=true:=by rw[cL]at h2;exact h2
    rw[if_neg (by simp only[h2,k3];simp)]at Mj;exact fin (by rw[WK,Mj];rfl) (by repeat' constructor)
 simp only[VV,seval];have adz:t.length≤rest.length:=by rw[← ht,ba];omega
 by_cases T7:t=[]
 ·subst T7;refine⟨fun h=>by simp at h,fun h=>by simp at h,fun _=>⟨fun h=>by simp at h,fun h=>by simp at h,fun _=>tail 2 [] (by simp) ?_ (.inl rfl) ?_⟩⟩
  ·exact hr
  ·repeat' constructor
 have JM:0<t.length:=cZ.2 T7;have hw:IntKind.i64.wrap ((t.length:Int) - 1)=((t.length - 1:Nat):Int):=by rw[IntWalk.i64_in _ (by omega)];omega
 have hd:decide ((0:Int)<(t.length:Int))=true:=by simp;omega
 have X9:List.take (t.length - 1) (List.drop 1 t)=t.drop 1:=cJ (by simp);simp only[hw,hd,X9,aH,bu,← UF T7,← Ut T7];refine⟨fun _=>by omega,fun h=>⟨by omega,tail 3 (t.drop 1) (by simp;omega) ?_ (.inr (.inl rfl)) ?_⟩,fun h=>⟨fun _=>by omega,fun h2=>⟨by omega,tail 4 (t.take (t.length - 1)) (by simp;omega) ?_ (.inr (.inr rfl)) ?_⟩,fun h2=>tail 2 t vW ?_ (.inl rfl) ?_⟩⟩
 ·rw[hr];simp only[Bd,h,if_true]
 ·repeat' constructor
 ·rw[hr];simp only[Bd,h,h2,aF,if_false,if_true]
 ·repeat' constructor
 ·rw[hr];simp only[Bd,h,h2,aF,if_false]
 ·repeat' constructor
def Bb(s:List UInt8)(k:Nat):Prop:=s.getD k 0=125∧isName ((s.take k).drop 1)=true
theorem Ym(a:UInt8):((a.toNat:Int)==125)=(a==125):=by revert a;exact fO (by decide +kernel)
theorem Jr{σ:ah}{K:Exit→St→Prop}(s:List UInt8)(hlen:s.length<2^62):∀ (m k:Nat),k+m=26→1≤k→(∀ j,1≤j→j<k→j<s.length→¬ Bb s j) →
  ((∀ j,1≤j→j<s.length→j≤25→¬ Bb s j)→(∀ j0 j1 j3 j4 j5 j6 j7 j8 j9 cC cH cG cF cB cE cD cI cQ db de dh dm dv du dt dN dR dU dX ej eD eL eQ eP fb fi fh fg fw fG fF fK fW gj gi gB gA gz gy gx gY gW gU iq iD iN iM iL iK jf jD jP kt kr kq k8 mP mO mN mM mL mK nL,K (.exit 1) ⟨[j0,j1,.ptr σ.length 0,j3,j4,j5,j6,j7,j8,j9,cC,cH,cG,cF,cB,cE,cD,cI,cQ,db,de,dh,dm,dv,du,dt,dN,dR,dU,dX,ej,eD,eL,eQ,eP,fb,fi,fh,fg,fw,fG,fF,fK,fW,gj,gi,gB,gA,gz,gy,gx,gY,gW,gU,iq,iD,iN,iM,iL,iK,jf,jD,jP,kt,kr,kq,k8,mP,mO,mN,mM,mL,mK,nL],σ++[.box 31 [.i .i64 0,.s [],.i .i64 0]]⟩)) →
  (∀ k:Nat,1≤k→k<s.length→Bb s k→(∀ j0 j1 j4 j5 j6 j7 j8 j9 cC cH cG cF cB cE cD cI cQ db de dh dm dv du dt dN dR dU dX ej eD eL eQ eP fb fi fh fg fw fG fF fK fW gj gi gB gA gz gy gx gY gW gU iq iD iN iM iL iK jf jD jP kt kr kq k8 mP mO mN mM mL mK nL,K .ret ⟨[j0,j1,.ptr σ.length 0,.i .i64 ((k+1:Nat):Int),j4,j5,j6,j7,j8,j9,cC,cH,cG,cF,cB,cE,cD,cI,cQ,db,de,dh,dm,dv,du,dt,dN,dR,dU,dX,ej,eD,eL,eQ,eP,fb,fi,fh,fg,fw,fG,fF,fK,fW,gj,gi,gB,gA,gz,gy,gx,gY,gW,gU,iq,iD,iN,iM,iL,iK,jf,jD,jP,kt,kr,kq,k8,mP,mO,mN,mM,mL,mK,nL],σ++[.box 31 [.i .i64 5,.s ((s.take k).drop 1),.i .i64 0]]⟩)) →
  fp σ.length prog xg K (m+1) ⟨[.s s,.u,.ptr σ.length 0,.u,.i .i64 k,.u,.u,.u,.u,.u,.u,.u,.u,.u,.u,.u,.u,.u,.u,.u,.u,.u,.u,.u,.u,.u,.u,.u,.u,.u,.u,.u,.u,.u,.u,.u,.u,.u,.u,.u,.u,.u,.u,.u,.u,.u,.u,.u,.u,.u,.u,.u,.u,.u,.u,.u,.u,.u,.u,.u,.u,.u,.u,.u,.u,.u,.u,.u,.u,.u,.u,.u,.u,.u],σ++[.box 31 [.i .i64 0,.s [],.i .i64 0]]⟩:=by
 intro m
 induction m with
 | zero =>
  intro k hk sk rW h1 h2;have e1:decide ((k:Int)≤25)=false:=by simp;omega
  refine ay fun R hR=>?_;simp only[xg,e1,bZ,VV,seval];exact h1 (fun j j1 j2 j3=>rW j j1 (by omega) j2) ..
 | succ m ih =>
  intro k hk sk rW h1 h2;have e1:decide ((k:Int)≤25)=true:=by simp;omega
  have hw:IntKind.i64.wrap ((k:Int)+1)=((k+1:Nat):Int):=by rw[IntWalk.i64_in _ (by omega)];omega
  by_cases X4:k<s.length
  ·have e0:decide ((k:Int)<(s.length:Int))=true:=by simp;omega
   refine ay fun R hR=>?_;have hdt:List.take (k - 1) (List.drop 1 s)=(s.take k).drop 1:=by rw[TX]
   simp only[xg,e0,e1,hw,aH,hdt,VV,seval];refine⟨by omega,fun _=>by omega,br (by simp only[VV,seval]<;>rfl) (fun _=>ki _ _) rfl ?_⟩;simp only[hw,hdt,Ym,aH,VV,seval];refine⟨fun h=>⟨by omega,?_⟩,fun h=>?_⟩
   ·exact h2 k sk X4 (by simpa[Bb]using h) ..
   ·refine hR _ (bb ?_ (ih (k+1) (by omega) (by omega) (fun j j1 j2 j3=>?_) h1 h2))
    ·repeat' constructor
    ·by_cases hj:j=k
     ·subst hj;intro hs;rw[hs.1,hs.2]at h;simp at h
     ·exact rW j j1 (by omega) j3
  ·have e0:decide ((k:Int)<(s.length:Int))=false:=by simp;omega
   refine ay fun R hR=>?_;simp only[xg,e0,e1,hw,aH,VV,seval];exact h1 (fun j j1 j2 j3=>rW j j1 (by omega) j2) ..
theorem Jq{σ:ah}{K:Exit→St→Prop}(s:List UInt8)(hlen:s.length<2^62):∀ (m c:Nat),c+m=256→(∀ j,j<c→hasPrefix s (dC (UInt8.ofNat j))=false) →
  ((∀ j,j<256→hasPrefix s (dC (UInt8.ofNat j))=false)→(∀ j0 j1 j3 j4 j5 j6 j7 j8 j9 cC cH cG cF cB cE cD cI cQ db de dh dm dv du dt dN dR dU dX ej eD eL eQ eP fb fi fh fg fw fG fF fK fW gj gi gB gA gz gy gx gY gW gU iq iD iN iM iL iK jf jD jP kt kr kq k8 mP mO mN mM mL mK nL,K (.exit 3) ⟨[j0,j1,.ptr σ.length 0,j3,j4,j5,j6,j7,j8,j9,cC,cH,cG,cF,cB,cE,cD,cI,cQ,db,de,dh,dm,dv,du,dt,dN,dR,dU,dX,ej,eD,eL,eQ,eP,fb,fi,fh,fg,fw,fG,fF,fK,fW,gj,gi,gB,gA,gz,gy,gx,gY,gW,gU,iq,iD,iN,iM,iL,iK,jf,jD,jP,kt,kr,kq,k8,mP,mO,mN,mM,mL,mK,nL],σ++[.box 31 [.i .i64 0,.s [],.i .i64 0]]⟩)) →
  (∀ b:UInt8,hasPrefix s (dC b)=true→(∀ j0 j1 j4 j5 j6 j7 j8 j9 cC cH cG cF cB cE cD cI cQ db de dh dm dv du dt dN dR dU dX ej eD eL eQ eP fb fi fh fg fw fG fF fK fW gj gi gB gA gz gy gx gY gW gU iq iD iN iM iL iK jf jD jP kt kr kq k8 mP mO mN mM mL mK nL,K .ret ⟨[j0,j1,.ptr σ.length 0,.i .i64 (dC b).length,j4,j5,j6,j7,j8,j9,cC,cH,cG,cF,cB,cE,cD,cI,cQ,db,de,dh,dm,dv,du,dt,dN,dR,dU,dX,ej,eD,eL,eQ,eP,fb,fi,fh,fg,fw,fG,fF,fK,fW,gj,gi,gB,gA,gz,gy,gx,gY,gW,gU,iq,iD,iN,iM,iL,iK,jf,jD,jP,kt,kr,kq,k8,mP,mO,mN,mM,mL,mK,nL],σ++[.box 31 [.i .i64 1,.s [b],.i .i64 0]]⟩)) →
  fp σ.length prog By K (m+1) ⟨[.s s,.u,.ptr σ.length 0,.u,.u,.i .i64 c,.u,.u,.u,.u,.u,.u,.u,.u,.u,.u,.u,.u,.u,.u,.u,.u,.u,.u,.u,.u,.u,.u,.u,.u,.u,.u,.u,.u,.u,.u,.u,.u,.u,.u,.u,.u,.u,.u,.u,.u,.u,.u,.u,.u,.u,.u,.u,.u,.u,.u,.u,.u,.u,.u,.u,.u,.u,.u,.u,.u,.u,.u,.u,.u,.u,.u,.u,.u],σ++[.box 31 [.i .i64 0,.s [],.i .i64 0]]⟩:=by
 intro m
 induction m with
 | zero =>
  intro c hc rW h1 h2;have hc:c=256:=by omega
  subst hc;refine ay fun R hR=>?_;simp only[By,VV,seval];exact⟨fun h=>by simp at h,fun _=>h1 rW ..⟩
 | succ m ih =>
  intro c hc rW h1 h2;have hw:IntKind.i64.wrap ((c:Int)+1)=((c+1:Nat):Int):=by rw[IntWalk.i64_in _ (by omega)];omega
  have hb:IntKind.u8.wrap (c:Int)=((UInt8.ofNat c).toNat:Int):=by rw[IntWalk.u8_in _ (by omega)];simp;omega
  have e1:decide ((c:Int)<256)=true:=by simp;omega
  refine ay fun R hR=>?_;simp only[By,e1,hb,hw,VV,seval];refine an (sK (UInt8.ofNat c) _) rfl ?_;simp only[hb,hw,aH,VV,seval]
  have hP:(decide (((dC (UInt8.ofNat c)).length:Int)≤(s.length:Int))&&List.take (dC (UInt8.ofNat c)).length s==dC (UInt8.ofNat c))=hasPrefix s (dC (UInt8.ofNat c)):=by
   simp only[hasPrefix,Kk]
  rw[hP];refine⟨fun h=>by simp at h;omega,fun h=>h2 _ h ..,fun h=>?_⟩;refine hR _ (bb ?_ (ih (c+1) (by omega) (fun j hj=>?_) h1 h2))
  ·repeat' constructor
  ·by_cases hjc:j=c
   ·subst hjc;exact h
   ·exact rW j (by omega)
theorem I1(s:List UInt8)(hs:s≠[])(hlen:s.length<2^62)(σ:ah):PC prog 227 [.s s] σ (fun r σ'=>r=.gZ [.agg (iH s).1.cells,.i .i64 (iH s).2]∧σ'=σ):=by
 refine PC.intro func227 ZK fun aU da=>al ?_;have JM:0<s.length:=cZ.2 hs
 have u123:(((s.getD 0 0).toNat:Int)==123)=(s.getD 0 0==123):=by
  generalize s.getD 0 0=a;revert a;exact fO (by decide +kernel)
 have u60:(((s.getD 0 0).toNat:Int)==60)=(s.getD 0 0==60):=by
  generalize s.getD 0 0=a;revert a;exact fO (by decide +kernel)
 have hb:(0:Int)≤0∧(0:Int)<(s.length:Int):=by omega
 simp only[UT,SS,seval]
 by_cases pB:s.getD 0 0=123
 ·have e1:(s.getD 0 0==123)=true:=by simpa using pB
  simp only[u123,e1,VV,Int.reduceBEq,Int.reduceBNe,Nat.reduceAdd,Nat.reduceSub,Nat.reduceLeDiff,Nat.reduceEqDiff,Int.reduceToNat,reduceIte,reduceCtorEq];refine⟨hb,?_⟩;refine bX.bb ?_ 26 (Jr s hlen 25 1 rfl (aw _) (fun j j1 j2=>by omega) (fun rW=>?_) (fun k k1 k2 hk=>?_))
  ·simp only[Int.natCast_one]
   repeat' constructor
  ·intros;simp only[VV,seval];refine aD aU (.inr rfl) (by simp only[RS,seval];rfl) (by simp only[LW]) ⟨?_,rfl⟩;rw[Be pB rW];rfl
  ·intros;simp only[VV,seval];refine aD aU (.inr rfl) (by simp only[RS,seval];rfl) (by simp only[LW]) ⟨?_,rfl⟩;rw[FN pB k1 k2 hk.1 hk.2];rfl
 have e1:(s.getD 0 0==123)=false:=by simpa using pB
 by_cases Tc:s.getD 0 0=60
 ·have e2:(s.getD 0 0==60)=true:=by simpa using Tc
  simp only[u123,u60,e1,e2,VV,Int.reduceBEq,Int.reduceBNe,Nat.reduceAdd,Nat.reduceSub,Nat.reduceLeDiff,Nat.reduceEqDiff,Int.reduceToNat,reduceIte,reduceCtorEq];refine⟨hb,hb,?_⟩;refine an (Bl s Tc hlen _) rfl ?_;simp only[It.cells,VV,seval];refine aD aU (.inr rfl) (by simp only[RS,seval];rfl) (by simp only[LW]) ⟨?_,rfl⟩;rfl
 ·have e2:(s.getD 0 0==60)=false:=by simpa using Tc
  simp only[u123,u60,e1,e2,VV,Int.reduceBEq,Int.reduceBNe,Nat.reduceAdd,Nat.reduceSub,Nat.reduceLeDiff,Nat.reduceEqDiff,Int.reduceToNat,reduceIte,reduceCtorEq];refine⟨hb,hb,?_⟩;refine bX.bb ?_ 257 (Jq s hlen 256 0 rfl (fun j hj=>by omega) (fun rW=>?_) (fun b oE=>?_))
  ·simp only[fZ]
   repeat' constructor
  ·intros;simp only[VV,seval];refine aD aU (.inr rfl) (by simp only[RS,seval];rfl) (by simp only[LW]) ⟨?_,rfl⟩
   rw[FP hs Tc pB (fun c=>by
    have:=rW c.toNat c.toNat_lt
    rwa [UInt8.ofNat_toNat]at this)]
   rfl
  ·intros;simp only[VV,seval];refine aD aU (.inr rfl) (by simp only[RS,seval];rfl) (by simp only[LW]) ⟨?_,rfl⟩;rw[FQ oE];rfl
theorem OS{σ:ah}{K:Exit→St→Prop}(s:List UInt8)(aU:bG σ)(hlen:s.length<2^30):∀ (n:Nat) (rest pre:List UInt8) (f:List It) (len:Nat),s=pre++rest→rest.length<n→f.length≤512→bp f≤pre.length→len≤1024 →
  ((gk n f len rest pre.length).2.2=0→(∀ j0 j1 j2 j3 j4 j6 j7 j8 j9 cC cH cG cF cB cE cD cI cQ db de dh dm dv du dt dN dR dU dX ej eD eL eQ eP fb fi fh fg fw fG fF fK fW gj gi gB gA gz gy gx gY gW gU iq,K (.exit 0) ⟨[j0,j1,j2,j3,j4,.sl 3 ((gk n f len rest pre.length).1.map It.cells),j6,j7,j8,j9,cC,cH,cG,cF,cB,cE,cD,cI,cQ,db,de,dh,dm,dv,du,dt,dN,dR,dU,dX,ej,eD,eL,eQ,eP,fb,fi,fh,fg,fw,fG,fF,fK,fW,gj,gi,gB,gA,gz,gy,gx,gY,gW,gU,iq],σ⟩)) →
  ((gk n f len rest pre.length).2.2≠0→∀ loc,(∀ j0 j1 j5 j6 j7 j8 j9 cC cH cG cF cB cE cD cI cQ db de dh dm dv du dt dN dR dU dX ej eD eL eQ eP fb fi fh fg fw fG fF fK fW gj gi gB gA gz gy gx gY gW gU iq,K .ret ⟨[j0,j1,.nil,.i .i64 (gk n f len rest pre.length).2.1,.i .i64 (gk n f len rest pre.length).2.2,j5,j6,j7,j8,j9,cC,cH,cG,cF,cB,cE,cD,cI,cQ,db,de,dh,dm,dv,du,dt,dN,dR,dU,dX,ej,eD,eL,eQ,eP,fb,fi,fh,fg,fw,fG,fF,fK,fW,gj,gi,gB,gA,gz,gy,gx,gY,gW,gU,iq],σ++loc⟩)) →
  fp σ.length prog BF K n ⟨[.s s,.u,.u,.u,.u,.sl 3 (f.map It.cells),.i .i64 pre.length,.i .i64 len,.u,.u,.u,.u,.u,.u,.u,.u,.u,.u,.u,.u,.u,.u,.u,.u,.u,.u,.u,.u,.u,.u,.u,.u,.u,.u,.u,.u,.u,.u,.u,.u,.u,.u,.u,.u,.u,.u,.u,.u,.u,.u,.u,.u,.u,.u,.u],σ⟩:=by
 intro n
 induction n with
 | zero=>intro rest pre f len he hn;omega
 | succ n ih =>
  intro rest pre f len he hn hf ht hl h1 h2;cases rest with
  | nil =>
   have he:s=pre:=by simpa using he
   subst he;simp only[gk]at h1;refine ay fun R hR=>?_;simp only[BF,VV,seval];exact⟨fun h=>by simp at h,fun _=>h1 trivial ..⟩
  | cons c rest =>
   subst he;have H6:=FM (s:=c::rest) (by simp);have hd:List.take ((pre++c::rest).length - pre.length) (List.drop pre.length (pre++c::rest))=c::rest:=by simp
   simp only[gk]at h1 h2;refine ay fun R hR=>?_;simp only[BF,hd,aH,VV,seval];refine⟨fun _=>⟨by simp;omega,?_⟩,fun h=>by simp at h<;>omega⟩;refine an (I1 (c::rest) (by simp) (by simp at hlen ⊢;omega) _) rfl ?_;generalize hx:iH (c::rest)=xm at *;obtain⟨x,m⟩:=xm;simp only at H6 h1 h2;simp only[It.cells,VV,seval];refine⟨fun hm=>?_,fun hm=>?_⟩
   ·have hm:m=0:=by simpa using hm
    simp only[hm,if_true]at h2;exact h2 (by simp) [_] ..
   have hm:m≠0:=by simpa using hm
   obtain⟨m1,m2,m3⟩:=H6 hm;rw[if_neg hm]at h1 h2;have hg:=F8 (f++[x]);simp only[fu,bp,List.length_append,ag,ai]at hg;have WZ:pre.length+(rest.length+1)<2^30:=by simpa using hlen
   simp only[ag]at m2 hn
   have Fq:(pre++(c::rest).take m.toNat).length=pre.length+m.toNat:=by
    rw[List.length_append,ba,ag];omega
   have YG:IntKind.i64.wrap ((len:Int)+1)=((len+1:Nat):Int):=by rw[IntWalk.i64_in _ (by omega)];omega
   have hwa:IntKind.i64.wrap ((pre.length:Int)+m)=(pre.length:Int)+m:=IntWalk.i64_in _ (by omega);have el:(len:Int)+1=((len+1:Nat):Int):=by omega
   have ea:(pre.length:Int)+m=(((pre++(c::rest).take m.toNat).length:Nat):Int):=by rw[Fq];omega
   refine⟨fun hk=>?_,fun hk=>?_⟩
   ·have hk:x.kind≠1:=by simpa using hk
    refine an (w7 f x _) rfl ?_;simp only[It.cells,VV,seval];refine⟨fun he=>?_,fun he=>?_⟩
    ·have he:eF f x≠0:=by simpa using he
     rw[if_pos ⟨hk,he⟩]at h2;exact h2 he [_] ..
    have he:eF f x=0:=by simpa using he
    rw[if_neg (fun h=>h.2 he)]at h1 h2;refine iv (zs:=[.sl 3 (f.map It.cells),.sl 3 ([x].map It.cells)]) (.cons (.refl _) (.cons (.lit _ _) .nil)) (vg f [x] (by omega) (by simp) (by omega) (by simp only[bp];omega) _) ?_;simp only[YG,hwa,ae,VV,seval];refine⟨fun hc=>?_,fun hc=>?_⟩
    ·have hc:512<(normalize (f++[x])).length∨(1024:Int)<(len:Int)+1:=by simp at hc;omega
     rw[if_pos hc]at h2;exact h2 (by simp) [_] ..
    ·have hc:¬ (512<(normalize (f++[x])).length∨(1024:Int)<(len:Int)+1):=by simp at hc;omega
     rw[if_neg hc,el,ea]at h1 h2;refine hR _ (sE (aw _) aU ?_ ?_ (ih ((c::rest).drop m.toNat) (pre++(c::rest).take m.toNat) (normalize (f++[x])) (len+1) (by simp) (by rw[bB,ag];omega) (by omega) (by rw[Fq];omega) (by omega) h1 h2))
     ·rw[← ea]
      repeat' constructor
     ·simp only[LW]
   ·have hk:x.kind=1:=by simpa using hk
    rw[if_neg (fun h=>h.1 hk)]at h1 h2;refine iv (zs:=[.sl 3 (f.map It.cells),.sl 3 ([x].map It.cells)]) (.cons (.refl _) (.cons (.lit _ _) .nil)) (vg f [x] (by omega) (by simp) (by omega) (by simp only[bp];omega) _) ?_;simp only[YG,hwa,ae,VV,seval];refine⟨fun hc=>?_,fun hc=>?_⟩
    ·have hc:512<(normalize (f++[x])).length∨(1024:Int)<(len:Int)+1:=by simp at hc;omega
     rw[if_pos hc]at h2;exact h2 (by simp) [_] ..
    ·have hc:¬ (512<(normalize (f++[x])).length∨(1024:Int)<(len:Int)+1):=by simp at hc;omega
     rw[if_neg hc,el,ea]at h1 h2;refine hR _ (sE (aw _) aU ?_ ?_ (ih ((c::rest).drop m.toNat) (pre++(c::rest).take m.toNat) (normalize (f++[x])) (len+1) (by simp) (by rw[bB,ag];omega) (by omega) (by rw[Fq];omega) (by omega) h1 h2))
     ·rw[← ea]
      repeat' constructor
     ·simp only[LW]
theorem w6(s:List UInt8)(hlen:s.length<2^30)(σ:ah):PC prog 201 [.s s] σ (fun r σ'=>r=.gZ [.sl 3 ((parse s).1.map It.cells),.i .i64 (parse s).2.1,.i .i64 (parse s).2.2]∧σ'=σ):=by
 refine PC.intro func201 ZY fun aU da=>al ?_;rw[← Bf];simp only[U8,SS,seval];simp only[VV,seval];refine bX.wk (Wk.ic ?_) (bX.ml (s.length+1) (OS s aU hlen (s.length+1) s [] [] 0 rfl (by omega) (by simp) (by simp[bp]) (by omega) (fun h=>?_) (fun h=>?_)))
 ·simp only[ai,fZ,aZ,VV,seval]
  repeat' constructor
 ·have e:=wV _ _ _ _ _ h;intros;simp only[VV,seval];refine aP (.inr rfl) (by simp only[RS,seval];rfl) ⟨?_,rfl⟩;have h':(tS s).2.2=0:=h;have e':(tS s).2.1=0:=e;rw[h',e'];rfl
 ·intros;simp only[VV,seval];refine jW (ys:=[.sl 3 [],.i .i64 (tS s).2.1,.i .i64 (tS s).2.2]) aU (.inr rfl) (by simp only[RS,seval];rfl) ?_ (by simp only[LW]) ⟨?_,rfl⟩
  ·exact .cons (.nil _) (.cons (.refl _) (.cons (.refl _) .nil))
  ·have hz:=u6 _ _ _ _ _ h;have hz':(tS s).1=[]:=hz;rw[hz'];rfl
theorem Ea(s:List UInt8)(σ:ah):PC prog 202 [.s s] σ (fun r σ'=>r=.b (named s)∧σ'=σ):=by
 refine PC.intro func202 ZX fun aU da=>al ?_;simp only[U7,SS,seval];simp only[VV,seval];refine br (by simp only[VV,seval]<;>rfl) (fun _=>ki s _) rfl ?_;simp only[VV,seval];exact aP (.inr rfl) (by simp only[RS,seval];rfl) ⟨rfl,rfl⟩
theorem mD(e:En)(hs:e.small)(σ:ah):PC prog 181 [.agg e.cells] σ (fun r σ'=>r=.i .i64 (cM e)∧σ'=σ):=by
 refine PC.intro func181 aab fun aU da=>al ?_;simp only[Vl,SS,seval];simp only[En.cells,VV,seval];refine an (nK e.source _) rfl ?_;simp only[VV,seval];refine⟨fun h=>?_,fun h=>?_⟩
 ·have h:bC e.source≠0:=by simpa using h
  exact aD aU (.inr rfl) (by simp only[RS,seval];rfl) (by simp only[LW]) ⟨by simp only[cM,h,if_true,ne_eq,not_false_eq_true];rfl,rfl⟩
 have h1:bC e.source=0:=by simpa using h
 refine an (nK e.target _) rfl ?_;simp only[VV,seval];refine⟨fun h=>?_,fun h=>?_⟩
 ·have h:bC e.target≠0:=by simpa using h
  refine aD aU (.inr rfl) (by simp only[RS,seval];rfl) (by simp only[LW]) ⟨?_,rfl⟩;simp only[cM,h1,h,if_true,ne_eq,not_false_eq_true,not_true,if_false];rfl
 have h2:bC e.target=0:=by simpa using h
 refine an (w8 e.source e.target (by have:=hs.source;omega) (by have:=hs.target;omega) (by have:=hs.iG;omega) (by have:=hs.nh;omega) _) rfl ?_;simp only[ae,VV,seval];refine br (by simp only[VV,seval]<;>rfl) (fun _=>qM (lj e.source e.target) e.source _) rfl ?_;simp only[VV,seval];refine br (by simp only[VV,seval]<;>rfl) (fun _=>qM (nO e.source e.target) e.target _) rfl ?_;simp only[VV,seval]
 have PG:lD e=!((((e.source.length:Int)==0)||!eM (lj e.source e.target) e.source)||!eM (nO e.source e.target) e.target):=by
  have:((e.source.length:Int)==0)=(e.source.length==0):=by rw[cP];simp
  simp only[lD,this];cases(e.source.length==0)<;>cases eM (lj e.source e.target) e.source<;>cases eM (nO e.source e.target) e.target<;>rfl
 refine⟨fun h=>?_,fun h=>?_⟩
 ·rw[h]at PG;refine aD aU (.inr rfl) (by simp only[RS,seval];rfl) (by simp only[LW]) ⟨?_,rfl⟩;simp only[cM,h1,h2,PG,ne_eq,not_true,if_false];rfl
 rw[h]at PG
 have e1:cM e=if(parse e.bN).2.2≠0 then(parse e.bN).2.2 else if(parse e.next).2.2≠0 then(parse e.next).2.2 else
   if(named e.cw&&named e.bV)=false then 4 else if e.created<0∨1073741824<e.created∨e.origin<1∨3<e.origin then 1 else 0:=by
  simp only[cM,h1,h2,PG,ne_eq,not_true,if_false];rfl
 refine an (w6 e.bN (by have:=hs.bN;omega) _) rfl ?_;simp only[VV,seval];refine⟨fun h=>?_,fun h=>?_⟩
 ·have h:(parse e.bN).2.2≠0:=by simpa using h
  rw[e1,if_pos h];exact aD aU (.inr rfl) (by simp only[RS,seval];rfl) (by simp only[LW]) ⟨rfl,rfl⟩
 have h3:¬ (parse e.bN).2.2≠0:=by simpa using h
 refine an (w6 e.next (by have:=hs.next;omega) _) rfl ?_;simp only[VV,seval];refine⟨fun h=>?_,fun h=>?_⟩
 ·have h:(parse e.next).2.2≠0:=by simpa using h
  rw[e1,if_neg h3,if_pos h];exact aD aU (.inr rfl) (by simp only[RS,seval];rfl) (by simp only[LW]) ⟨rfl,rfl⟩
 have h4:¬ (parse e.next).2.2≠0:=by simpa using h
 rw[if_neg h3,if_neg h4]at e1;refine an (Ea e.cw _) rfl ?_;simp only[VV,seval];refine br (by simp only[VV,seval]<;>rfl) (fun _=>Ea e.bV _) rfl ?_;simp only[VV,seval]
 have Y0:(!named e.cw||!named e.bV)=!(named e.cw&&named e.bV):=by
  cases named e.cw<;>cases named e.bV<;>rfl
 rw[Y0];refine⟨fun h=>?_,fun h=>⟨fun h5=>?_,fun h5=>?_⟩⟩
 ·have h:(named e.cw&&named e.bV)=false:=by rw[bU]at h;exact h
  rw[e1,if_pos h];exact aD aU (.inr rfl) (by simp only[RS,seval];rfl) (by simp only[LW]) ⟨rfl,rfl⟩
 ·have h:¬ (named e.cw&&named e.bV)=false:=by rw[cL]at h;rw[h];simp
  have h5:e.created<0∨1073741824<e.created∨e.origin<1∨3<e.origin:=by
   simp at h5;omega
  rw[e1,if_neg h,if_pos h5];exact aD aU (.inr rfl) (by simp only[RS,seval];rfl) (by simp only[LW]) ⟨rfl,rfl⟩
 ·have h:¬ (named e.cw&&named e.bV)=false:=by rw[cL]at h;rw[h];simp
  have h5:¬ (e.created<0∨1073741824<e.created∨e.origin<1∨3<e.origin):=by
   simp at h5;omega
  rw[e1,if_neg h,if_neg h5];exact aD aU (.inr rfl) (by simp only[RS,seval];rfl) (by simp only[LW]) ⟨rfl,rfl⟩
theorem I3(e:En)(hs:e.small)(σ:ah):PC prog 147 [.agg e.cells] σ (fun r σ'=>r=.s (kG e)∧σ'=σ):=by
 refine PC.intro func147 aay fun aU da=>al ?_;simp only[VI,SS,seval];simp only[En.cells,VV,seval];refine an (mD e hs _) rfl ?_;simp only[VV,seval];refine⟨fun h=>?_,fun h=>?_⟩
 ·have h:cM e≠0:=by simpa using h
  exact aD aU (.inr rfl) (by simp only[RS,seval];rfl) (by simp only[LW]) ⟨by simp only[kG,h,if_true,ne_eq,not_false_eq_true];rfl,rfl⟩
 ·have h:¬ cM e≠0:=by simpa using h
  refine an (vf e.source (by have:=hs.iG;omega) _) rfl ?_;simp only[VV,seval];have hf:=kf e.source hs.source hs.iG (fun x hx=>hs.ids x (by simp[hx]));have h1:=hs.bN;have h2:=hs.next;refine⟨by simp[maxLen];omega,by simp[maxLen];omega,by simp[maxLen];omega,by simp[maxLen];omega,?_⟩;refine aD aU (.inr rfl) (by simp only[RS,seval];rfl) (by simp only[LW]) ⟨?_,rfl⟩;simp[Pm.one,kG,if_neg h,sZ]
def AW(v:List Int)(n:Nat):List Int:=(List.range n).map fun(i:Nat)=>lL v i
def Fp(v:List Int):Nat→Nat
 | 0=>0
 | n+1=>if 0<lL v n then n+1 else Fp v n
theorem wC(v:List Int)(o:Int):0≤lL v o:=by
 simp only[lL];split
 ·omega
 ·split<;>omega
theorem Du(o:Int):lL [] o=0:=by
 simp only[lL];split
 ·rfl
 ·simp
theorem yy(v:List Int)(n:Nat):AW v (n+1)=AW v n++[lL v n]:=by simp[AW,mw]
theorem E9(v:List Int):∀ n,im v [] n=AW v n
 | 0=>rfl
 | n+1=>by
  have:=wC v n;rw[rF,yy,E9 v n,Du,if_neg (by omega)]
theorem xF(v:List Int):∀ n,gw v [] n=Fp v n
 | 0=>rfl
 | n+1=>by
  have:=wC v n;have e0:(if lL v n<0 then(0:Int)else lL v n)=lL v n:=if_neg (by omega);simp only[gw,Fp,Du,e0,xF v n]
  by_cases h:0<lL v n
  ·rw[if_pos (by omega),if_pos h]
  ·rw[if_neg (by omega),if_neg h]
theorem LG(v:List Int)(n:Nat):Fp v n≤n:=by rw[← xF];exact qe v [] n
theorem Iw(v:List Int):iV v=AW v (Fp v 8):=by
 have h:=LG v 8;simp only[iV,ph,E9,xF];simp only[AW,List.map_take,← List.map_take,List.take_range];congr 2;omega
theorem tIr:Ti prog 3 1 8:=kY (by kernel_rfl)
theorem Jv{σ:ah}{K:Exit→St→Prop}(v:List Int)(i:Nat)(hi:i<8):∀ (m k g:Nat),k+m=i →
  (∀ g,(∀ j1 j2 j5 j6 j7 j8 j9 cC cH cG cF cB cE cD cI cQ db de dh dm dv du dt dN dR dU dX ej,K (.exit 2) ⟨[.sl 1 (v.map bW),j1,j2,.own σ.length g,.i .i64 i,j5,j6,j7,j8,j9,cC,cH,cG,cF,cB,cE,cD,cI,cQ,db,de,dh,dm,dv,du,dt,dN,dR,dU,dX,ej],σ++[.row 3 1 8 g false ((AW v i).map bW)]⟩)) →
  fp σ.length prog BL K (m+1) ⟨[.sl 1 (v.map bW),.u,.u,.own σ.length g,.i .i64 i,.u,.u,.u,.u,.u,.u,.u,.u,.u,.u,.u,.u,.u,.u,.u,.u,.u,.u,.u,.u,.u,.u,.u,.u,.u,.u],σ++[.row 3 1 8 g false ((AW v k).map bW)]⟩:=by
 intro m
 induction m with
 | zero =>
  intro k g hk h1;have hk:k=i:=by omega
  subst hk;have e:(AW v k).length=k:=by simp[AW]
  refine ay fun R hR=>?_;simp only[BL,ae,e,VV,seval];exact⟨fun h=>by simp at h,fun _=>h1 g ..⟩
 | succ m ih =>
  intro k g hk h1;have e:(AW v k).length=k:=by simp[AW]
  refine ay fun R hR=>?_;simp only[BL,ae,e,VV,seval];refine⟨fun _=>?_,fun h=>by simp at h;omega⟩;refine an (sM v k _) rfl ?_;simp only[ae,e,VV,seval];have cm:(AW v k).map bW++[[.i .i64 (lL v k)]]=(AW v (k+1)).map bW:=by rw[yy];simp[bW]
  rw[cm];refine⟨by simp[maxLen];omega,?_⟩;refine hR _ (bb ?_ (ih (k+1) (g+1) (by omega) h1))
  repeat' constructor
theorem Ju{σ:ah}{K:Exit→St→Prop}(v:List Int):∀ (m i g:Nat),i+m=8 →
  (∀ g,(∀ j0 j1 j2 j4 j5 j6 j7 j8 j9 cC cH cG cF cB cE cD cI cQ db de dh dm dv du dt dN dR dU dX ej,K (.exit 0) ⟨[j0,j1,j2,.own σ.length g,j4,j5,j6,j7,j8,j9,cC,cH,cG,cF,cB,cE,cD,cI,cQ,db,de,dh,dm,dv,du,dt,dN,dR,dU,dX,ej],σ++[.row 3 1 8 g false ((AW v (Fp v 8)).map bW)]⟩)) →
  fp σ.length prog BK K (m+1) ⟨[.sl 1 (v.map bW),.u,.u,.own σ.length g,.i .i64 i,.u,.u,.u,.u,.u,.u,.u,.u,.u,.u,.u,.u,.u,.u,.u,.u,.u,.u,.u,.u,.u,.u,.u,.u,.u,.u],σ++[.row 3 1 8 g false ((AW v (Fp v i)).map bW)]⟩:=by
 intro m
 induction m with
 | zero =>
  intro i g hi h1;have hi:i=8:=by omega
  subst hi;refine ay fun R hR=>?_;simp only[BK,VV,seval];exact⟨fun h=>by simp at h,fun _=>h1 g ..⟩
 | succ m ih =>
  intro i g hi h1;have hw:IntKind.i64.wrap ((i:Int)+1)=((i+1:Nat):Int):=by rw[IntWalk.i64_in _ (by omega)];omega
  have hl:=LG v i;refine ay fun R hR=>?_;simp only[BK,hw,VV,seval];refine⟨fun _=>?_,fun h=>by simp at h;omega⟩;refine an (sM v i _) rfl ?_;simp only[hw,VV,seval];refine⟨fun h=>?_,fun h=>?_⟩
  ·have h:0<lL v i:=by simpa using h
   have e:Fp v (i+1)=i+1:=by simp only[Fp,if_pos h]
   refine bX.bb ?_ (i - Fp v i+1) (Jv v i (by omega) (i - Fp v i) (Fp v i) g (by omega) ?_)
   ·repeat' constructor
   intro g';intros;simp only[VV,seval];refine an (sM v i _) rfl ?_;have el:(AW v i).length=i:=by simp[AW]
   simp only[ae,el,hw,VV,seval];have cm:(AW v i).map bW++[[.i .i64 (lL v i)]]=(AW v (Fp v (i+1))).map bW:=by rw[e,yy];simp[bW]
   rw[cm];refine⟨by simp[maxLen];omega,?_⟩;refine hR _ (bb ?_ (ih (i+1) (g'+1) (by omega) h1))
   repeat' constructor
  ·have h:¬ 0<lL v i:=by simpa using h
   have e:Fp v (i+1)=Fp v i:=by simp only[Fp,if_neg h]
   rw[← e];refine hR _ (bb ?_ (ih (i+1) g (by omega) h1))
   repeat' constructor
theorem F2(v:List Int)(σ:ah):PC prog 179 [.sl 1 (v.map bW)] σ (fun r σ'=>r=.sl 1 ((iV v).map bW)∧σ'=σ):=by
 refine PC.intro func179 aad fun aU da=>al ?_;rw[Iw];simp only[Vn,SS,seval];simp only[ae,VV,seval];refine bX.wk ((Wk.iZ (k:=3) tIr rfl).trans (Wk.ic ?_)) (bX.ml 9 (Ju v 8 0 0 rfl ?_))
 ·simp only[fZ,VV,seval]
  repeat' constructor
 ·intro g;intros;simp only[VV,seval];refine iy 0 aU (.inr rfl) rfl rfl ?_ ?_
  ·simp[fz,kF,gh,qc]
  ·simp[fz,kF,Pm.one]
theorem OX{n:Nat}{σ:ah}{K:Exit→St→Prop}(a b:List Int)(hlen:a.length<2^63)(rH:a.length=b.length):∀ (ra rb pa pb:List Int),a=pa++ra→b=pb++rb→pa.length=pb.length →
  (ra=rb→(∀ j0 j1 j2 j3 j4 j5 j6 j7 j8 j9 cC cH cG cF cB cE cD cI cQ db de dh dm dv du dt,K (.exit 0) ⟨[j0,j1,j2,j3,j4,j5,j6,j7,j8,j9,cC,cH,cG,cF,cB,cE,cD,cI,cQ,db,de,dh,dm,dv,du,dt],σ⟩))→(ra≠rb→(∀ j0 j1 j2 j3 j5 j6 j7 j8 j9 cC cH cG cF cB cE cD cI cQ db de dh dm dv du dt,K .ret ⟨[j0,j1,j2,j3,.b false,j5,j6,j7,j8,j9,cC,cH,cG,cF,cB,cE,cD,cI,cQ,db,de,dh,dm,dv,du,dt],σ⟩)) →
  fp n prog BM K (ra.length+1) ⟨[.sl 1 (a.map bW),.sl 1 (b.map bW),.u,.u,.u,.u,.u,.u,.u,.u,.u,.u,.i .i64 a.length,.i .i64 pa.length,.u,.u,.u,.u,.u,.u,.u,.u,.u,.u,.u,.u],σ⟩:=by
 intro ra
 induction ra with
 | nil =>
  intro rb pa pb ha hb hp h1 h2
  have:rb=[]:=by
   subst ha;subst hb;simp at rH;exact bq (by omega)
  subst this;have ha:a=pa:=by simpa using ha
  subst ha;refine ay fun R hR=>?_;simp only[BM,VV,seval];exact⟨fun h=>by simp at h,fun _=>h1 rfl ..⟩
 | cons x ra ih =>
  intro rb pa pb ha hb hp h1 h2;cases rb with
  | nil=>subst ha;subst hb;simp at rH;omega
  | cons y rb =>
   subst ha;subst hb;have e2:ft (List.map bW (pb++y::rb)) pa.length 0=some (.i .i64 y):=by rw[hp,o6];rfl
   have hw:IntKind.i64.wrap ((pa.length:Int)+1)=(((pa++[x]).length:Nat):Int):=by
    rw[aX (by simp at hlen;omega)];simp
   refine ay fun R hR=>?_;have e1:ft (List.map bW (pa++x::ra)) pa.length 0=some (.i .i64 x):=by rw[o6];rfl
   simp only[BM,aH,e1,e2,VV,seval];have QW:(0:Int)≤pa.length∧(pa.length:Int)<(List.map bW (pa++x::ra)).length:=by simp;omega
   have SY:(0:Int)≤pa.length∧(pa.length:Int)<(List.map bW (pb++y::rb)).length:=by simp at rH ⊢;omega
   refine⟨fun _=>⟨QW,SY,fun h=>?_,fun h=>?_⟩,fun h=>by simp at h<;>omega⟩
   ·have h:¬ x=y:=by simpa using h
    exact h2 (by simp[h]) ..
   ·have h:x=y:=by simpa using h
    subst h;refine hR _ (bb ?_ (ih rb (pa++[x]) (pb++[x]) (by simp) (by simp) (by simp[hp]) (fun e=>h1 (by rw[e])) (fun e=>h2 (by simpa using e))));rw[hw];repeat' constructor
theorem y4(a b:List Int)(σ:ah):PC prog 178 [.sl 1 (a.map bW),.sl 1 (b.map bW)] σ (fun r σ'=>r=.b (a==b)∧σ'=σ):=by
 refine PC.intro func178 aae fun aU da=>al ?_;have hlen:=kS (da 0 _ rfl).1;rw[ae]at hlen;simp only[Vo,SS,seval];simp only[ae,VV,seval];refine⟨fun h=>?_,fun h=>?_⟩
 ·refine aP (.inr rfl) rfl ⟨?_,rfl⟩;have:a≠b:=fun e=>by subst e;simp at h
  simp[Pm.one,this]
 ·have rH:a.length=b.length:=by simp at h;omega
  refine bX.bb ?_ (a.length+1) (OX a b hlen rH a b [] [] rfl rfl rfl (fun h=>?_) (fun h=>?_))
  ·repeat' constructor
  ·intros;simp only[VV,seval];exact aP (.inr rfl) rfl ⟨by simp[Pm.one,h],rfl⟩
  ·intros;exact aP (.inr rfl) rfl ⟨by simp[Pm.one,h],rfl⟩
theorem O4{n:Nat}{σ:ah}{K:Exit→St→Prop}(q:V)(l:List Int)(hlen:l.length<2^63):∀ (rest pre:List Int),l=pre++rest →
  (rest.any (fun n=>decide (128<n))=false→(∀ j0 j2 j3 j4 j5 j6 j7 j8 j9 cC cH cG cF cB cE cD cI cQ db de dh dm dv du dt dN dR dU dX ej eD eL eQ eP fb fi fh fg fw fG fF fK fW gj gi gB gA gz gy gx gY gW gU iq iD iN iM iL iK jf jD jP kt kr kq k8 mP mO mN mM mL mK nL qf rj ri rh rf re q9 q8 q7 qZ qY rT,K (.exit 0) ⟨[j0,q,j2,j3,j4,j5,j6,j7,j8,j9,cC,cH,cG,cF,cB,cE,cD,cI,cQ,db,de,dh,dm,dv,du,dt,dN,dR,dU,dX,ej,eD,eL,eQ,eP,fb,fi,fh,fg,fw,fG,fF,fK,fW,gj,gi,gB,gA,gz,gy,gx,gY,gW,gU,iq,iD,iN,iM,iL,iK,jf,jD,jP,kt,kr,kq,k8,mP,mO,mN,mM,mL,mK,nL,qf,rj,ri,rh,rf,re,q9,q8,q7,qZ,qY,rT],σ⟩))→(rest.any (fun n=>decide (128<n))=true→(∀ j0 j3 j4 j5 j6 j7 j8 j9 cC cH cG cF cB cE cD cI cQ db de dh dm dv du dt dN dR dU dX ej eD eL eQ eP fb fi fh fg fw fG fF fK fW gj gi gB gA gz gy gx gY gW gU iq iD iN iM iL iK jf jD jP kt kr kq k8 mP mO mN mM mL mK nL qf rj ri rh rf re q9 q8 q7 qZ qY rT,K .ret ⟨[j0,q,.i .i64 1,j3,j4,j5,j6,j7,j8,j9,cC,cH,cG,cF,cB,cE,cD,cI,cQ,db,de,dh,dm,dv,du,dt,dN,dR,dU,dX,ej,eD,eL,eQ,eP,fb,fi,fh,fg,fw,fG,fF,fK,fW,gj,gi,gB,gA,gz,gy,gx,gY,gW,gU,iq,iD,iN,iM,iL,iK,jf,jD,jP,kt,kr,kq,k8,mP,mO,mN,mM,mL,mK,nL,qf,rj,ri,rh,rf,re,q9,q8,q7,qZ,qY,rT],σ⟩)) →
  fp n prog BU K (rest.length+1) ⟨[.u,q,.u,.u,.u,.u,.u,.u,.u,.u,.u,.u,.u,.u,.u,.u,.u,.u,.u,.u,.u,.u,.u,.u,.u,.u,.u,.u,.u,.u,.u,.sl 1 (l.map bW),.i .i64 l.length,.i .i64 pre.length,.u,.u,.u,.u,.u,.u,.u,.u,.u,.u,.u,.u,.u,.u,.u,.u,.u,.u,.u,.u,.u,.u,.u,.u,.u,.u,.u,.u,.u,.u,.u,.u,.u,.u,.u,.u,.u,.u,.u,.u,.u,.u,.u,.u,.u,.u,.u,.u,.u,.u,.u,.u],σ⟩:=by
 intro rest
 induction rest with
 | nil =>
  intro pre he h1 h2;have he:l=pre:=by simpa using he
  subst he;refine ay fun R hR=>?_;simp only[BU,VV,seval];exact⟨fun h=>by simp at h,fun _=>h1 rfl ..⟩
 | cons c rest ih =>
  intro pre he h1 h2;subst he;refine ay fun R hR=>?_;simp only[BU,bW,VV,seval];refine⟨fun _=>⟨by simp;omega,fun h=>?_,fun h=>?_⟩,fun h=>by simp at h<;>omega⟩
  ·have h:128<c:=by simpa using h
   exact h2 (by simp[h]) ..
  ·have h:¬ 128<c:=by simpa using h
   have e:(c::rest).any (fun n=>decide (128<n))=rest.any (fun n=>decide (128<n)):=by simp[h]
   rw[e]at h1 h2;refine hR _ (bb ?_ (ih (pre++[c]) (by simp) h1 h2));rw[aX (by simp at hlen;omega)];simp only[List.length_append,ag,ai]
   repeat' constructor
theorem oe(o:bc)(hs:o.small)(σ:ah):PC prog 146 [.agg o.cells] σ (fun r σ'=>r=.i .i64 (dQ o)∧σ'=σ):=by
 refine PC.intro func146 aaz fun aU da=>al ?_;have Pv:=hs.seen;simp only[VJ,SS,seval];simp only[bc.cells,bY.cells,En.cells,VV,seval];refine an (DQ o.aT _) rfl ?_;simp only[VV,seval];refine⟨fun h=>?_,fun h=>?_⟩
 ·have h:gH o.aT=false:=by
   cases hk:gH o.aT with
   | false=>rfl
   | true=>rw[hk]at h;simp at h
  refine aD aU (.inr rfl) (by simp only[RS,seval];rfl) (by simp only[LW]) ⟨?_,rfl⟩;simp only[dQ,h,if_true];rfl
 have h0:¬ gH o.aT=false:=by
  intro hk;rw[hk]at h;simp at h
 have e0:dQ o=if(o.kind≠1∧o.kind≠2)∨iV o.seen≠o.seen then 1 else
   if o.seen.any (fun n=>decide (128<n))then 1 else
   if lL o.seen o.aT.bP≠o.aT.number - 1 then 11 else
   if o.kind=2∧kL o.entry=false then 1 else cM (looked o):=by simp only[dQ,if_neg h0]
 have Mn:1≤o.aT.number∧o.aT.number≤128:=by
  have:gH o.aT=true:=by simpa using h0
  simp only[gH,decide_eq_true_eq]at this;omega
 rw[e0]
 have QX:(bif (o.kind != 1)then(o.kind != 2)else false)=decide (o.kind≠1∧o.kind≠2):=by
  rw[cP];by_cases h1:o.kind=1<;>by_cases h2:o.kind=2<;>simp[h1,h2]
 refine br (by simp only[VV,seval]<;>rfl) (fun _=>F2 o.seen _) rfl ?_;simp only[VV,seval];refine br (by simp only[VV,seval]<;>rfl) (fun _=>y4 (iV o.seen) o.seen _) rfl ?_;simp only[VV,seval];have SZ:o.seen.length<2^63:=by omega
 refine⟨fun h=>?_,fun h=>bX.bb ?_ (o.seen.length+1) (O4 (.ptr σ.length 0) o.seen SZ o.seen [] rfl (fun ha=>?_) (fun ha=>?_))⟩
 ·have h:(o.kind≠1∧o.kind≠2)∨iV o.seen≠o.seen:=by
   simpa[iV]using h
  refine aD aU (.inr rfl) (by simp only[RS,seval];rfl) (by simp only[LW]) ⟨?_,rfl⟩;rw[if_pos h];rfl
 ·simp only[ae,ai,VV,seval]
  repeat' constructor
 ·have h:¬ ((o.kind≠1∧o.kind≠2)∨iV o.seen≠o.seen):=by
   intro h2;have:(o.kind != 1&&o.kind != 2||!iV o.seen==o.seen)=true:=by simpa using h2
   rw[h]at this;simp at this
  have JQ:=h;rw[if_neg h,if_neg (show ¬ (o.seen.any fun n=>decide (128<n))=true by rw[ha];simp)];intros;simp only[VV,seval];refine an (sM o.seen o.aT.bP _) rfl ?_;simp only[VV,seval];have hw:IntKind.i64.wrap (o.aT.number - 1)=o.aT.number - 1:=IntWalk.i64_in _ (by omega);rw[hw];refine⟨fun h=>?_,fun h=>?_⟩
  ·have h:lL o.seen o.aT.bP≠o.aT.number - 1:=by simpa using h
   refine aD aU (.inr rfl) (by simp only[RS,seval];rfl) (by simp only[LW]) ⟨?_,rfl⟩;rw[if_pos h];rfl
  have h:¬ lL o.seen o.aT.bP≠o.aT.number - 1:=by simpa using h
  rw[if_neg h];refine⟨fun h1=>?_,fun h1=>?_⟩
  ·have h1:o.kind=1:=by simpa using h1
   have hl:looked o=o.entry:=by simp only[looked,h1];rfl
   rw[if_neg (by rw[h1];simp),hl];refine an (mD o.entry hs.entry _) rfl ?_;simp only[VV,seval];exact aD aU (.inr rfl) (by simp only[RS,seval];rfl) (by simp only[LW]) ⟨rfl,rfl⟩
  have h1:o.kind=2:=by
   simp only[not_or]at JQ;have h1:¬ o.kind=1:=by simpa using h1
   have:=JQ.1;omega
  have hl:looked o=asked o.entry:=by simp only[looked,h1];rfl
  have Xh:(decide ((0:Int)<(o.entry.target.length:Int))||!o.entry.cw==[]||!o.entry.bV==[]||o.entry.created != 0||o.entry.origin != 0)=!kL o.entry:=by
   have e:decide ((0:Int)<(o.entry.target.length:Int))=!(o.entry.target.length==0):=by
    rw[cP];simp only[decide_eq_true_eq,bU,beq_eq_false_iff_ne];omega
   rw[e];simp only[kL,bne];cases o.entry.target.length==0<;>cases o.entry.cw==[]<;>cases o.entry.bV==[]<;>cases o.entry.created==0<;>cases o.entry.origin==0<;>rfl
  simp only[ae,VV,seval];rw[Xh];refine⟨fun h2=>?_,fun h2=>?_⟩
  ·have h2:kL o.entry=false:=by rw[bU]at h2;exact h2
   refine aD aU (.inr rfl) (by simp only[RS,seval];rfl) (by simp only[LW]) ⟨?_,rfl⟩;rw[if_pos ⟨h1,h2⟩];rfl
  have h2:kL o.entry=true:=by rw[cL]at h2;exact h2
  rw[if_neg (by rw[h2];simp)];refine an (vh o.entry _) rfl ?_;simp only[VV,seval];have WH:=oQ hs;rw[hl]at WH ⊢;refine an (mD (asked o.entry) WH _) rfl ?_;simp only[VV,seval];exact aD aU (.inr rfl) (by simp only[RS,seval];rfl) (by simp only[LW]) ⟨rfl,rfl⟩
 ·have h:¬ ((o.kind≠1∧o.kind≠2)∨iV o.seen≠o.seen):=by
   intro h2;have:(o.kind != 1&&o.kind != 2||!iV o.seen==o.seen)=true:=by simpa using h2
   rw[h]at this;simp at this
  rw[if_neg h,if_pos ha];intros;simp only[VV,seval];exact aD aU (.inr rfl) (by simp only[RS,seval];rfl) (by simp only[LW]) ⟨rfl,rfl⟩
theorem Jd{o:bc}(h:dQ o=0):cM (looked o)=0:=by
 simp only[dQ]at h
 repeat' split at h
 all_goals first | (simp at h;done) | exact h
theorem Fa{o:bc}(h:o.small):(asked o.entry).small :=
 ⟨h.entry.source,h.entry.iG,h.entry.source,h.entry.iG,h.entry.bN,h.entry.next,fun x hx=>h.entry.ids x (by
  simp only[asked,List.mem_append]at hx ⊢;rcases hx with hx | hx<;>exact .inl hx)⟩
theorem pT(o:bc)(hs:o.small)(σ:ah):PC prog 100 [.agg o.cells] σ (fun r σ'=>r=.s (bE o)∧σ'=σ):=by
 refine PC.intro func100 aaU fun aU da=>al ?_;simp only[Wa,SS,seval];simp only[bc.cells,bY.cells,En.cells,VV,seval];refine an (oe o hs _) rfl ?_;simp only[VV,seval];refine⟨fun h=>?_,fun h=>?_⟩
 ·have h:dQ o≠0:=by simpa using h
  refine aD aU (.inr rfl) (by simp only[RS,seval];rfl) (by simp only[LW]) ⟨?_,rfl⟩;simp only[bE,h,ne_eq,not_false_eq_true,if_true];rfl
 ·have h:dQ o=0:=by simpa using h
  refine an (vh o.entry _) rfl ?_;simp only[VV,seval];refine an (I3 (asked o.entry) (Fa hs) _) rfl ?_;simp only[VV,seval];refine aD aU (.inr rfl) (by simp only[RS,seval];rfl) (by simp only[LW]) ⟨?_,rfl⟩;rw[D4 h (Jd h)];rfl
end Go.Proofs.Tryz

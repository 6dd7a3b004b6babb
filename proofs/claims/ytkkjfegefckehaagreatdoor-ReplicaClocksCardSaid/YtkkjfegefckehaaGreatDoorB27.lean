/- A part of the proof of the statement of the last text of this claim; its conditions stand there. -/
import Derived.Test.YtkkjfegefckehaaGreatDoorB4
import Derived.Test.YtkkjfegefckehaaGreatDoorB14
import Derived.Test.YtkkjfegefckehaaGreatDoorB16
set_option linter.all false

namespace Go.Proofs.Tryz
open Go Go.Pm
open Go.Pm.V(u)
set_option maxRecDepth 100000
def acU:bT:=(⟨_,by conv=>lhs;cbv⟩:Nf (bW (aP prog f203) [])).1
theorem ajJ:aP prog f203=some acU:=by kernel_rfl
def ab0:=(⟨_,by conv=>lhs;cbv⟩:Nf (aP prog f161))
def Hr:bw:=(⟨_,by conv=>lhs;cbv⟩:Nf (dW ab0.1 0 [])).1
def ado:bT:=(fun b0=>(⟨_,by conv=>lhs;cbv⟩:Nf (bW ab0.1 [b0])).1) Hr
theorem akc:aP prog f161=some ado:=by kernel_rfl
def adm:bT:=(⟨_,by conv=>lhs;cbv⟩:Nf (bW (aP prog f163) [])).1
theorem aka:aP prog f163=some adm:=by kernel_rfl
def acS:bT:=(⟨_,by conv=>lhs;cbv⟩:Nf (bW (aP prog f205) [])).1
theorem ajH:aP prog f205=some acS:=by kernel_rfl
def abM:=(⟨_,by conv=>lhs;cbv⟩:Nf (aP prog f204))
def He:bw:=(⟨_,by conv=>lhs;cbv⟩:Nf (dW abM.1 0 [])).1
def acT:bT:=(fun b0=>(⟨_,by conv=>lhs;cbv⟩:Nf (bW abM.1 [b0])).1) He
theorem ajI:aP prog f204=some acT:=by kernel_rfl
def adn:bT:=(⟨_,by conv=>lhs;cbv⟩:Nf (bW (aP prog f162) [])).1
theorem akb:aP prog f162=some adn:=by kernel_rfl
def abZ:=(⟨_,by conv=>lhs;cbv⟩:Nf (aP prog f164))
def Hq:bw:=(⟨_,by conv=>lhs;cbv⟩:Nf (dW abZ.1 0 [])).1
def adl:bT:=(fun b0=>(⟨_,by conv=>lhs;cbv⟩:Nf (bW abZ.1 [b0])).1) Hq
theorem aj9:aP prog f164=some adl:=by kernel_rfl
def acm:=(⟨_,by conv=>lhs;cbv⟩:Nf (aP prog f103))
def HM:bw:=(⟨_,by conv=>lhs;cbv⟩:Nf (dW acm.1 0 [])).1
def ad4:bT:=(fun b0=>(⟨_,by conv=>lhs;cbv⟩:Nf (bW acm.1 [b0])).1) HM
theorem akP:aP prog f103=some ad4:=by kernel_rfl
def aci:=(⟨_,by conv=>lhs;cbv⟩:Nf (aP prog f107))
def HJ:bw:=(⟨_,by conv=>lhs;cbv⟩:Nf (dW aci.1 0 [])).1
def ad0:bT:=(fun b0=>(⟨_,by conv=>lhs;cbv⟩:Nf (bW aci.1 [b0])).1) HJ
theorem akL:aP prog f107=some ad0:=by kernel_rfl
def acz:bT:=(⟨_,by conv=>lhs;cbv⟩:Nf (bW (aP prog f232) [])).1
theorem ajn:aP prog f232=some acz:=by kernel_rfl
def adZ:bT:=(⟨_,by conv=>lhs;cbv⟩:Nf (bW (aP prog f108) [])).1
theorem akK:aP prog f108=some adZ:=by kernel_rfl
def p30:bT:=(⟨_,by conv=>lhs;cbv⟩:Nf (bW (aP prog f30) [])).1
theorem c30:aP prog f30=some p30:=by kernel_rfl
def acv:bT:=(⟨_,by conv=>lhs;cbv⟩:Nf (bW (aP prog f238) [])).1
theorem ajj:aP prog f238=some acv:=by kernel_rfl
def ace:=(⟨_,by conv=>lhs;cbv⟩:Nf (aP prog f121))
def HF:bw:=(⟨_,by conv=>lhs;cbv⟩:Nf (dW ace.1 0 [])).1
def adO:bT:=(fun b0=>(⟨_,by conv=>lhs;cbv⟩:Nf (bW ace.1 [b0])).1) HF
theorem akC:aP prog f121=some adO:=by kernel_rfl
def p66:bT:=(⟨_,by conv=>lhs;cbv⟩:Nf (bW (aP prog f66) [])).1
theorem c66:aP prog f66=some p66:=by kernel_rfl
def ad5:bT:=(⟨_,by conv=>lhs;cbv⟩:Nf (bW (aP prog f102) [])).1
theorem akQ:aP prog f102=some ad5:=by kernel_rfl
def adp:bT:=(⟨_,by conv=>lhs;cbv⟩:Nf (bW (aP prog f160) [])).1
theorem akd:aP prog f160=some adp:=by kernel_rfl
def acn:=(⟨_,by conv=>lhs;cbv⟩:Nf (aP prog f101))
def HN:bw:=(⟨_,by conv=>lhs;cbv⟩:Nf (dW acn.1 0 [])).1
def ad6:bT:=(fun b0=>(⟨_,by conv=>lhs;cbv⟩:Nf (bW acn.1 [b0])).1) HN
theorem akR:aP prog f101=some ad6:=by kernel_rfl
def ach:=(⟨_,by conv=>lhs;cbv⟩:Nf (aP prog f109))
def HI:bw:=(⟨_,by conv=>lhs;cbv⟩:Nf (dW ach.1 0 [])).1
def adY:bT:=(fun b0=>(⟨_,by conv=>lhs;cbv⟩:Nf (bW ach.1 [b0])).1) HI
theorem akJ:aP prog f109=some adY:=by kernel_rfl
def acB:bT:=(⟨_,by conv=>lhs;cbv⟩:Nf (bW (aP prog f230) [])).1
theorem ajp:aP prog f230=some acB:=by kernel_rfl
def acO:bT:=(⟨_,by conv=>lhs;cbv⟩:Nf (bW (aP prog f209) [])).1
theorem ajD:aP prog f209=some acO:=by kernel_rfl
def acy:bT:=(⟨_,by conv=>lhs;cbv⟩:Nf (bW (aP prog f234) [])).1
theorem ajm:aP prog f234=some acy:=by kernel_rfl
def acx:bT:=(⟨_,by conv=>lhs;cbv⟩:Nf (bW (aP prog f235) [])).1
theorem ajl:aP prog f235=some acx:=by kernel_rfl
def acu:bT:=(⟨_,by conv=>lhs;cbv⟩:Nf (bW (aP prog f242) [])).1
theorem ajh:aP prog f242=some acu:=by kernel_rfl
def acs:bT:=(⟨_,by conv=>lhs;cbv⟩:Nf (bW (aP prog f244) [])).1
theorem ajg:aP prog f244=some acs:=by kernel_rfl
def acr:bT:=(⟨_,by conv=>lhs;cbv⟩:Nf (bW (aP prog f245) [])).1
theorem ajf:aP prog f245=some acr:=by kernel_rfl
def acL:bT:=(⟨_,by conv=>lhs;cbv⟩:Nf (bW (aP prog f212) [])).1
theorem ajA:aP prog f212=some acL:=by kernel_rfl
def acA:bT:=(⟨_,by conv=>lhs;cbv⟩:Nf (bW (aP prog f231) [])).1
theorem ajo:aP prog f231=some acA:=by kernel_rfl
def acP:bT:=(⟨_,by conv=>lhs;cbv⟩:Nf (bW (aP prog f208) [])).1
theorem ajE:aP prog f208=some acP:=by kernel_rfl
def abG:=(⟨_,by conv=>lhs;cbv⟩:Nf (aP prog f236))
def G8:bw:=(⟨_,by conv=>lhs;cbv⟩:Nf (dW abG.1 0 [])).1
def acw:bT:=(fun b0=>(⟨_,by conv=>lhs;cbv⟩:Nf (bW abG.1 [b0])).1) G8
theorem ajk:aP prog f236=some acw:=by kernel_rfl
def acM:bT:=(⟨_,by conv=>lhs;cbv⟩:Nf (bW (aP prog f211) [])).1
theorem ajB:aP prog f211=some acM:=by kernel_rfl
def abN:=(⟨_,by conv=>lhs;cbv⟩:Nf (aP prog f197))
def CV:bw:=(⟨_,by conv=>lhs;cbv⟩:Nf (dW abN.1 0 [])).1
def acV:bT:=(fun b0=>(⟨_,by conv=>lhs;cbv⟩:Nf (bW abN.1 [b0])).1) CV
theorem ajK:aP prog f197=some acV:=by kernel_rfl
def acN:bT:=(⟨_,by conv=>lhs;cbv⟩:Nf (bW (aP prog f210) [])).1
theorem ajC:aP prog f210=some acN:=by kernel_rfl
def adf:bT:=(⟨_,by conv=>lhs;cbv⟩:Nf (bW (aP prog f170) [])).1
theorem aj2:aP prog f170=some adf:=by kernel_rfl
end Go.Proofs.Tryz
namespace Go.Proofs.Tryz
open Go Go.Pm Go.Bt
open Go.Pm.V(u)
theorem Rn(x:It)(σ:ag):PC prog 203 [.agg x.cells] σ (fun r σ'=>r=.i .i64 (width x)∧σ'=σ):=by
 refine PC.intro func203 ajJ fun aQ cz=>aj ?_;simp only[acU,It.cells,SS,seval];simp only[W,seval];refine⟨fun h=>?_,fun h=>?_⟩
 ·exact aG aQ (.inr rfl) rfl (by simp only[LW]) (by simp at h;simp[one,width,h])
 ·exact aG aQ (.inr rfl) rfl (by simp only[LW]) (by simp at h;simp[one,width,h])
theorem VQ{σ:ag}{K:Exit→St→Prop}(its:List It)(aQ:bP σ)(hlen:its.length<2^63):∀ (rest pre:List It) (acc:Int),its=pre++rest →
  (K (.exit 0) ⟨[.sl 3 (its.map It.cells),u,.i .i64 0,.i .i64 (eZ acc rest),u,u,.sl 3 (its.map It.cells),.i .i64 its.length,.i .i64 its.length,.b false,u,u,u,u,u,u,u,u],σ⟩) →
  fO σ.length prog Hr K (rest.length+1) ⟨[.sl 3 (its.map It.cells),u,.i .i64 0,.i .i64 acc,u,u,.sl 3 (its.map It.cells),.i .i64 its.length,.i .i64 pre.length,u,u,u,u,u,u,u,u,u],σ⟩:=by
 intro rest
 induction rest with
 | nil =>
  intro pre acc he hK;subst he;refine ax fun R hR=>?_;simp only[Hr,W,seval];refine⟨fun h=>by simp at h,fun _=>?_⟩;simpa[eZ]using hK
 | cons x rest ih =>
  intro pre acc he hK;subst he;refine ax fun R hR=>?_;simp only[Hr,ki,It.cells,W,seval];refine⟨fun _=>⟨?_,?_⟩,fun h=>?_⟩
  ·simp;omega
  ·refine ai (Rn x _) rfl ?_;simp only[W,seval];refine hR _ ?_
   have hw:IntKind.i64.wrap ((pre.length:Int)+1)=(((pre++[x]).length:Nat):Int):=by
    rw[aV (by simp at hlen;omega)];simp
   rw[hw];refine rF (aB _) aQ ?_ ?_ (ih (pre++[x]) (IntKind.i64.wrap (acc+width x)) (by simp) ?_)
   ·repeat first | exact .nil | refine .cons (.refl _) ?_ | refine .cons (.forget _) ?_
   ·simp only[LW]
   ·simpa[eZ]using hK
  ·simp at h;omega
theorem P9(its:List It)(σ:ag):PC prog 161 [.sl 3 (its.map It.cells)] σ (fun r σ'=>r=.i .i64 (eZ 0 its)∧σ'=σ):=by
 refine PC.intro func161 akc fun aQ cz=>aj ?_
 have hlen:its.length<2^63:=by
  have:=lD (cz 0 _ rfl).1;simpa using this
 simp only[ado,SS,seval];simp only[List.length_map,W,seval];refine bA.pd (its.length+1) (VQ its aQ hlen its [] 0 (by simp) ?_);simp only[W,seval];exact aO (.inr rfl) rfl ⟨rfl,rfl⟩
theorem zY(x:bc)(σ:ag):PC prog 108 [.agg x.cells] σ (fun r σ'=>r=.i .i64 (if gf x then 0 else 1)∧σ'=σ):=by
 refine PC.intro func108 akK fun aQ cz=>aj ?_;simp only[adZ,bc.cells,SS,seval];simp only[W,seval];refine⟨fun h=>?_,fun h=>?_⟩
 ·exact aG aQ (.inr rfl) rfl (by simp only[LW]) (by simp at h;simp[one,gf];omega)
 ·exact aG aQ (.inr rfl) rfl (by simp only[LW]) (by simp at h;simp[one,gf,h])
theorem V7{σ:ag}{K:Exit→St→Prop}(s:List UInt8)(hlen:s.length<2^63):∀ (rest pre:List UInt8),s=pre++rest →
  (rest.all jg=true→∀ j0 j1 j2 j3 j4 j5 j6 j7 j8 j9 cT cS cX cR cN cM cL cW df dn dx dy dD dI dH dG dX ez eA eH eW fg fi ft fw fG fM fL fK fX gi gF gR gQ il ix iV iU iT iS iR,K (.exit 0) ⟨[j0,j1,j2,j3,j4,j5,j6,j7,j8,j9,cT,cS,cX,cR,cN,cM,cL,cW,df,dn,dx,dy,dD,dI,dH,dG,dX,ez,eA,eH,eW,fg,fi,ft,fw,fG,fM,fL,fK,fX,gi,gF,gR,gQ,il,ix,iV,iU,iT,iS,iR],σ⟩) →
  (rest.all jg=false→∀ j0 j1 j3 j4 j5 j6 j7 j8 j9 cT cS cX cR cN cM cL cW df dn dx dy dD dI dH dG dX ez eA eH eW fg fi ft fw fG fM fL fK fX gi gF gR gQ il ix iV iU iT iS iR,K .ret ⟨[j0,j1,.b false,j3,j4,j5,j6,j7,j8,j9,cT,cS,cX,cR,cN,cM,cL,cW,df,dn,dx,dy,dD,dI,dH,dG,dX,ez,eA,eH,eW,fg,fi,ft,fw,fG,fM,fL,fK,fX,gi,gF,gR,gQ,il,ix,iV,iU,iT,iS,iR],σ⟩) →
  fO σ.length prog HJ K (rest.length+1) ⟨[.s s,u,u,.i .i64 pre.length,u,u,u,u,u,u,u,u,u,u,u,u,u,u,u,u,u,u,u,u,u,u,u,u,u,u,u,u,u,u,u,u,u,u,u,u,u,u,u,u,u,u,u,u,u,u,u],σ⟩:=by
 intro rest
 induction rest with
 | nil =>
  intro pre he h1 h2;subst he;refine ax fun R hR=>?_;simp only[HJ,W,seval];exact⟨fun h=>by simp at h,fun _=>h1 rfl ..⟩
 | cons c rest ih =>
  intro pre he h1 h2;subst he;refine ax fun R hR=>?_;simp only[HJ,W,seval];refine⟨fun _=>⟨by simp;omega,fun h=>?_,fun h=>?_⟩,fun h=>by simp at h;omega⟩
  ·refine h2 ?_ ..;simp only[kM,Bool.and_eq_false_iff];left;simp at h;simp[jg];omega
  ·refine hR _ (aW (fr':=[.s (pre++c::rest),u,u,.i .i64 (pre++[c]).length,u,u,u,u,u,u,u,u,u,u,u,u,u,u,u,u,u,u,u,u,u,u,u,u,u,u,u,u,u,u,u,u,u,u,u,u,u,u,u,u,u,u,u,u,u,u,u]) ?_ (ih (pre++[c]) (by simp) (fun h2=>h1 ?_) (fun h3=>h2 ?_)))
   ·rw[aV (by simp at hlen;omega)];simp only[List.length_append,ab,ah]
    repeat first | exact .nil | refine .cons (.refl _) ?_ | refine .cons (.forget _) ?_
   ·simp[h2];simp at h;simp[jg];omega
   ·simp[h3]
theorem iY(v:List Int)(o:Int)(σ:ag):PC prog 30 [.sl 1 (v.map bj),.i .i64 o] σ (fun r σ'=>r=.i .i64 (je v o)∧σ'=σ):=by
 refine PC.intro func30 c30 fun aQ cz=>aj ?_;simp only[p30,SS,seval];simp only[W,seval];refine⟨fun h=>?_,fun h=>?_⟩
 ·refine aO (.inr rfl) rfl ?_;simp at h;simp only[one,aE,aT,V.i.injEq,true_and,and_true,je];rw[if_pos (by omega)]
 ·simp at h;have hl:o.toNat<v.length:=by omega
  rw[qv hl];simp only[W,seval];refine⟨by simp;omega,aO (.inr rfl) rfl ?_⟩;simp only[one,je,aE,aT,V.i.injEq,true_and,and_true];rw[if_neg (show ¬ (o<0∨(v.length:Int)≤o∨8≤o)by omega)]
theorem Ku(n:Int)(σ:ag):PC prog 160 [.i .i64 n] σ (fun r σ'=>r=.b false∧σ'=σ):=by
 refine PC.intro func160 akd fun aQ cz=>aj ?_;simp only[adp,SS,seval];simp only[W,seval];exact aO (.inr rfl) rfl (by simp[one])
theorem pD(a b:Int)(σ:ag):PC prog 102 [.i .i64 a,.i .i64 b] σ (fun r σ'=>r=.i .i64 (eV a b)∧σ'=σ):=by
 refine PC.intro func102 akQ fun aQ cz=>aj ?_;simp only[ad5,SS,seval];simp only[W,seval];refine ai (Ku a _) rfl ?_;simp only[W,seval];refine ai (Ku b _) rfl ?_;simp only[W,seval];refine⟨fun h=>?_,fun h=>⟨fun h2=>?_,fun h2=>?_⟩⟩<;>refine aO (.inr rfl) rfl ?_<;>simp at h<;>(try simp at h2)<;>simp only[one,eV,aE,aT,V.i.injEq,true_and,and_true]<;>(repeat' split)<;>omega
theorem Wa{σ:ag}{K:Exit→St→Prop}(l:List Int)(hlen:l.length<2^63):∀ (rest pre:List Int),l=pre++rest →
  (rz rest=0→(∀ j0 j1 j2 j4 j5 j6 j7 j8 j9 cT cS cX cR cN cM cL cW,K (.exit 0) ⟨[j0,j1,j2,.i .i64 0,j4,j5,j6,j7,j8,j9,cT,cS,cX,cR,cN,cM,cL,cW],σ⟩))→(rz rest≠0→(∀ j0 j1 j3 j4 j5 j6 j7 j8 j9 cT cS cX cR cN cM cL cW,K .ret ⟨[j0,j1,.i .i64 (rz rest),j3,j4,j5,j6,j7,j8,j9,cT,cS,cX,cR,cN,cM,cL,cW],σ⟩)) →
  fO σ.length prog HN K (rest.length+1) ⟨[u,u,u,.i .i64 0,u,u,.sl 1 (l.map bj),.i .i64 l.length,.i .i64 pre.length,u,u,u,u,u,u,u,u,u],σ⟩:=by
 intro rest
 induction rest with
 | nil =>
  intro pre he h1 h2;subst he;refine ax fun R hR=>?_;simp only[HN,W,seval];exact⟨fun h=>by simp at h,fun _=>h1 rfl ..⟩
 | cons c rest ih =>
  intro pre he h1 h2;subst he;refine ax fun R hR=>?_;simp only[HN,W,seval];simp only[bj,W,seval];refine⟨fun _=>⟨by simp;omega,fun h=>?_,fun h=>?_⟩,fun h=>by simp at h;omega⟩
  ·simp at h;have e:rz (c::rest)=c:=by simp[rz,h]
   rw[e]at h2;exact h2 h ..
  ·simp at h;have e:rz (c::rest)=rz rest:=by simp[rz,h]
   rw[e]at h1 h2;refine hR _ (aW ?_ (ih (pre++[c]) (by simp) h1 h2));rw[aV (by simp at hlen;omega)];simp only[List.length_append,ab,ah]
   repeat' constructor
theorem Mi(l:List Int)(σ:ag):PC prog 101 [.sl 1 (l.map bj)] σ (fun r σ'=>r=.i .i64 (rz l)∧σ'=σ):=by
 refine PC.intro func101 akR fun aQ cz=>aj ?_;have hlen:l.length<2^63:=by simpa using lD (cz 0 _ rfl).1
 simp only[ad6,SS,seval];simp only[List.length_map,W,seval];refine bA.aW ?_ (l.length+1) (Wa l hlen l [] (by simp) ?_ ?_)
 ·repeat' constructor
 ·intro h;simp only[W,seval];intros;exact aO (.inr rfl) rfl (by simp[one,h])
 ·intro h;simp only[W,seval];intros;exact aO (.inr rfl) rfl ⟨rfl,rfl⟩
theorem BF(a b:bc)(σ:ag):PC prog 238 [.agg a.cells,.agg b.cells] σ (fun r σ'=>r=.i .i64 (iq a b)∧σ'=σ):=by
 refine PC.intro func238 ajj fun aQ cz=>aj ?_;simp only[acv,bc.cells,SS,seval];simp only[W,seval];refine ai (pD _ _ _) rfl ?_;simp only[W,seval];refine ai (pD _ _ _) rfl ?_;simp only[W,seval];refine ai (pD _ _ _) rfl ?_;simp only[W,seval];refine ic (zs:=[.sl 1 ([eV a.time b.time,eV a.aS b.aS,eV a.number b.number].map bj)]) (.cons (.lit _ _) .nil) (Mi _ _) ?_;simp only[W,seval];exact aG aQ (.inr rfl) rfl (by simp only[LW]) ⟨rfl,rfl⟩
theorem HX{σ:ag}{K:Exit→St→Prop}(aQ:bP σ)(a b:List Int):∀ (k n:Nat),n+k=8 →
  (∀ j0 j1 j2 j3 j6 j7 j8 j9 cT cS cX cR cN cM cL cW df dn dx dy dD dI dH dG dX ez eA eH,K (.exit 0) ⟨[j0,j1,j2,j3,.own σ.length 8,.i .i64 (fq a b 8),j6,j7,j8,j9,cT,cS,cX,cR,cN,cM,cL,cW,df,dn,dx,dy,dD,dI,dH,dG,dX,ez,eA,eH],σ++[.row 3 1 8 8 false ((jh a b 8).map bj)]⟩) →
  fO σ.length prog HF K (k+1) ⟨[.sl 1 (a.map bj),.sl 1 (b.map bj),u,u,.own σ.length n,.i .i64 (fq a b n),u,u,.i .i64 n,u,u,u,u,u,u,u,u,u,u,u,u,u,u,u,u,u,u,u,u,u],σ++[.row 3 1 8 n false ((jh a b n).map bj)]⟩
 | 0,n,he,h1=>by
  have:n=8:=by omega
  subst this;refine ax fun R hR=>?_;simp only[HF,W,seval];refine⟨fun h=>by simp at h,fun _=>h1 ..⟩
 | k+1,n,he,h1=>by
  refine ax fun R hR=>?_;simp only[HF,W,seval];refine⟨fun _=>?_,fun h=>by simp at h;omega⟩;refine ai (iY a n _) rfl ?_;simp only[W,seval];refine ai (iY b n _) rfl ?_;simp only[W,seval];have hw:=aV (n:=n) (by omega);have uZ:(jh a b n).map bj++[[V.i .i64 (if je a n<je b n then je b n else je a n)]]=(jh a b (n+1)).map bj:=by simp[wF,bj]
  simp only[uZ,hw];refine⟨?_,fun h=>?_,fun h=>?_⟩
  ·simp only[List.length_map,lr,maxLen];omega
  ·have e:fq a b (n+1)=n+1:=by simp at h;simp[fq,h]
   refine hR _ (aW ?_ (HX aQ a b k (n+1) (by omega) h1));rw[e]
   repeat' constructor
  ·have e:fq a b (n+1)=fq a b n:=by simp at h;simp[fq,h]
   refine hR _ (aW ?_ (HX aQ a b k (n+1) (by omega) h1));rw[e]
   repeat' constructor
theorem GD:Ti prog 3 1 8:=nR (by kernel_rfl)
theorem Rp(a b:List Int)(σ:ag):PC prog 121 [.sl 1 (a.map bj),.sl 1 (b.map bj)] σ (fun r σ'=>r=.sl 1 ((nc a b).map bj)∧σ'=σ):=by
 refine PC.intro func121 akC fun aQ cz=>aj ?_;simp only[adO,SS,seval];simp only[W,seval];refine bA.wk ((Wk.gZ (k:=4) GD rfl).trans (Wk.ej ?_)) (bA.pd 9 (HX aQ a b 8 0 (by omega) ?_))
 ·simp only[W,seval]
  repeat' constructor
 ·intros;simp only[W,seval];refine⟨?_,?_⟩
  ·have:fq a b 8≤8:=lP a b 8;simp only[List.length_map,lr];omega
  ·refine gg 0 aQ (.inr rfl) rfl rfl ?_ ?_
   ·simp[fz,kc,gM,uG]
   ·simp[fz,kc,one,nc]
theorem I6(a:List Int)(σ:ag):PC prog 66 [.sl 1 (a.map bj)] σ (fun r σ'=>r=.sl 1 ((nc a []).map bj)∧σ'=σ):=by
 refine PC.intro func66 c66 fun aQ cz=>aj ?_;simp only[p66,SS,seval];simp only[W,seval];refine ic (zs:=[.sl 1 (a.map bj),.sl 1 (([]:List Int).map bj)]) (.cons (.refl _) (.cons (.nil _) .nil)) (Rp a [] _) ?_;simp only[W,seval];exact aO (.inr rfl) rfl ⟨rfl,rfl⟩
theorem yn(l:List UInt8)(c:UInt8)(σ:ag):PC prog 233 [.s l,.i .u8 c.toNat] σ (fun r σ'=>r=.i .i64 (Lib.indexByte l c)∧σ'=σ):=by
 refine PC.B5 fun w μ vs hv=>?_;obtain⟨x,hx,hl,_⟩:=(hv.2 0 _ rfl).nO;have hc:=(hv.2 1 _ rfl).iP;refine⟨.int .i64 (Lib.indexByte l c),?_,.i _ _⟩;rw[vs2 hv.1,hx,hc];refine(Tryz.nM x c.toNat w).mono ?_;rintro e w' ⟨rfl,rfl⟩;refine⟨?_,rfl⟩;rw[hl];have:((c.toNat:Int).toNat).toUInt8=c:=by simp
 rw[this]
theorem sP(l:List UInt8)(c:UInt8)(σ:ag):PC prog 209 [.s l,.i .u8 c.toNat] σ (fun r σ'=>r=.i .i64 (Lib.indexByte l c)∧σ'=σ):=by
 refine PC.intro func209 ajD fun aQ cz=>aj ?_;simp only[acO,SS,seval];simp only[W,seval];refine ai (yn l c _) rfl ?_;simp only[W,seval];exact aO (.inr rfl) rfl ⟨rfl,rfl⟩
theorem Ey(l:List UInt8)(c:UInt8)(σ:ag):PC prog 259 [.s l,.s [c]] σ (fun r σ'=>r=.i .i64 (Lib.indexByte l c)∧σ'=σ):=by
 refine PC.B5 fun w μ vs hv=>?_;obtain⟨x,hx,hl,_⟩:=(hv.2 0 _ rfl).nO;obtain⟨y,hy,hly,_⟩:=(hv.2 1 _ rfl).nO;refine⟨.int .i64 (Lib.indexByte l c),?_,.i _ _⟩
 have e:y=⟨#[c]⟩:=by
  have h:y.data=#[c]:=by apply Array.toList_inj.1;rw[hly]
  cases y;simp_all
 rw[vs2 hv.1,hx,hy,e];refine(Tryz.nL x c w).mono ?_;rintro e w' ⟨rfl,rfl⟩;exact⟨by rw[hl],rfl⟩
theorem Jp(l:List UInt8)(c:UInt8)(σ:ag):PC prog 242 [.s l,.s [c]] σ (fun r σ'=>r=.iK [.s (cutAt l c).1,.s (cutAt l c).2.1,.b (cutAt l c).2.2]∧σ'=σ):=by
 refine PC.intro func242 ajh fun aQ cz=>aj ?_;simp only[acu,SS,seval];simp only[W,seval];refine ai (Ey l c _) rfl ?_;simp only[W,Int.reduceToNat,reduceIte];have h1:=lY l c;have h3:=Er (cz 0 _ rfl).1;refine⟨fun h=>?_,fun h=>?_⟩
 ·simp only[decide_eq_true_eq]at h;have h2:IntKind.i64.wrap (Lib.indexByte l c+((1:Nat):Int))=Lib.indexByte l c+1:=IntWalk.i64_in _ (by omega);rw[h2];refine⟨by omega,by omega,aO (.inr rfl) rfl ⟨?_,rfl⟩⟩;have h4:(Lib.indexByte l c+1).toNat=(Lib.indexByte l c).toNat+1:=by omega
  have h5:(l.drop ((Lib.indexByte l c).toNat+1)).take (l.length - ((Lib.indexByte l c).toNat+1))=l.drop ((Lib.indexByte l c).toNat+1):=bJ (by simp);simp only[one,cutAt,h,if_true,h4,h5,QZ,aE,aT]
 ·simp only[decide_eq_false_iff_not]at h;exact aO (.inr rfl) rfl ⟨by simp only[one,cutAt,h,if_false,aE,aT],rfl⟩
theorem DX(l:List UInt8)(c:UInt8)(σ:ag):PC prog 230 [.s l,.s [c]] σ (fun r σ'=>r=.iK [.s (cutAt l c).1,.s (cutAt l c).2.1,.b (cutAt l c).2.2]∧σ'=σ):=by
 refine PC.intro func230 ajp fun aQ cz=>aj ?_;simp only[acB,SS,seval];simp only[W,seval];refine ai (Jp l c _) rfl ?_;simp only[W,seval];exact aO (.inr rfl) rfl ⟨rfl,rfl⟩
theorem yp(l p:List UInt8)(σ:ag):PC prog 244 [.s l,.s p] σ (fun r σ'=>r=.b (hasPrefix l p)∧σ'=σ):=by
 refine PC.intro func244 ajg fun aQ cz=>aj ?_;simp only[acs,SS,seval];simp only[W,seval];refine⟨fun h=>by simp at h;omega,aO (.inr rfl) rfl ⟨?_,rfl⟩⟩;simp[one,hasPrefix]
theorem Iq(l p:List UInt8)(σ:ag):PC prog 234 [.s l,.s p] σ (fun r σ'=>r=.b (hasPrefix l p)∧σ'=σ):=by
 refine PC.intro func234 ajm fun aQ cz=>aj ?_;simp only[acy,SS,seval];simp only[W,seval];refine ai (yp l p _) rfl ?_;simp only[W,seval];exact aO (.inr rfl) rfl ⟨rfl,rfl⟩
theorem yo(l p:List UInt8)(σ:ag):PC prog 245 [.s l,.s p] σ (fun r σ'=>r=.b (hasSuffix l p)∧σ'=σ):=by
 refine PC.intro func245 ajf fun aQ cz=>aj ?_;simp only[acr,SS,seval];simp only[W,seval];have h3:=Er (cz 0 _ rfl).1;have h4:=Er (cz 1 _ rfl).1;have h2:IntKind.i64.wrap ((l.length:Int) - (p.length:Int))=l.length - p.length:=IntWalk.i64_in _ (by omega);rw[h2];refine⟨fun h=>by simp at h;omega,aO (.inr rfl) rfl ⟨?_,rfl⟩⟩;simp only[one,hasSuffix,aE,aT]
 by_cases hle:p.length≤l.length
 ·have e:((l.length:Int) - (p.length:Int)).toNat=l.length - p.length:=by omega
  have h5:(l.drop (l.length - p.length)).take (l.length - (l.length - p.length))=l.drop (l.length - p.length):=bJ (by simp);simp[e,h5,hle]
 ·simp[hle]
theorem Im(l p:List UInt8)(σ:ag):PC prog 235 [.s l,.s p] σ (fun r σ'=>r=.b (hasSuffix l p)∧σ'=σ):=by
 refine PC.intro func235 ajl fun aQ cz=>aj ?_;simp only[acx,SS,seval];simp only[W,seval];refine ai (yo l p _) rfl ?_;simp only[W,seval];exact aO (.inr rfl) rfl ⟨rfl,rfl⟩
theorem Kr(l:List UInt8)(σ:ag):PC prog 205 [.s l] σ (fun r σ'=>r=.s (dm l)∧σ'=σ):=by
 refine PC.intro func205 ajH fun aQ cz=>aj ?_;simp only[acS,SS,seval];simp only[W,seval];refine ai (DX l 32 _) rfl ?_;simp only[W,seval];exact aO (.inr rfl) rfl ⟨rfl,rfl⟩
theorem BO(l:List UInt8)(σ:ag):PC prog 212 [.s l] σ (fun r σ'=>r=.s (dm l)∧σ'=σ):=by
 refine PC.intro func212 ajA fun aQ cz=>aj ?_;simp only[acL,SS,seval];simp only[W,seval];refine ai (DX l 32 _) rfl ?_;simp only[W,seval];exact aO (.inr rfl) rfl ⟨rfl,rfl⟩
set_option maxRecDepth 8000 in
theorem D6(b:UInt8)(σ:ag):PC prog 232 [.i .u8 b.toNat] σ (fun r σ'=>r=.i .i64 (l0 b)∧σ'=σ):=by
 refine PC.intro func232 ajn fun aQ cz=>aj ?_;simp only[acz,SS,seval];simp only[W,seval];clear cz aQ;refine⟨fun h1=>?_,fun h1=>⟨fun h2=>?_,fun h2=>⟨fun h3=>?_,fun h3=>⟨fun h4=>?_,fun h4=>?_⟩⟩⟩⟩<;>refine aO (.inr rfl) rfl ⟨?_,rfl⟩<;>simp at*<;> simp only[one,l0,V.i.injEq,true_and]<;>(repeat' split)<;>omega
theorem oa(s:List UInt8)(σ:ag):PC prog 107 [.s s] σ (fun r σ'=>r=.b (isName s)∧σ'=σ):=by
 refine PC.intro func107 akL fun aQ cz=>aj ?_;have hlen:=Er (cz 0 _ rfl).1;simp only[ad0,SS,seval];simp only[W,seval];refine⟨?_,?_,fun h=>?_,fun h=>?_⟩
 ·intro h;simp at h;omega
 ·intro h;simp at h;omega
 ·refine aO (.inr rfl) rfl ⟨?_,rfl⟩;simp only[one,aE,aT,V.b.injEq];cases s with
  | nil=>rfl
  | cons c r =>
   simp only[isName];simp at h;simp;omega
 ·cases s with
  | nil=>simp at h
  | cons c r =>
   have e:isName (c::r)=r.all jg:=by
    simp only[isName];simp at h;simp;omega
   refine bA.aW ?_ (r.length+1) (V7 (c::r) hlen r [c] rfl (fun h1=>?_) (fun h1=>?_))
   ·simp only[W,seval]
    repeat' constructor
   ·simp only[W,seval];intros;exact aO (.inr rfl) rfl ⟨by simp only[one,e,h1,aE,aT],rfl⟩
   ·simp only[W,seval];intros;exact aO (.inr rfl) rfl ⟨by simp only[one,e,h1,aE,aT],rfl⟩
theorem uX(x:It)(σ:ag):PC prog 163 [.agg x.cells] σ (fun r σ'=>r=.b (cI x)∧σ'=σ):=by
 refine PC.intro func163 aka fun aQ cz=>aj ?_;simp only[adm,It.cells,SS,seval];simp only[W,seval];exact aG aQ (.inr rfl) rfl (by simp only[LW]) ⟨rfl,rfl⟩
theorem QV{pre rest:List Int}{x:Int}:fe (List.map bj (pre++x::rest)) pre.length 0=some (.i .i64 x):=by
 simp[fe,bj]
theorem Oj{σ:ag}{K:Exit→St→Prop}(a b:List Int)(hlen:a.length<2^63)(tD:a.length=b.length):∀ (ra rb pa pb:List Int),a=pa++ra→b=pb++rb→pa.length=pb.length →
  (ra=rb→(∀ j0 j1 j2 j3 j4 j5 j6 j7 j8 j9 cT cS cX cR cN cM cL cW df dn dx dy dD dI dH dG,K (.exit 0) ⟨[j0,j1,j2,j3,j4,j5,j6,j7,j8,j9,cT,cS,cX,cR,cN,cM,cL,cW,df,dn,dx,dy,dD,dI,dH,dG],σ⟩))→(ra≠rb→(∀ j0 j1 j2 j3 j5 j6 j7 j8 j9 cT cS cX cR cN cM cL cW df dn dx dy dD dI dH dG,K .ret ⟨[j0,j1,j2,j3,.b false,j5,j6,j7,j8,j9,cT,cS,cX,cR,cN,cM,cL,cW,df,dn,dx,dy,dD,dI,dH,dG],σ⟩)) →
  fO σ.length prog HI K (ra.length+1) ⟨[.sl 1 (a.map bj),.sl 1 (b.map bj),u,u,u,u,u,u,u,u,u,u,.i .i64 a.length,.i .i64 pa.length,u,u,u,u,u,u,u,u,u,u,u,u],σ⟩
 | [],rb,pa,pb,ha,hb,hp,h1,h2=>by
  have:rb=[]:=by
   subst ha;subst hb;simp at tD;have:rb.length=0:=by omega
   exact mc.1 this
  subst this;subst ha;refine ax fun R hR=>?_;simp only[HI,W,seval];exact⟨fun h=>by simp at h,fun _=>h1 rfl ..⟩
 | x::ra,[],pa,pb,ha,hb,hp,h1,h2=>by
  subst ha;subst hb;simp at tD;omega
 | x::ra,y::rb,pa,pb,ha,hb,hp,h1,h2=>by
  subst ha;subst hb;refine ax fun R hR=>?_;have dY:fe (List.map bj (pb++y::rb)) pa.length 0=some (.i .i64 y):=by rw[hp];exact QV
  simp only[HI,dY,bj,W,seval];refine⟨fun _=>⟨by simp;omega,by simp;omega,fun h=>?_,fun h=>?_⟩,fun h=>by simp at h;omega⟩
  ·simp at h;exact h2 (by simp[h]) ..
  ·simp at h;subst h;refine hR _ (aW ?_ (Oj _ _ hlen tD ra rb (pa++[x]) (pb++[x]) (by simp) (by simp) (by simp[hp]) (fun e=>h1 (by rw[e])) (fun e=>h2 (by simp[e]))));rw[aV (by simp at hlen;omega)];simp only[List.length_append,ab,ah]
   repeat' constructor
theorem Iy(a b:List Int)(σ:ag):PC prog 109 [.sl 1 (a.map bj),.sl 1 (b.map bj)] σ (fun r σ'=>r=.b (a==b)∧σ'=σ):=by
 refine PC.intro func109 akJ fun aQ cz=>aj ?_;have hlen:=lD (cz 0 _ rfl).1;rw[List.length_map]at hlen;simp only[adY,SS,seval];simp only[List.length_map,W,seval];refine⟨fun h=>?_,fun h=>?_⟩
 ·refine aO (.inr rfl) rfl ⟨?_,rfl⟩;simp at h;simp only[one,aE,aT,V.b.injEq];exact(beq_eq_false_iff_ne.2 fun e=>h (by rw[e])).symm
 ·simp at h;refine bA.aW ?_ (a.length+1) (Oj a b hlen (by omega) a b [] [] rfl rfl rfl (fun h1=>?_) (fun h1=>?_))
  ·simp only[W,seval]
   repeat' constructor
  ·simp only[W,seval];intros;exact aO (.inr rfl) rfl ⟨by simp[one,h1],rfl⟩
  ·simp only[W,seval];intros;exact aO (.inr rfl) rfl ⟨by simp[one,h1],rfl⟩
theorem VE{σ:ag}{K:Exit→St→Prop}(s:List UInt8)(hlen:s.length<2^63):∀ (rest pre:List UInt8),s=pre++rest →
  (rest.all (fun b=>!gJ b)=true→(∀ j1 j2 j3 j4 j5 j6 j7 j8 j9 cT cS cX cR cN cM cL cW df dn dx dy dD dI dH dG dX ez eA eH eW fg fi ft fw fG fM fL fK fX gi gF gR gQ il ix iV iU iT iS iR jo jn jm jK jY kx ku kt kH lB l9 mD,K (.exit 0) ⟨[.s s,j1,j2,j3,j4,j5,j6,j7,j8,j9,cT,cS,cX,cR,cN,cM,cL,cW,df,dn,dx,dy,dD,dI,dH,dG,dX,ez,eA,eH,eW,fg,fi,ft,fw,fG,fM,fL,fK,fX,gi,gF,gR,gQ,il,ix,iV,iU,iT,iS,iR,jo,jn,jm,jK,jY,kx,ku,kt,kH,lB,l9,mD],σ⟩))→(rest.all (fun b=>!gJ b)=false→(∀ j0 j1 j3 j4 j5 j6 j7 j8 j9 cT cS cX cR cN cM cL cW df dn dx dy dD dI dH dG dX ez eA eH eW fg fi ft fw fG fM fL fK fX gi gF gR gQ il ix iV iU iT iS iR jo jn jm jK jY kx ku kt kH lB l9 mD,K .ret ⟨[j0,j1,.b false,j3,j4,j5,j6,j7,j8,j9,cT,cS,cX,cR,cN,cM,cL,cW,df,dn,dx,dy,dD,dI,dH,dG,dX,ez,eA,eH,eW,fg,fi,ft,fw,fG,fM,fL,fK,fX,gi,gF,gR,gQ,il,ix,iV,iU,iT,iS,iR,jo,jn,jm,jK,jY,kx,ku,kt,kH,lB,l9,mD],σ⟩)) →
  fO σ.length prog He K (rest.length+1) ⟨[.s s,u,u,.i .i64 pre.length,u,u,u,u,u,u,u,u,u,u,u,u,u,u,u,u,u,u,u,u,u,u,u,u,u,u,u,u,u,u,u,u,u,u,u,u,u,u,u,u,u,u,u,u,u,u,u,u,u,u,u,u,u,u,u,u,u,u,u],σ⟩:=by
 intro rest
 induction rest with
 | nil =>
  intro pre he h1 h2;have he:s=pre:=by simpa using he
  subst he;refine ax fun R hR=>?_;simp only[He,W,seval];exact⟨fun h=>by simp at h,fun _=>h1 rfl ..⟩
 | cons c rest ih =>
  intro pre he h1 h2;subst he;refine ax fun R hR=>?_;simp only[He,W,seval];refine⟨fun _=>⟨by simp;omega,fun _=>by simp;omega,fun _=>by simp;omega,?_⟩,fun h=>by simp at h;omega⟩;refine bg rfl (fun _=>sP [60,62,123,125] c _) rfl ?_;simp only[W,seval]
  have e:(decide ((c.toNat:Int)<32)||decide (126<(c.toNat:Int))||decide (0≤Lib.indexByte [60,62,123,125] c))=gJ c:=by
   simp only[gJ];congr 2<;>exact decide_eq_decide.2 (by omega)
  rw[e];refine⟨fun h=>?_,fun h=>?_⟩
  ·exact h2 (by simp[h]) ..
  ·refine hR _ (aW ?_ (ih (pre++[c]) (by simp) (fun e=>h1 (by simp[h,e])) (fun e=>h2 (by simp only[kM,e,yf]))));rw[aV (by simp at hlen;omega)];simp only[List.length_append,ab,ah]
   repeat' constructor
theorem pz(s:List UInt8)(σ:ag):PC prog 204 [.s s] σ (fun r σ'=>r=.b (db s)∧σ'=σ):=by
 refine PC.intro func204 ajI fun aQ cz=>aj ?_;have hlen:=Er (cz 0 _ rfl).1;simp only[acT,SS,seval];simp only[W,seval];have hm:∀ n:Nat,n<2^63→0<n→IntKind.i64.wrap ((n:Int) - 1)=((n - 1:Nat):Int):=fun n h1 h2=>by rw[IntWalk.i64_in _ (by omega)];omega
 have iQ:∀ h:s.length≠0,IntKind.i64.wrap ((s.length:Int) - 1)=((s.length - 1:Nat):Int):=fun h=>hm _ hlen (by omega)
 by_cases h0:s.length=0
 ·refine⟨fun h=>by simp[h0]at h,fun _=>?_,fun h=>by simp[h0]at h⟩;exact aO (.inr rfl) rfl ⟨by simp[one,db,jz,h0],rfl⟩
 ·rw[iQ h0];refine⟨fun _=>by omega,fun h=>?_,fun h=>?_⟩
  ·refine aO (.inr rfl) rfl ⟨?_,rfl⟩
   have e:jz s=false:=by
    simp only[jz];simp[h0]at h ⊢;omega
   simp only[one,db,e,gV,aE,aT]
  ·have e:jz s=true:=by
    simp only[jz];simp[h0]at h ⊢;omega
   refine bA.aW ?_ (s.length+1) (VE s hlen s [] rfl (fun h1=>?_) (fun h1=>?_))
   ·simp only[W,seval]
    repeat' constructor
   ·intros;simp only[W,seval];refine ai (DX s 32 _) rfl ?_;simp only[W,seval];refine ai (oa _ _) rfl ?_;simp only[W,seval];refine aO (.inr rfl) rfl ⟨?_,rfl⟩;simp only[one,db,e,h1,kS,dM,aE,aT];congr 3;exact decide_eq_decide.2 (by omega)
   ·intros;simp only[W,seval];exact aO (.inr rfl) rfl ⟨by simp only[one,db,e,h1,dM,gV,aE,aT],rfl⟩
theorem VP{σ:ag}{K:Exit→St→Prop}(x:It)(its:List It)(aQ:bP σ)(hlen:its.length<2^63):∀ (rest pre:List It),its=pre++rest →
  (fits rest x=true→(∀ j0 j1 j2 j3 j4 j5 j6 j7 j8 j9 cT cS cX cR cN cM cL cW df dn dx dy dD dI dH dG dX ez eA eH eW fg fi ft fw fG fM fL fK fX,K (.exit 0) ⟨[j0,j1,j2,j3,j4,j5,j6,j7,j8,j9,cT,cS,cX,cR,cN,cM,cL,cW,df,dn,dx,dy,dD,dI,dH,dG,dX,ez,eA,eH,eW,fg,fi,ft,fw,fG,fM,fL,fK,fX],σ++[.box 76 x.cells]⟩))→(fits rest x=false→∀ loc,(∀ j0 j1 j2 j3 j5 j6 j7 j8 j9 cT cS cX cR cN cM cL cW df dn dx dy dD dI dH dG dX ez eA eH eW fg fi ft fw fG fM fL fK fX,K .ret ⟨[j0,j1,j2,j3,.b false,j5,j6,j7,j8,j9,cT,cS,cX,cR,cN,cM,cL,cW,df,dn,dx,dy,dD,dI,dH,dG,dX,ez,eA,eH,eW,fg,fi,ft,fw,fG,fM,fL,fK,fX],σ++loc⟩)) →
  fO σ.length prog Hq K (rest.length+1) ⟨[u,u,u,.ptr σ.length 0,u,u,u,.sl 3 (its.map It.cells),.i .i64 its.length,.i .i64 pre.length,u,u,u,u,u,u,u,u,u,u,u,u,u,u,u,u,u,u,u,u,u,u,u,u,u,u,u,u,u,u],σ++[.box 76 x.cells]⟩:=by
 intro rest
 induction rest with
 | nil =>
  intro pre he h1 h2;have he:its=pre:=by simpa using he
  subst he;refine ax fun R hR=>?_;simp only[Hq,W,seval];exact⟨fun h=>by simp at h,fun _=>h1 rfl ..⟩
 | cons y rest ih =>
  intro pre he h1 h2;subst he;refine ax fun R hR=>?_;simp only[Hq,It.cells,W,seval];refine⟨fun _=>⟨by simp;omega,?_⟩,fun h=>by simp at h;omega⟩;refine ai (uX y _) rfl ?_;simp only[W,seval];have qG:bP (σ++[.box 76 x.cells]):=bU aQ (by simp[It.cells,gM,Vs,aed])
  have back:fits (y::rest) x=fits rest x→∀ fr',pH fr' ([u,u,u,.ptr σ.length 0,u,u,u,.sl 3 ((pre++y::rest).map It.cells),.i .i64 (pre++y::rest).length,.i .i64 (pre++[y]).length,u,u,u,u,u,u,u,u,u,u,u,u,u,u,u,u,u,u,u,u,u,u,u,u,u,u,u,u,u,u])→∀ o,R ⟨fr',σ++[.box 76 x.cells,o]⟩:=by
   intro e fr' hc o;rw[e]at h1 h2;refine hR _ (cH [.box 76 x.cells] [o] qG hc ?_ (ih (pre++[y]) (by simp) h1 h2));simp only[LW,ab,ah,aK];omega
  refine⟨fun h=>?_,fun h=>?_⟩
  ·refine back ?_ _ ?_ _
   ·have:fa x y=false:=by simp only[fa,h,gU,gV]
    simp[fits,this]
   ·rw[aV (by simp at hlen;omega)];simp only[List.length_append,ab,ah]
    repeat' constructor
  ·refine bg rfl (fun _=>Kr y.text _) rfl ?_;simp only[W,seval];refine⟨fun h3=>?_,fun h3=>?_⟩
   ·refine h2 ?_ _ ..;have:fa x y=true:=by simp only[fa,h,jS,dM];exact h3
    simp[fits,this]
   ·refine back ?_ _ ?_ _
    ·have:fa x y=false:=by simp only[fa,h,jS,dM];exact h3
     simp[fits,this]
    ·rw[aV (by simp at hlen;omega)];simp only[List.length_append,ab,ah]
     repeat' constructor
theorem Xd(x:It)(its:List It)(σ:ag):PC prog 164 [.sl 3 (its.map It.cells),.agg x.cells] σ (fun r σ'=>r=.b (fits its x)∧σ'=σ):=by
 refine PC.intro func164 aj9 fun aQ cz=>aj ?_;have hlen:=lD (cz 0 _ rfl).1;rw[List.length_map]at hlen;simp only[adl,SS,seval];simp only[List.length_map,W,seval];refine⟨by simp[It.cells,hY,jv],?_⟩;refine bA.aW ?_ (its.length+1) (VP x its aQ hlen its [] rfl (fun h1=>?_) (fun h1=>?_))
 ·simp only[W,seval]
  repeat' constructor
 ·intros;simp only[W,seval];exact aG aQ (.inr rfl) rfl (by simp only[LW]) ⟨by simp[one,h1],rfl⟩
 ·intros;simp only[W,seval];exact aG aQ (.inr rfl) rfl (by simp only[LW]) ⟨by simp[one,h1],rfl⟩
set_option maxRecDepth 8000 in
theorem Es(pre rest:List It)(x:It)(σ:ag):PC prog 162 [.sl 3 ((pre++x::rest).map It.cells),.i .i64 pre.length] σ (fun r σ'=>r=.b (bB pre.getLast? x)∧σ'=σ):=by
 refine PC.intro func162 akb fun aQ cz=>aj ?_;have hlen:=lD (cz 0 _ rfl).1;rw[List.length_map]at hlen;simp only[adn,SS,seval];simp only[It.cells,W,seval];refine⟨by simp;omega,fun hk=>?_,fun hk=>⟨fun tK=>?_,fun tK=>?_⟩⟩
 ·simp only[beq_iff_eq]at hk
  have hp:∀ y ys,pre=ys++[y]→IntKind.i64.wrap ((pre.length:Int) - 1)=ys.length:=fun y ys e=>by
   subst e;have:(ys++[y]).length<2^63:=by simp at hlen ⊢;omega
   rw[IntWalk.i64_in _ (by omega)];simp
  rcases dQ pre with Tc | ⟨ys,y,B9⟩
  ·subst Tc;refine⟨fun h=>by simp at h,.i .i64 0,fun h=>by simp at h,?_⟩;simp only[W,seval];refine aG aQ (.inr rfl) rfl (by simp only[LW]) ⟨?_,rfl⟩;simp[one,bB,hk]
  ·rw[dt]at B9;rw[hp y ys B9];subst B9
   have dY:fe (List.map It.cells (ys++[y]++x::rest)) ys.length 0=some (.i .i64 y.kind):=by
    rw[List.append_assoc,r8,lU];rfl
   simp only[an,dY];refine⟨fun _=>by simp;omega,.i .i64 y.kind,fun _=>⟨True,rfl,trivial⟩,?_⟩;simp only[W,seval];refine aG aQ (.inr rfl) rfl (by simp only[LW]) ⟨?_,rfl⟩;have iQ:(((ys++[y]).length:Int)==0)=false:=by simp;omega
   simp only[one,bB,hk,iQ,if_true,aE,aT,iH,gd,ma,kN]
 ·refine ai (oa _ _) rfl ?_;simp only[W,seval];simp only[beq_iff_eq,beq_eq_false_iff_ne]at hk tK;refine aG aQ (.inr rfl) rfl (by simp only[LW]) ⟨?_,rfl⟩;simp only[one,bB,tK,if_true,aE,aT];simp
 ·simp only[beq_eq_false_iff_ne,ne_eq]at hk tK
  have tagged:(x.kind=2∨x.kind=4)→bB pre.getLast? x=(db x.text&&decide (1≤x.id)&&decide (x.id≤999)):=fun h=>by
   simp only[bB,hk,tK,h,if_true,if_false]
  refine⟨fun h2=>⟨fun _=>?_,fun h=>?_⟩,fun h2=>⟨fun h4=>?_,fun h4=>⟨fun h3=>?_,fun h3=>?_⟩⟩⟩
  ·refine ai (pz _ _) rfl ?_;simp only[W,seval];refine aG aQ (.inr rfl) rfl (by simp only[LW]) ⟨?_,rfl⟩;simp at h2;simp only[one,tagged (.inl h2),aE,aT]
  ·rw[h2]at h;simp at h
  ·refine ai (pz _ _) rfl ?_;simp only[W,seval];refine aG aQ (.inr rfl) rfl (by simp only[LW]) ⟨?_,rfl⟩;simp at h4;simp only[one,tagged (.inr h4),aE,aT]
  ·refine ai (oa _ _) rfl ?_;simp only[W,seval];refine aG aQ (.inr rfl) rfl (by simp only[LW]) ⟨?_,rfl⟩;simp at h3;simp[one,bB,h3]
  ·refine aG aQ (.inr rfl) rfl (by simp only[LW]) ⟨?_,rfl⟩;simp at h2 h3 h4;simp[one,bB,hk,tK,h2,h3,h4]
theorem V9{σ:ag}{K:Exit→St→Prop}(its:List It)(aQ:bP σ)(hlen:its.length<2^63):∀ (rest pre:List It),its=pre++rest →
  (bt pre rest=0→(∀ j0 j1 j2 j3 j4 j5 j6 j7 j8 j9 cT cS cX cR cN cM cL cW df dn dx dy dD dI dH dG dX ez eA eH eW fg fi ft fw,K (.exit 0) ⟨[j0,j1,j2,j3,j4,j5,j6,j7,j8,j9,cT,cS,cX,cR,cN,cM,cL,cW,df,dn,dx,dy,dD,dI,dH,dG,dX,ez,eA,eH,eW,fg,fi,ft,fw],σ⟩))→(bt pre rest≠0→∀ loc,(∀ j0 j1 j3 j4 j5 j6 j7 j8 j9 cT cS cX cR cN cM cL cW df dn dx dy dD dI dH dG dX ez eA eH eW fg fi ft fw,K .ret ⟨[j0,j1,.i .i64 (bt pre rest),j3,j4,j5,j6,j7,j8,j9,cT,cS,cX,cR,cN,cM,cL,cW,df,dn,dx,dy,dD,dI,dH,dG,dX,ez,eA,eH,eW,fg,fi,ft,fw],σ++loc⟩)) →
  fO σ.length prog HM K (rest.length+1) ⟨[.sl 3 (its.map It.cells),u,u,u,u,u,u,u,u,u,u,u,u,.sl 3 (its.map It.cells),.i .i64 its.length,.i .i64 pre.length,u,u,u,u,u,u,u,u,u,u,u,u,u,u,u,u,u,u,u],σ⟩:=by
 intro rest
 induction rest with
 | nil =>
  intro pre he h1 h2;have he:its=pre:=by simpa using he
  subst he;refine ax fun R hR=>?_;simp only[HM,W,seval];exact⟨fun h=>by simp at h,fun _=>h1 rfl ..⟩
 | cons y rest ih =>
  intro pre he h1 h2;subst he;refine ax fun R hR=>?_;simp only[HM,It.cells,W,seval];refine⟨fun _=>⟨by simp;omega,?_⟩,fun h=>by simp at h;omega⟩;refine ai (Es pre rest y _) rfl ?_;simp only[W,seval];refine⟨fun h=>?_,fun h=>?_⟩
  ·have e:bt pre (y::rest)=1:=by simp at h;simp[bt,h]
   rw[e]at h2;exact h2 (by decide) _ ..
  ·refine ai (uX y _) rfl ?_;simp only[W,seval];have ht:List.take (pre.length - 0) (List.map It.cells (pre++y::rest))=pre.map It.cells:=by simp
   simp only[ht];refine⟨fun _=>by simp;omega,bg rfl (fun _=>Xd y pre _) rfl ?_⟩;simp only[W,seval];have h':bB pre.getLast? y=true:=by simpa using h
   refine⟨fun h3=>?_,fun h3=>?_⟩
   ·have e:bt pre (y::rest)=7:=by
     simp only[bt,h',h3,if_true,if_false,lj]
    rw[e]at h2;exact h2 (by decide) _ ..
   ·have e:bt pre (y::rest)=bt (pre++[y]) rest:=by
     simp only[bt,h',h3,if_false,lj,aD]
    rw[e]at h1 h2;refine hR _ (rF (aB _) aQ ?_ ?_ (ih (pre++[y]) (by simp) h1 h2))
    ·rw[aV (by simp at hlen;omega)];simp only[List.length_append,ab,ah]
     repeat' constructor
    ·simp only[LW]
theorem oX(its:List It)(σ:ag):PC prog 103 [.sl 3 (its.map It.cells)] σ (fun r σ'=>r=.i .i64 (bO its)∧σ'=σ):=by
 refine PC.intro func103 akP fun aQ cz=>aj ?_;have hlen:=lD (cz 0 _ rfl).1;rw[List.length_map]at hlen;simp only[ad4,SS,seval];simp only[List.length_map,W,seval];refine bg rfl (fun _=>P9 its _) rfl ?_;simp only[List.length_map,W,seval];refine⟨fun h=>?_,fun h=>?_⟩
 ·refine aO (.inr rfl) rfl ⟨?_,rfl⟩;simp at h;have:512<its.length∨1024<eZ 0 its:=by omega
  simp only[one,bO,this,if_true,aE,aT]
 ·simp at h;have hn:¬ (512<its.length∨1024<eZ 0 its):=by omega
  refine bA.aW ?_ (its.length+1) (V9 its aQ hlen its [] rfl (fun h1=>?_) (fun h1=>?_))
  ·simp only[W,seval]
   repeat' constructor
  ·intros;simp only[W,seval];exact aO (.inr rfl) rfl ⟨by simp only[one,bO,hn,h1,if_false,aE,aT],rfl⟩
  ·intros;simp only[W,seval];exact aG aQ (.inr rfl) rfl (by simp only[LW]) ⟨by simp only[one,bO,hn,if_false,aE,aT],rfl⟩
theorem VO{σ:ag}{K:Exit→St→Prop}(its:List It)(aQ:bP σ)(hlen:its.length<2^40):∀ (rest pre:List It) (acc:List Int),its=pre++rest→acc.length≤pre.length →
  (∀ es,(∀ j0 j1 j2 j4 j5 j6 j7 j8 j9 cT cS cX cR cN cM cL cW df dn dx dy dD dI dH dG dX ez eA eH eW fg fi,K (.exit 0) ⟨[j0,j1,j2,.own (σ.length+1) (cB acc rest).length,j4,j5,j6,j7,j8,j9,cT,cS,cX,cR,cN,cM,cL,cW,df,dn,dx,dy,dD,dI,dH,dG,dX,ez,eA,eH,eW,fg,fi],σ++[es,.row 3 1 8 (cB acc rest).length false ((cB acc rest).map bj)]⟩)) →
  fO σ.length prog C2 K (rest.length+1) ⟨[u,u,u,.own (σ.length+1) acc.length,.mp σ.length,u,u,u,.sl 3 (its.map It.cells),.i .i64 its.length,.i .i64 pre.length,u,u,u,u,u,u,u,u,u,u,u,u,u,u,u,u,u,u,u,u,u,u],σ++[.map 3 4 (lL acc),.row 3 1 8 acc.length false (acc.map bj)]⟩:=by
 intro rest
 induction rest with
 | nil =>
  intro pre acc he hac h1;have he:its=pre:=by simpa using he
  subst he;refine ax fun R hR=>?_;simp only[C2,W,seval];exact⟨fun h=>by simp at h,fun _=>h1 _ ..⟩
 | cons y rest ih =>
  intro pre acc he hac h1;subst he;refine ax fun R hR=>?_
  by_cases hm:y.id∈acc
  ·have hf:iD (σ++[.map 3 4 (lL acc),.row 3 1 8 acc.length false (acc.map bj),.box 76 y.cells]) 0 (.mp σ.length) (.i .i64 y.id)=some (some (0+acc.idxOf y.id,.b true)):=by
    simp only[iD,gr,ao,vZ,hm,if_true]
   simp only[It.cells]at hf;simp only[C2,It.cells,W,seval];refine⟨fun _=>⟨by simp;omega,?_⟩,fun h=>by simp at h;omega⟩;refine ai (uX y _) rfl ?_;simp only[hf,W,seval]
   have e:cB acc (y::rest)=cB acc rest:=by
    simp[cB,hm]
   rw[e]at h1;have qG:bP (σ++[.map 3 4 (lL acc),.row 3 1 8 acc.length false (acc.map bj)]):=bU aQ (by simp);refine⟨fun _=>by simp[V.qi],fun h=>by simp at h,fun _=>?_⟩;refine hR _ (cH [_,_] [_] qG ?_ ?_ (ih (pre++[y]) acc (by simp) (by simp;omega) h1))
   ·rw[aV (by simp at hlen;omega)];simp only[List.length_append,ab,ah]
    repeat' constructor
   ·simp only[LW,ab,ah,aK];omega
  ·have hf:iD (σ++[.map 3 4 (lL acc),.row 3 1 8 acc.length false (acc.map bj),.box 76 y.cells]) 0 (.mp σ.length) (.i .i64 y.id)=some none:=by
    simp only[iD,gr,ao,vZ,hm,if_false]
   have WD:gH 0 (.i .i64 y.id) (lL acc) 0=some none:=by simp only[vZ,hm,if_false]
   simp only[It.cells]at hf;simp only[C2,It.cells,W,seval];refine⟨fun _=>⟨by simp;omega,?_⟩,fun h=>by simp at h;omega⟩;refine ai (uX y _) rfl ?_;simp only[hf,WD,W,seval];have hc:acc.contains y.id=false:=by simpa using hm
   refine⟨fun _=>by simp[V.qi],fun h=>?_,fun h=>?_⟩
   ·have e:cB acc (y::rest)=cB (acc++[y.id]) rest:=by simp[cB,hm,h]
    rw[e]at h1;have hr:acc.map bj++[[V.i .i64 y.id]]=(acc++[y.id]).map bj:=by simp[bj]
    have hs:lL acc++[(V.i .i64 y.id,nk [none] (V.b true))]=lL (acc++[y.id]):=by simp[lL,nk]
    have hl:acc.length+1=(acc++[y.id]).length:=by simp
    rw[hr,hs,hl];have qG:bP (σ++[.map 3 4 (lL (acc++[y.id])),.row 3 1 8 (acc++[y.id]).length false ((acc++[y.id]).map bj)]):=bU aQ (by simp);refine⟨by simp[V.qi,nk,V.BQ,V.pure],?_,?_⟩
    ·simp at hlen;simp[maxLen];omega
    ·refine hR _ (cH [_,_] [_] qG ?_ ?_ (ih (pre++[y]) (acc++[y.id]) (by simp) (by simp;omega) h1))
     ·rw[aV (by simp at hlen;omega)];simp only[List.length_append,ab,ah]
      repeat' constructor
     ·simp only[LW,ab,ah,aK];omega
   ·have e:cB acc (y::rest)=cB acc rest:=by simp[cB,h]
    rw[e]at h1;have qG:bP (σ++[.map 3 4 (lL acc),.row 3 1 8 acc.length false (acc.map bj)]):=bU aQ (by simp);refine hR _ (cH [_,_] [_] qG ?_ ?_ (ih (pre++[y]) acc (by simp) (by simp;omega) h1))
    ·rw[aV (by simp at hlen;omega)];simp only[List.length_append,ab,ah]
     repeat' constructor
    ·simp only[LW,ab,ah,aK];omega
theorem Bd(its:List It)(hlen:its.length<2^40)(σ:ag):PC prog 165 [.sl 3 (its.map It.cells)] σ (fun r σ'=>r=.own σ.length 0∧σ'=σ++[.row 3 1 8 0 false ((numbers its).map bj)]):=by
 refine PC.intro func165 aj8 fun aQ cz=>aj ?_;simp only[adk,SS,seval];simp only[List.length_map,W,seval];refine bA.wk ((Wk.nV (σ:=σ) [_] (k:=3) GD rfl).trans (Wk.ej ?_)) (bA.pd (its.length+1) (VO its aQ hlen its [] [] rfl (aB _) ?_))
 ·simp only[W,seval]
  repeat' constructor
 ·intros;simp only[W,seval];exact yz 1 aQ (.inr rfl) rfl rfl rfl (by simp[ES,Ob.gen]) (by simp[one,numbers,Vp,Ob.fresh])
theorem Mm(its:List It)(hlen:its.length<2^40)(σ:ag):PC prog 165 [.sl 3 (its.map It.cells)] σ (fun r σ'=>r=.sl 1 ((numbers its).map bj)∧σ'=σ) :=
 PC.closed fun aQ=>PC.fz aQ (Bd its hlen σ)
theorem Oi{σ:ag}{K:Exit→St→Prop}(aQ:bP σ)(N:Nat)(hN:N<2^40):∀ (k i:Nat),i+k=N →
  (∀ j0 j1 j2 j4 j5 j6 j7 j8 j9 cT cS cX cR cN cM cL cW df,K (.exit 0) ⟨[j0,j1,j2,.own σ.length 0,j4,j5,j6,j7,j8,j9,cT,cS,cX,cR,cN,cM,cL,cW,df],σ++[.row 3 1 8 0 false (iX N N)]⟩) →
  fO σ.length prog Ho K (k+1) ⟨[u,u,u,.own σ.length 0,u,u,u,u,.i .i64 N,.i .i64 i,u,u,u,u,u,u,u,u,u],σ++[.row 3 1 8 0 false (iX N i)]⟩
 | 0,i,he,h1=>by
  have he:i=N:=by omega
  subst he;refine ax fun R hR=>?_;simp only[Ho,W,seval];exact⟨fun h=>by simp at h,fun _=>h1 ..⟩
 | k+1,i,he,h1=>by
  have hi:i<N:=by omega
  refine ax fun R hR=>?_;simp only[Ho,wL (Nat.le_of_lt hi),Ff hi,W,seval];refine⟨fun _=>?_,fun h=>by simp at h;omega⟩;have hw:=aV (n:=i) (by omega);rw[hw];have E0:(iX N i).set i [V.i .i64 (((i+1:Nat)):Int)]=iX N (i+1):=by rw[← Fe hi];rfl
  rw[E0];refine⟨by omega,hi,hR _ (aW ?_ (Oi aQ N hN k (i+1) (by omega) h1))⟩
  repeat' constructor
theorem Br(n:Nat)(hn:n<2^40)(σ:ag):PC prog 168 [.i .i64 n] σ (fun r σ'=>r=.sl 1 ((cu n).map bj)∧σ'=σ):=by
 refine PC.intro func168 aj5 fun aQ cz=>aj ?_;simp only[adh,SS,seval];simp only[W,seval];refine⟨⟨by omega,.inl trivial,by omega,by omega,by simp[maxLen];omega⟩,?_⟩;have e:List.replicate n [V.i .i64 0]=iX n 0:=by simp[iX,cu]
 rw[e];refine bA.aW (fr':=[u,u,u,.own σ.length 0,u,u,u,u,.i .i64 n,.i .i64 (0:Nat),u,u,u,u,u,u,u,u,u]) ?_ (n+1) (Oi aQ n hn n 0 (by omega) ?_)
 ·rw[wL (iF _)]
  repeat' constructor
 ·intros;simp only[W,seval];refine gg 0 aQ (.inr rfl) rfl rfl ?_ ?_
  ·simp[fz,kc,gM,uG]
  ·simp[fz,kc,one,iX]
def MH(l:List Int)(x:Int):Int:=if x∈l then l.idxOf x else -1
theorem VD{σ:ag}{K:Exit→St→Prop}(x:Int)(l:List Int)(hlen:l.length<2^63):∀ (rest pre:List Int),l=pre++rest→x ∉ pre →
  (x ∉ l→(∀ j0 j1 j2 j3 j4 j5 j6 j7 j8 j9 cT cS cX cR cN cM cL cW df,K (.exit 0) ⟨[j0,j1,j2,j3,j4,j5,j6,j7,j8,j9,cT,cS,cX,cR,cN,cM,cL,cW,df],σ⟩))→(x∈l→(∀ j0 j1 j2 j3 j5 j6 j7 j8 j9 cT cS cX cR cN cM cL cW df,K .ret ⟨[j0,j1,j2,j3,.i .i64 (MH l x),j5,j6,j7,j8,j9,cT,cS,cX,cR,cN,cM,cL,cW,df],σ⟩)) →
  fO σ.length prog Hd K (rest.length+1) ⟨[.sl 1 (l.map bj),.i .i64 x,u,u,u,u,u,.i .i64 l.length,.i .i64 pre.length,u,u,u,u,u,u,u,u,u,u],σ⟩:=by
 intro rest
 induction rest with
 | nil =>
  intro pre he hn h1 h2;have he:l=pre:=by simpa using he
  subst he;refine ax fun R hR=>?_;simp only[Hd,W,seval];exact⟨fun h=>by simp at h,fun _=>h1 hn ..⟩
 | cons c rest ih =>
  intro pre he hn h1 h2;subst he;refine ax fun R hR=>?_;simp only[Hd,bj,W,seval];refine⟨fun _=>⟨by simp;omega,fun h=>?_,fun h=>?_⟩,fun h=>by simp at h;omega⟩
  ·simp at h;subst h
   have e:MH (pre++x::rest) x=pre.length:=by
    simp[MH,List.idxOf_append,hn]
   rw[e]at h2;exact h2 (by simp) ..
  ·simp at h;refine hR _ (aW ?_ (ih (pre++[c]) (by simp) (by simp[hn,h]) h1 h2));rw[aV (by simp at hlen;omega)];simp only[List.length_append,ab,ah]
   repeat' constructor
theorem KC(l:List Int)(x:Int)(σ:ag):PC prog 206 [.sl 1 (l.map bj),.i .i64 x] σ (fun r σ'=>r=.i .i64 (MH l x)∧σ'=σ):=by
 refine PC.intro func206 ajG fun aQ cz=>aj ?_;have hlen:=lD (cz 0 _ rfl).1;rw[List.length_map]at hlen;simp only[acR,SS,seval];simp only[List.length_map,W,seval];refine bA.aW ?_ (l.length+1) (VD x l hlen l [] rfl (by simp) (fun h=>?_) (fun h=>?_))
 ·repeat' constructor
 ·intros;simp only[W,seval];exact aO (.inr rfl) rfl ⟨by simp[one,MH,h],rfl⟩
 ·intros;simp only[W,seval];exact aO (.inr rfl) rfl ⟨rfl,rfl⟩
theorem D1(l:List Int)(x:Int)(σ:ag):PC prog 166 [.sl 1 (l.map bj),.i .i64 x] σ (fun r σ'=>r=.b (l.contains x)∧σ'=σ):=by
 refine PC.intro func166 aj7 fun aQ cz=>aj ?_;simp only[adj,SS,seval];simp only[W,seval];refine ai (KC l x _) rfl ?_;simp only[W,seval];refine aO (.inr rfl) rfl ⟨?_,rfl⟩
 by_cases h:x∈l
 ·simp[one,MH,h]
 ·simp[one,MH,h]
theorem Oh{σ:ag}{K:Exit→St→Prop}(a b:List It)(hlen:a.length<2^63)(tD:a.length=b.length):∀ (ra rb pa pb:List It),a=pa++ra→b=pb++rb→pa.length=pb.length →
  (gq ra rb=true→(∀ j0 j1 j2 j3 j4 j5 j6 j7 j8 j9 cT cS cX cR cN cM cL cW df dn dx dy dD dI dH dG,K (.exit 0) ⟨[j0,j1,j2,j3,j4,j5,j6,j7,j8,j9,cT,cS,cX,cR,cN,cM,cL,cW,df,dn,dx,dy,dD,dI,dH,dG],σ⟩))→(gq ra rb=false→(∀ j0 j1 j2 j3 j5 j6 j7 j8 j9 cT cS cX cR cN cM cL cW df dn dx dy dD dI dH dG,K .ret ⟨[j0,j1,j2,j3,.b false,j5,j6,j7,j8,j9,cT,cS,cX,cR,cN,cM,cL,cW,df,dn,dx,dy,dD,dI,dH,dG],σ⟩)) →
  fO σ.length prog Hn K (ra.length+1) ⟨[.sl 3 (a.map It.cells),.sl 3 (b.map It.cells),u,u,u,u,u,u,u,u,u,u,.i .i64 a.length,.i .i64 pa.length,u,u,u,u,u,u,u,u,u,u,u,u],σ⟩
 | [],rb,pa,pb,ha,hb,hp,h1,h2=>by
  have:rb=[]:=by
   subst ha;subst hb;simp at tD;have:rb.length=0:=by omega
   exact mc.1 this
  subst this;subst ha;refine ax fun R hR=>?_;simp only[Hn,W,seval];exact⟨fun h=>by simp at h,fun _=>h1 rfl ..⟩
 | x::ra,[],pa,pb,ha,hb,hp,h1,h2=>by
  subst ha;subst hb;simp at tD;omega
 | x::ra,y::rb,pa,pb,ha,hb,hp,h1,h2=>by
  subst ha;subst hb;refine ax fun R hR=>?_;have dY:(List.map It.cells (pb++y::rb)).getD pa.length []=y.cells:=by rw[hp];exact ki
  simp only[Hn,dY,It.cells,l7,di,W,seval];refine⟨fun _=>⟨by simp;omega,by simp;omega,fun h=>?_,fun h=>?_⟩,fun h=>by simp at h;omega⟩
  ·refine h2 ?_ ..;have:EY x y=false:=by simpa only[EY,cm]using h
   simp[gq,this]
  ·have he:EY x y=true:=by simpa only[EY,dC]using h
   have e:gq (x::ra) (y::rb)=gq ra rb:=by simp[gq,he]
   rw[e]at h1 h2;refine hR _ (aW ?_ (Oh _ _ hlen tD ra rb (pa++[x]) (pb++[y]) (by simp) (by simp) (by simp[hp]) h1 h2));rw[aV (by simp at hlen;omega)];simp only[List.length_append,ab,ah]
   repeat' constructor
theorem Fa(a b:List It)(σ:ag):PC prog 169 [.sl 3 (a.map It.cells),.sl 3 (b.map It.cells)] σ (fun r σ'=>r=.b (gq a b)∧σ'=σ):=by
 refine PC.intro func169 aj4 fun aQ cz=>aj ?_;have hlen:=lD (cz 0 _ rfl).1;rw[List.length_map]at hlen;simp only[adg,SS,seval];simp only[List.length_map,W,seval];refine⟨fun h=>?_,fun h=>?_⟩
 ·refine aO (.inr rfl) rfl ⟨?_,rfl⟩;simp at h;simp only[one,aE,aT,V.b.injEq];cases e:gq a b
  ·rfl
  ·exact absurd (FV e) (by omega)
 ·simp at h;refine bA.aW ?_ (a.length+1) (Oh a b hlen (by omega) a b [] [] rfl rfl rfl (fun h1=>?_) (fun h1=>?_))
  ·simp only[W,seval]
   repeat' constructor
  ·simp only[W,seval];intros;exact aO (.inr rfl) rfl ⟨by simp[one,h1],rfl⟩
  ·simp only[W,seval];intros;exact aO (.inr rfl) rfl ⟨by simp[one,h1],rfl⟩
theorem Bi(a b:List It)(σ:ag):PC prog 105 [.sl 3 (a.map It.cells),.sl 3 (b.map It.cells)] σ (fun r σ'=>r=.b (gq a b)∧σ'=σ):=by
 refine PC.intro func105 akN fun aQ cz=>aj ?_;simp only[ad2,SS,seval];simp only[W,seval];refine ai (Fa a b _) rfl ?_;simp only[W,seval];exact aO (.inr rfl) rfl ⟨rfl,rfl⟩
theorem Sz{σ:ag}{K:Exit→St→Prop}(its:List It)(go:Nat)(rows:List (List V))(aQ:bP σ)(hlen:its.length<2^40):
  ∀ (rest pre:List It) (b:List UInt8) (g:Nat),its=pre++rest→b.length+(runText rest).1.length<2^40 →
  (∀ g',(∀ j1 j2 j6 j7 j8 j9 cT cS cX cR cN cM cL cW df dn dx dy dD dI dH dG dX ez eA eH eW fg fi ft fw fG fM fL fK fX gi gF gR gQ il ix iV iU iT iS iR jo jn jm jK jY,K (.exit 2) ⟨[.sl 3 (its.map It.cells),j1,j2,.own σ.length go,.i .i64 (its.length - (runText rest).2.length:Nat),.own (σ.length+1) g',j6,j7,j8,j9,cT,cS,cX,cR,cN,cM,cL,cW,df,dn,dx,dy,dD,dI,dH,dG,dX,ez,eA,eH,eW,fg,fi,ft,fw,fG,fM,fL,fK,fX,gi,gF,gR,gQ,il,ix,iV,iU,iT,iS,iR,jo,jn,jm,jK,jY],σ++[.row 76 3 32 go false rows,.row 5 1 1 g' false (al (b++(runText rest).1))]⟩)) →
  fO σ.length prog CU K (rest.length+1) ⟨[.sl 3 (its.map It.cells),u,u,.own σ.length go,.i .i64 pre.length,.own (σ.length+1) g,u,u,u,u,u,u,u,u,u,u,u,u,u,u,u,u,u,u,u,u,u,u,u,u,u,u,u,u,u,u,u,u,u,u,u,u,u,u,u,u,u,u,u,u,u,u,u,u,u,u],σ++[.row 76 3 32 go false rows,.row 5 1 1 g false (al b)]⟩:=by
 intro rest
 induction rest with
 | nil =>
  intro pre b g he hb h1;have he:its=pre:=by simpa using he
  subst he;refine ax fun R hR=>?_;simp only[CU,W,seval];refine⟨fun h=>by simp at h,.i .i64 0,fun h=>by simp at h,?_⟩;simp only[W,seval];refine⟨fun h=>by simp at h,fun _=>?_⟩;have e:b++(runText []).1=b:=by simp[runText]
  rw[e]at h1;exact h1 _ ..
 | cons x rest ih =>
  intro pre b g he hb h1;subst he;refine ax fun R hR=>?_;simp only[CU,It.cells,W,seval];refine⟨fun _=>by simp;omega,.i .i64 x.kind,fun _=>rfl,?_⟩;simp only[W,seval];have fk:decide ((pre.length:Int)<((List.map It.cells (pre++x::rest)).length:Int))=true:=by simp;omega
  simp only[fk,It.cells,W,seval];refine⟨fun h=>?_,fun h=>?_⟩
  ·simp at h;have e1:(runText (x::rest)).1=x.text++(runText rest).1:=by simp[runText,h]
   have e2:(runText (x::rest)).2=(runText rest).2:=by simp[runText,h]
   rw[e1]at h1 hb;rw[e2]at h1;simp only[← List.append_assoc b]at h1;rw[List.length_append]at hb;refine⟨by simp;omega,⟨?_,?_⟩,?_⟩
   ·simp only[aL];omega
   ·simp only[aL,maxLen];omega
   ·rw[dO];refine hR _ (aW ?_ (ih (pre++[x]) (b++x.text) (g+1) (by simp) (by rw[List.length_append];omega) h1));rw[aV (by simp at hlen;omega)];simp only[List.length_append,ab,ah]
    repeat' constructor
  ·simp at h;have e1:(runText (x::rest))=([],x::rest):=by simp[runText,h]
   rw[e1]at h1;have e2:(pre++x::rest).length - (x::rest).length=pre.length:=by simp
   have h2:=h1 g;simp only[e2,bf]at h2;exact h2 ..
end Go.Proofs.Tryz

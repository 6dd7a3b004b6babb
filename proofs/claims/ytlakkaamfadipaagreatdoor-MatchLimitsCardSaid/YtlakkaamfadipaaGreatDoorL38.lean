/- A part of a proof; the claim's last text says of what. -/
import Derived.Test.YtlakkaamfadipaaGreatDoorL37
set_option linter.all false

set_option maxRecDepth 4000
set_option maxHeartbeats 1000000
namespace Go.Proofs.Tryz
open Go Go.Pm Go.Bt
theorem Ka{J:ae}{n0:Nat}{K:Exit→St→Prop}(M1 M3 FB:Ob)(H:List (TK×(Nat×Nat)))(f3:TK→List (Int×Int))(id:Int)(gs:List Gr)(hlen:gs.length<2^30)(j5:Nat):∀ (rest pre:List Gr) (T:ae) (eb:Nat) (G:List (GK×(Nat×Nat))) (f:GK→List (Int×Int)),gs=pre++rest→Bt.fB 190 (J.length+5) T G f→Bt.fB 190 (J.length+5) T H f3→xP G H→(∀ k,(f k).length<2^30)→(∀ g∈rest,f g.1≠[])→gH rest →
  (∀ T' eb' G',Bt.fB 190 (J.length+5) T' G' (ic f id rest)→Bt.fB 190 (J.length+5) T' H f3→xP G' H→jR T T'→((fh (.ptr (J.length+3) 0) (fh (.i .i64 id) (fj 3 (fh (.ptr j5 0) (fj 93 fo))))) fun ZZ=>K (.exit 0) ⟨ZZ,J++(M1::.map 184 eb' (emap mj ko G')::M3::qT J.length::FB::T')⟩)) →
  gw n0 prog FT K (rest.length+1) ⟨(.ptr (J.length+3) 0::.i .i64 id::uu 3 (.ptr j5 0::uu 22 (.sl 3 (gs.map ni)::.i .i64 gs.length::.i .i64 pre.length::uu 68 []))),J++(M1::.map 184 eb (emap mj ko G)::M3::qT J.length::FB::T)⟩:=by
 intro rest
 induction rest with
 | nil =>
  intro pre T eb G f he hP hH hD hf gr hK h1;have he:gs=pre:=by simpa using he
  subst he;refine aH fun R hR=>?_;simp only[FT,VV,seval];exact⟨fun h=>by simp at h,fun _=>h1 T eb G hP hH hD (jR.refl T) ..⟩
 | cons g rest ih =>
  intro pre T eb G f he hP hH hD hf gr hK h1;subst he;have hlen':pre.length+1+rest.length<2^30:=by simp at hlen;omega
  have hw:IntKind.i64.wrap ((pre.length:Int)+1)=(((pre++[g]).length:Nat):Int):=by
   rw[br (by omega)];simp
  refine aH fun R hR=>?_;simp only[FT,ni,qT,VV,seval];refine⟨fun _=>⟨by simp;omega,?_⟩,fun h=>by simp at h;omega⟩;rcases nq (ve:=ko) tf G g.1 with⟨g1,g2,g3,g4,g5⟩ | ⟨i,b,g1,g2,g3,g4⟩
  ·exact absurd (hP.uB _ g1) (gr g (me ..))
  ·simp only[mj]at g2 g3 g4;obtain⟨r,g0⟩:=b;obtain⟨j,rfl,hj⟩:=hP.row _ _ _ g1;have jr:=(ab.1 hj).1;have ej:J.length+5+j=J.length+(j+5):=by omega
   simp only[ko,ej]at g2 g3;simp only[bX,g2,g3,g4,cz,V.gx,V.cell,VV,seval];have K6:∀ l,(T++l)[j]?=some (ux g0 (f g.1)):=fun l=>by rw[ag jr];exact hj
   have K5:∀ l o,(T++l).set j o=T.set j o++l:=fun l o=>dD _ _ jr;have Mk:∀ o l k,(T.set j o++l)[T.length+k]?=l[k]?:=fun o l k=>by rw[aw (by simp)];simp
   refine fJ (vn (J.length+(j+5)) g0 id (f g.1) (hf _) _ (by simp only[K6,VV,seval])) rfl fun v S' hv=>?_;obtain⟨g',rfl,rfl⟩:=hv;simp only[K5,Mk,VV,seval];have g4:=g4 (J.length+5+j,g');have Ml:=hP.cut g1 id g';have Y0:bo g.1 (ee G g.1 (J.length+5+j,g'))=some (J.length+5+j,g'):=by rw[eD,aQ rfl]
   obtain⟨i2,q1,q2⟩:=rQ (ve:=ko) tf g.1 _ 0 Ml.nodup _ Y0;have YW:∀ l,(T.set j (ux g' (fP id (f g.1)))++l)[j]?=some (.row 190 2 16 g' false ((fP id (f g.1)).map oA)):=fun l=>by rw[ag (by rw[cJ];exact jr)];exact ak jr
   have N5:=hH.other (ux g' (fP id (f g.1))) (fun k r g' hk=>fun e=>hD _ _ _ _ _ _ g1 hk e.symm);have CW:jR T (T.set j (ux g' (fP id (f g.1)))):=jR.setRow hj _;simp only[mj,ko,ej,bj]at g4 q1;have Rf:=hD.add g1 g';simp only[ej]at Ml q2 Rf;simp only[g2,g4,q1,q2,YW,Mk,hw,cz,V.gx,V.cell,bX,aj,VV,seval];have Ra:=cP.1 hK
   have hf':∀ k,(pR f g.1 id k).length<2^30:=fun k=>by
    have:=hf k;have h2:(fP id (f k)).length≤(f k).length:=dQ _ _;unfold pR;split<;>omega
   have hne':∀ g'∈rest,pR f g.1 id g'.1≠[]:=fun x hx=>by
    have hn:x.1≠g.1:=fun e=>Ra.1 (aT.2 ⟨x,hx,e⟩);rw[pR,aC hn];exact gr x (di _ hx)
   refine⟨fun h=>?_,fun h=>?_⟩
   ·have h0:fP id (f g.1)=[]:=by simpa using h
    have k:=ih (pre++[g]) _ (eb+1) _ _ (by simp) ((Ml.del (k:=g.1) (by rw[pR,aQ rfl,h0])).app [Ob.box 182 [V.s g.1.1,V.s g.1.2,V.i .i64 g.2],Ob.box 184 [V.s g.1.1,V.s g.1.2]]) (N5.app _) (Rf.del g.1) hf' hne' Ra.2 (fun T' eb' G' hp hh hd hg=>h1 T' eb' G' hp hh hd (CW.trans ((jR.app _ _).trans hg)));simp only[qT]at k;exact hR _ (bk (by repeat' constructor) k)
   ·have k:=ih (pre++[g]) _ eb _ _ (by simp) (Ml.app [Ob.box 182 [V.s g.1.1,V.s g.1.2,V.i .i64 g.2],Ob.box 184 [V.s g.1.1,V.s g.1.2]]) (N5.app _) Rf hf' hne' Ra.2 (fun T' eb' G' hp hh hd hg=>h1 T' eb' G' hp hh hd (CW.trans ((jR.app _ _).trans hg)));simp only[qT]at k;exact hR _ (bk (by repeat' constructor) k)
end Go.Proofs.Tryz
set_option maxRecDepth 4000
set_option maxHeartbeats 1000000
namespace Go.Proofs.Tryz
open Go Go.Pm Go.Bt
theorem J9{J:ae}{n0:Nat}{K:Exit→St→Prop}(M1 M2 FB:Ob)(H:List (GK×(Nat×Nat)))(f3:GK→List (Int×Int))(id:Int)(C:List (TK×Int))(hK:gH C)(jc ji:Nat)(f0:TK→List (Int×Int))(Gn:∀ k,(f0 k).length<2^30)(Yj:∀ c∈C,f0 c.1≠[]):∀ (N:Nat) (ps:List Nat) (cur:Option Nat) (D:List (TK×Int)) (T:ae) (mc:Nat) (G:List (TK×(Nat×Nat))),ps.length≤N→ps.Nodup→(∀ p∈ps,p<C.length)→(D++ps.map fun i=>C.getD i ((0,[]),0)).Perm C →
  Bt.fB 190 (J.length+5) T G (ic f0 id D)→Bt.fB 190 (J.length+5) T H f3→xP G H→T[jc]?=some (.map 150 3 (emap fw dq C))→T[ji]?=some (.iter false (J.length+5+jc) 3 (emap fw dq C).length ps cur) →
  (∀ T' mc' G' D',D'.Perm C→Bt.fB 190 (J.length+5) T' G' (ic f0 id D')→Bt.fB 190 (J.length+5) T' H f3→xP G' H→jR T T'→((fh (.ptr (J.length+3) 0) (fj 98 fo)) fun ZZ=>K (.exit 2) ⟨ZZ,J++(M1::M2::.map 150 mc' (emap fw ko G')::qT J.length::FB::T')⟩)) →
  gw n0 prog FQ K (N+1) ⟨(.ptr (J.length+3) 0::.i .i64 id::uu 66 (.it (J.length+(ji+5))::uu 30 [])),J++(M1::M2::.map 150 mc (emap fw ko G)::qT J.length::FB::T)⟩:=by
 intro N
 induction N with
 | zero =>
  intro ps cur D T mc G hl lM hp hs hP hH hD hc hi h1;have jV:ps=[]:=aD (by omega);subst jV;have ec:J.length+5+jc=J.length+(jc+5):=by omega
  rw[ec]at hi;refine aH fun R hR=>?_;simp only[FQ,qT,hc,hi,VV,seval];exact h1 _ _ _ D (by simpa using hs) hP hH hD (jR.refl T) ..
 | succ N ih =>
  intro ps cur D T mc G hl lM hp hs hP hH hD hc hi h1;have ec:J.length+5+jc=J.length+(jc+5):=by omega
  rw[ec]at hi;have nz:=(ab.1 hi).1;have gr:ji≠jc:=fun e=>by subst e;rw[hc]at hi;simp at hi
  have yf:∀ o,(T.set ji o)[ji]?=some o:=fun o=>ak nz;have DF:∀ o,(T.set ji o)[jc]?=some (.map 150 3 (emap fw dq C)):=fun o=>by rw[ay gr];exact hc
  refine aH fun R hR=>?_;simp only[FQ,qT,hc,hi,yf,DF,VV,seval];refine⟨fun jV=>?_,fun q hq=>?_⟩
  ·subst jV;exact h1 _ _ _ D (by simpa using hs) hP hH hD (jR.refl T) ..
  ·have u4:=hp q hq;have eJ:=pJ (ke:=fw) (ve:=dq) C ((0,[]),0) u4;have NQ:=kX lM hq;have si:=kr hq
   have nrow:∀ {α:Type} [DecidableEq α] {G:List (α×(Nat×Nat))} {f:α→List (Int×Int)},Bt.fB 190 (J.length+5) T G f→∀ k r g,bo k G=some (r,g)→r≠J.length+5+ji:=fun h k r g hk e=>by
    obtain⟨j,e1,e2⟩:=h.row k r g hk;have:j=ji:=by omega
    subst this;rw[hi]at e2;simp[fM]at e2
   have VE:=fun o=>hP.other o (nrow hP);have VF:=fun o=>hH.other o (nrow hH);have xN:=fun o=>jR.set hi rfl o
   have qb:((D++[C.getD q ((0,[]),0)])++(ps.filter fun i=>i != q).map fun i=>C.getD i ((0,[]),0)).Perm C:=by
    refine List.Perm.trans ?_ hs;rw[aM];refine jU _ ?_;exact((NQ.map fun i=>C.getD i ((0,[]),0)).symm)
   have nO:C.getD q ((0,[]),0)∈C:=by
    rw[ar,an u4];exact cg u4
   have U5:C.getD q ((0,[]),0)∈(ps.map fun i=>C.getD i ((0,[]),0)):=fx hq;generalize Vd:C.getD q ((0,[]),0)=kc at eJ qb nO U5;obtain⟨k,c⟩:=kc
   have hkD:k ∉ D.map (·.1):=by
    have h2:((D++ps.map fun i=>C.getD i ((0,[]),0)).map (·.1)).Nodup:=(hs.map _).nodup_iff.2 hK;rw[cQ,fu]at h2;exact fun h3=>h2.2.2 k h3 k (aT.2 ⟨_,U5,rfl⟩) rfl
   have Vl:ic f0 id D k=f0 k:=by rw[rT,aC hkD]
   have Vs:pR (ic f0 id D) k id=ic f0 id (D++[(k,c)]):=(E4 f0 id D (k,c)).symm;have Vm:(ic f0 id D k).length<2^30:=by rw[Vl];exact Gn k
   have Yh:=Yj _ nO;simp only[eJ,dq,fw,VV,seval];have nN:=yf (.iter false (J.length+(jc+5)) 3 (emap fw dq C).length (ps.filter fun i=>i != q) (some q));have Pw:=DF (.iter false (J.length+(jc+5)) 3 (emap fw dq C).length (ps.filter fun i=>i != q) (some q));have N4:=VE (.iter false (J.length+(jc+5)) 3 (emap fw dq C).length (ps.filter fun i=>i != q) (some q));have Re:=VF (.iter false (J.length+(jc+5)) 3 (emap fw dq C).length (ps.filter fun i=>i != q) (some q));have Q2:=xN (.iter false (J.length+(jc+5)) 3 (emap fw dq C).length (ps.filter fun i=>i != q) (some q));generalize T.set ji (.iter false (J.length+(jc+5)) 3 (emap fw dq C).length (ps.filter fun i=>i != q) (some q))=T1 at nN Pw N4 Re Q2 ⊢;clear yf DF VE VF xN hi hc hP hH nrow;rcases nq (ve:=ko) qo G k with⟨g1,g2,g3,g4,g5⟩ | ⟨i,b,g1,g2,g3,g4⟩
   ·exact absurd (Vl▸N4.uB _ g1) Yh
   ·obtain⟨r,g0⟩:=b;obtain⟨j,rfl,hj⟩:=N4.row _ _ _ g1;have jr:=(ab.1 hj).1;have ej:J.length+5+j=J.length+(j+5):=by omega
    simp only[ko,fw,ej]at g2 g3;simp only[fw]at g4;simp only[bX,g2,g3,g4,cz,V.gx,V.cell,VV,seval];have K6:∀ l,(T1++l)[j]?=some (ux g0 (ic f0 id D k)):=fun l=>by rw[ag jr];exact hj
    have K5:∀ l o,(T1++l).set j o=T1.set j o++l:=fun l o=>dD _ _ jr;have Mk:∀ o l k,(T1.set j o++l)[T1.length+k]?=l[k]?:=fun o l k=>by rw[aw (by simp)];simp
    have VC:∀ o l,(T1.set j o++l)[T1.length]?=l[0]?:=fun o l=>Mk o l 0;refine fJ (vn (J.length+(j+5)) g0 id (ic f0 id D k) Vm _ (by simp only[K6,VV,seval])) rfl fun v S' hv=>?_;obtain⟨g',rfl,rfl⟩:=hv;simp only[K5,Mk,VC,VV,seval];have g4:=g4 (J.length+5+j,g');have Ml:=N4.cut g1 id g';have Y0:bo k (ee G k (J.length+5+j,g'))=some (J.length+5+j,g'):=by rw[eD,aQ rfl]
    obtain⟨i2,q1,q2⟩:=rQ (ve:=ko) qo k _ 0 Ml.nodup _ Y0;have YW:∀ l,(T1.set j (ux g' (fP id (ic f0 id D k)))++l)[j]?=some (.row 190 2 16 g' false ((fP id (ic f0 id D k)).map oA)):=fun l=>by rw[ag (by rw[cJ];exact jr)];exact ak jr
    have N5:=Re.other (ux g' (fP id (ic f0 id D k))) (fun k r g' hk=>fun e=>hD _ _ _ _ _ _ g1 hk e.symm);have CW:jR T1 (T1.set j (ux g' (fP id (ic f0 id D k)))):=jR.setRow hj _;have Yg:j≠ji:=fun e=>by subst e;rw[nN]at hj;simp[fM]at hj
    have Rf:=hD.add g1 g';simp only[fw,ko,ej,bj]at g4 q1;simp only[ej]at Ml q2 Rf;rw[Vs]at Ml;simp only[g2,g4,q1,q2,YW,Mk,VC,cz,V.gx,V.cell,bX,aj,VV,seval]
    have US:∀ l,(T1.set j (ux g' (fP id (ic f0 id D k)))++l)[ji]?=some (.iter false (J.length+5+jc) 3 (emap fw dq C).length (ps.filter fun i=>i != q) (some q)):=fun l=>by
     rw[ec,ag (by rw[cJ];exact(ab.1 nN).1),ay Yg];exact nN
    have UT:∀ l,(T1.set j (ux g' (fP id (ic f0 id D k)))++l)[jc]?=some (.map 150 3 (emap fw dq C)):=fun l=>(CW.trans (jR.app _ _)).2 _ _ Pw rfl;refine⟨fun h=>?_,fun h=>?_⟩
    ·have h0:fP id (ic f0 id D k)=[]:=by simpa using h
     have kk:=ih (ps.filter fun i=>i != q) (some q) (D++[(k,c)]) _ (mc+1) _ (by omega) (lM.filter _) (fun p h=>hp p (cc.1 h).1) qb ((Ml.del (k:=k) (by rw[← Vs,pR,aQ rfl,h0])).app [Ob.box 150 [V.i .i64 k.1,V.s k.2,V.i .i64 0]]) (N5.app _) (Rf.del k) (UT _) (US _)
      (fun T' mc' G' D' hp hq hh hd hg=>h1 T' mc' G' D' hp hq hh hd (Q2.trans ((CW.trans (jR.app _ _)).trans hg)))
     simp only[qT]at kk;exact hR _ (bk (by repeat' constructor) kk)
    ·have kk:=ih (ps.filter fun i=>i != q) (some q) (D++[(k,c)]) _ mc _ (by omega) (lM.filter _) (fun p h=>hp p (cc.1 h).1) qb (Ml.app [Ob.box 150 [V.i .i64 k.1,V.s k.2,V.i .i64 0]]) (N5.app _) Rf (UT _) (US _)
      (fun T' mc' G' D' hp hq hh hd hg=>h1 T' mc' G' D' hp hq hh hd (Q2.trans ((CW.trans (jR.app _ _)).trans hg)))
     simp only[qT]at kk;exact hR _ (bk (by repeat' constructor) kk)
end Go.Proofs.Tryz
set_option maxRecDepth 4000
set_option maxHeartbeats 1000000
namespace Go.Proofs.Tryz
open Go Go.Pm Go.Bt
theorem u6{α β:Type}[DecidableEq α]{a:α}{b:β}:∀ {C:List (α×β)},bo a C=some b→(a,b)∈C
 | [],h=>by simp[bo,db]at h
 | p::C,h=>by
  rw[fT]at h;split at h
  ·rename_i e;cases h;rw[e];exact me ..
  ·exact di _ (u6 h)
theorem AZ{β:Type}(L:List LE)(id:Int)(q:List It→Option β):((L.filterMap fun e=>(q e.2.1).map fun c=>(e.1,c)).filter fun p=>!(p.1==id))=(iM L id).filterMap fun e=>(q e.2.1).map fun c=>(e.1,c):=by
 induction L with
 | nil=>rfl
 | cons e L ih =>
  unfold iM at ih ⊢;rw[dz]
  by_cases h:e.1=id
  ·rw[aC (by simp[h])];cases hq:q e.2.1 with
   | none=>rw[tE (by rw[hq];rfl)];exact ih
   | some c=>rw[tD (by rw[hq];rfl),iW (by simp[h])];exact ih
  ·rw[aQ (by simp[h])];cases hq:q e.2.1 with
   | none=>rw[tE (by rw[hq];rfl),tE (by rw[hq];rfl)];exact ih
   | some c=>rw[tD (by rw[hq];rfl),tD (by rw[hq];rfl),ga (by simp[h]),ih]
theorem HA{α β:Type}{C:List (α×β)}(hn:(C.map (·.1)).Nodup){x y:α×β}(hx:x∈C)(hy:y∈C)(e:x.1=y.1):x=y:=by
 induction C with
 | nil=>cases hx
 | cons p C ih =>
  have CS:=cP.1 hn;rcases bn.1 hx with h1 | h1<;>rcases bn.1 hy with h2 | h2
  ·rw[h1,h2]
  ·exact absurd (aT.2 ⟨y,h2,by rw[← e,h1]⟩) CS.1
  ·exact absurd (aT.2 ⟨x,h1,by rw[e,h2]⟩) CS.1
  ·exact ih CS.2 h1 h2
theorem Gu{β:Type}{L:List LE}(hn:(L.map (·.1)).Nodup){id:Int}{l:List It}{m:Nat}(hm:(id,(l,m))∈L)(q:List It→Option β)(hq:q l=none):((L.filterMap fun e=>(q e.2.1).map fun c=>(e.1,c)).filter fun p=>!(p.1==id))=L.filterMap fun e=>(q e.2.1).map fun c=>(e.1,c):=by
 rw[iQ];intro p hp;obtain⟨e,he,h2⟩:=jt.1 hp;obtain⟨c,h3,h4⟩:=ah.1 h2;subst h4
 by_cases h:e.1=id
 ·exfalso
  have:e=(id,(l,m)):=by
   exact HA hn he hm h
  rw[this]at h3;rw[hq]at h3;cases h3
 ·simp[h]
theorem OG{L:List LE}(hn:(L.map (·.1)).Nodup){id:Int}{l:List It}{m:Nat}(hm:(id,(l,m))∈L):ic (xb L) id (bK (aI l))=xb (iM L id):=by
 funext k;have hK:=(fS (aI l) [] [] 0 CN.nil).2.1;have hp:=fc (aI l);rw[rT];split
 ·exact AZ L id fun l=>bo k (dn [] [] (aI l))
 ·rename_i h
  have hq:bo k (dn [] [] (aI l))=none:=by
   rw[← nj hK hp];cases hg:bo k (bK (aI l))with
   | none=>rfl
   | some c=>exact absurd ((fE k _).2 (by rw[hg];rfl)) h
  exact(Gu hn hm (fun l=>bo k (dn [] [] (aI l))) hq).symm.trans (AZ L id fun l=>bo k (dn [] [] (aI l)))
theorem OF{L:List LE}(hn:(L.map (·.1)).Nodup){id:Int}{l:List It}{m:Nat}(hm:(id,(l,m))∈L){D:List (TK×Int)}(hp:D.Perm (gV [] l)):ic (uI L) id D=uI (iM L id):=by
 funext k;have hK:=(qF l [] 0 CN.nil).2.1;rw[rT];split
 ·exact AZ L id fun l=>bo k (gV [] l)
 ·rename_i h
  have hq:bo k (gV [] l)=none:=by
   rw[← nj hK hp];cases hg:bo k D with
   | none=>rfl
   | some c=>exact absurd ((fE k _).2 (by rw[hg];rfl)) h
  exact(Gu hn hm (fun l=>bo k (gV [] l)) hq).symm.trans (AZ L id fun l=>bo k (gV [] l))
theorem RQ{L:List LE}{id:Int}{l:List It}{m:Nat}(hm:(id,(l,m))∈L){g:Gr}(hg:g∈bK (aI l)):xb L g.1≠[]:=by
 have hK:=(fS (aI l) [] [] 0 CN.nil).2.1;have hp:=fc (aI l)
 have h1:(bo g.1 (dn [] [] (aI l))).isSome:=by
  rw[← nj hK hp];exact(fE _ _).1 (fx hg)
 obtain⟨c,hc⟩:=lH.1 h1;intro e;have:(id,c)∈xb L g.1:=jt.2 ⟨_,hm,by simp[hc]⟩;rw[e]at this;cases this
theorem RO{L:List LE}{id:Int}{l:List It}{m:Nat}(hm:(id,(l,m))∈L){g:TK×Int}(hg:g∈gV [] l):uI L g.1≠[]:=by
 have h1:(bo g.1 (gV [] l)).isSome:=(fE _ _).1 (fx hg);obtain⟨c,hc⟩:=lH.1 h1;intro e;have:(id,c)∈uI L g.1:=jt.2 ⟨_,hm,by simp[hc]⟩;rw[e]at this;cases this
theorem H9{E:Nat×Nat×Nat}(FB:Ob)(T:ae)(L:List LE)(G2:List (GK×(Nat×Nat)))(G3:List (TK×(Nat×Nat)))(J:ae)(hI:yo J.length T L G2 G3)(id:Int)(l:List It)(m:Nat)(hid:bo id L=some (l,m))(hL:L.length≤1024):
  PC prog 70 [.ptr (J.length+3) 0,.i .i64 id] (mg E J L G2 G3 FB T) (fun r S'=>r=.b true∧∃ E' T' G2' G3',S'=mg E' J (iM L id) G2' G3' FB T'∧yo J.length T' (iM L id) G2' G3'∧jR T T'):=by
 have hm:=u6 hid;refine PC.intro func70 c70 fun bz er=>aB ?_;simp only[p70,SS,seval];obtain⟨i,q1,q2⟩:=rQ (ve:=wv) wA id L 0 hI.keys _ hid;obtain⟨j,rfl,hj⟩:=hI.cls _ hm;simp only[dq,wv,bj]at q1;simp only[mg,qT,bX,q1,q2,oo,sV,VV,seval];have UM:=kh l;have Vj:=nQ (aI l);have WJ:=qF l [] 0 CN.nil;have DH:l.length<2^27:=hI.aew _ hm;have hgK:gH (bK (aI l)):=((fc (aI l)).map _).nodup_iff.2 (fS (aI l) [] [] 0 CN.nil).2.1;refine⟨rfl,rfl,?_⟩;simp only[aj];generalize I6:T++[_]=T1;have Q9:T1.length=T.length+1:=by rw[← I6];simp
 have uC:Bt.fB 190 (J.length+5) T1 G2 (xb L):=by rw[← I6];exact hI.p2.app _
 have Ye:Bt.fB 190 (J.length+5) T1 G3 (uI L):=by rw[← I6];exact hI.p3.app _
 have CW:jR T T1:=by rw[← I6];exact jR.app _ _
 have Br:T1[T.length]?=some (.box 162 (oo l (J.length+5+j))):=by rw[← I6];simp[oo,sV]
 have AS:∀ k,(xb L k).length<2^30:=fun k=>by
  have:(xb L k).length≤L.length:=eN _ _;omega
 have NX:∀ k,(uI L k).length<2^30:=fun k=>by
  have:(uI L k).length≤L.length:=eN _ _;omega
 refine cE.bk (fr':=(.ptr (J.length+3) 0::.i .i64 id::uu 3 (.ptr (J.length+(T.length+5)) 0::uu 22 (.sl 3 ((bK (aI l)).map ni)::.i .i64 (bK (aI l)).length::.i .i64 ([]:List Gr).length::uu 68 [])))) (by repeat' constructor) ((bK (aI l)).length+1) (Ka _ _ FB G3 (uI L) id (bK (aI l)) (by omega) (J.length+(T.length+5)) (bK (aI l)) [] T1 _ G2 (xb L) rfl uC Ye hI.Y4 AS (fun g hg=>RQ hm hg) hgK ?_);intro T2 eb' G2' CL Yb Sw DK;simp only[JE];intros;have DL:=DK.2 _ _ (CW.2 _ _ hj rfl) rfl;have iX:=DK.2 _ _ Br rfl;have ej:J.length+5+j=J.length+(j+5):=by omega
 simp only[oo,sV,ej]at iX;simp only[qT,iX,DL,VV,seval];have Q0:(emap fw dq (gV [] l)).length=(gV [] l).length:=lY _;refine cE.bk (fr':=(.ptr (J.length+3) 0::.i .i64 id::uu 66 (.it (J.length+(T2.length+5))::uu 30 []))) (by repeat' constructor) ((gV [] l).length+1) (J9 _ _ FB G2' _ id (gV [] l) WJ.2.1 j T2.length (uI L) NX (fun c hc=>RO hm hc) (gV [] l).length (List.range (emap fw dq (gV [] l)).length) none [] (T2++[_]) _ G3 (by simp[Q0]) lf (fun p hp=>by simpa[Q0]using hp) (by rw[Q0,bh,kn]) (Yb.app _) (CL.app _) Sw.symm ((jR.app _ _).2 _ _ DL rfl) (by rw[ej];simp) ?_);intro T3 mc' G3' D' hD X6 ox YG Vk;simp only[JE];intros;simp only[VV,seval];have hG:jR T T3:=CW.trans (DK.trans ((jR.app _ _).trans Vk));refine fO (.inr rfl) rfl (Wk.refl _ _) rfl ⟨rfl,(_,_,_),T3,G2',G3',rfl,⟨J0 hI.keys id,fun e he=>hI.aew e (cc.1 he).1,fun e he=>?_,?_,?_,YG.symm⟩,hG⟩
 ·obtain⟨i,e1,e2⟩:=hI.cls e (cc.1 he).1;exact⟨i,e1,hG.2 _ _ e2 rfl⟩
 ·rw[← OG hI.keys hm];exact ox
 ·rw[← OF hI.keys hm hD];exact X6
end Go.Proofs.Tryz

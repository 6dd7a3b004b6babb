/- A part of a proof; the claim's last text says of what. -/
import Derived.Test.YtlakkaamfadipaaGreatDoorV3
import Derived.Test.YtlakkaamfadipaaGreatDoorV29
import Derived.Test.YtlakkaamfadipaaGreatDoorV34
set_option linter.all false

namespace Go.Proofs.Tryz
open Go Go.Pm Go.Bt Go.Sort Go.Shelf
theorem JW{J:ae}{K:Exit→St→Prop}(ws:List (List UInt8))(bz:bK J)(hlen:ws.length<2^38):∀ (rest pre:List (List UInt8)) (C:List (GK×Int)) (last:List UInt8) (n:Nat),ws=pre++rest→CN n C→n+rest.length<2^39 →
  (∀ C' last',ek C last rest=bump C' (last',[]) 1→CN (n+rest.length) C'→((fj 3 (fh (.mp J.length) (fh (.s last') (fj 48 fo)))) fun ZZ=>K (.exit 0) ⟨ZZ,J++[.map 246 3 (emap oh ee C')]⟩)) →
  fJ J.length prog BW K (rest.length+1) ⟨(uu 3 (.mp J.length::.s last::uu 6 (.sl 1 (ws.map zA)::.i .i64 ws.length::.i .i64 pre.length::uu 39 []))),J++[.map 246 3 (emap oh ee C)]⟩:=by
 intro rest
 induction rest with
 | nil =>
  intro pre C last n he hC hn h1;have he:ws=pre:=by simpa using he
  subst he;refine aD fun R hR=>?_;simp only[BW,VV,seval];exact⟨fun h=>by simp at h,fun _=>h1 C last rfl hC ..⟩
 | cons w rest ih =>
  intro pre C last n he hC hn h1;subst he;have hlen':pre.length+1+rest.length<2^38:=by simp at hlen;omega
  have hw:IntKind.i64.wrap ((pre.length:Int)+1)=(((pre++[w]).length:Nat):Int):=by
   rw[bu (by omega)];simp
  simp only[ag]at hn;have hg:=hC.getD (last,w);have gB:∀ C,bK (J++[.map 246 3 (emap oh ee C)]):=fun C=>cv bz (by simp[ki]);have hB:=hC.bump (last,w)
  have Ys:∀ {C':List (GK×Int)},CN (n+1+rest.length) C'→CN (n+(w::rest).length) C':=fun h3=>by
   have e:n+(w::rest).length=n+1+rest.length:=by simp;omega
   rw[e];exact h3
  have ih':=ih (pre++[w]) (bump C (last,w) 1) w (n+1) (by simp) hB (by omega) (fun C' l' h2 h3=>h1 C' l' h2 (Ys h3));refine aD fun R hR=>?_;simp only[BW,zA,VV,seval];refine⟨fun _=>⟨by simp;omega,?_⟩,fun h=>by simp at h;omega⟩;rcases qm CE C (last,w)with⟨g1,g2,g3,g4,g5⟩ | ⟨i,b,g1,g2,g3,g4⟩
  ·have hz:IntKind.i64.wrap (0+1)=1:=by decide
   have uH:bump C (last,w) 1=eW C (last,w) 1:=by simp[bump,g1]
   rw[uH]at ih';simp only[oh]at g2 g3 g4 g5;simp only[cJ,g2,g3,g4,g5,hz,cW,V.iR,V.cell,VV,seval];have TN:IntKind.i64.wrap 1=1:=by decide
   simp only[hw,TN];refine hR _ (b7 [_] [_] (gB _) (by repeat' constructor) (by simp[LW]) ih')
  ·have hz:IntKind.i64.wrap (b+1)=b+1:=IntWalk.i64_in _ (by rw[g1]at hg;simp at hg;omega);have uH:bump C (last,w) 1=eW C (last,w) (b+1):=by simp[bump,g1]
   rw[uH]at ih';simp only[oh]at g2 g3 g4;simp only[cJ,g2,g3,g4,hz,cW,V.iR,V.cell,VV,seval];simp only[hw];refine hR _ (b7 [_] [_] (gB _) (by repeat' constructor) (by simp[LW]) ih')
theorem JV{J:ae}{K:Exit→St→Prop}(C:List (GK×Int))(k i0:Nat)(bz:bK J)(hm:C.length<2^39):∀ (N:Nat) (ps:List Nat) (cur:Option Nat) (out:List Gr) (g:Nat),ps.length≤N→ps.Nodup→(∀ p∈ps,p<C.length)→out.length≤C.length →
  (out++ps.map fun i=>C.getD i (([],[]),0)).Perm C →
  (∀ ps cur g (out':List Gr),out'.Perm C→((fj 7 (fh (.own (J.length+3) g) (fj 45 fo))) fun ZZ=>K (.exit 2) ⟨ZZ,J++[.map 246 3 (emap oh ee C),.iter true J.length 3 k [] (some i0),.iter false J.length 3 (emap oh ee C).length ps cur,.row 182 3 40 g false (out'.map pr)]⟩)) →
  fJ J.length prog xL K (N+1) ⟨(uu 7 (.own (J.length+3) g::uu 27 (.it (J.length+2)::uu 17 []))),J++[.map 246 3 (emap oh ee C),.iter true J.length 3 k [] (some i0),.iter false J.length 3 (emap oh ee C).length ps cur,.row 182 3 40 g false (out.map pr)]⟩:=by
 intro N
 induction N with
 | zero =>
  intro ps cur out g hl nq hp ho hs h1;have lx:ps=[]:=aL (by omega);subst lx;refine aD fun R hR=>?_;simp only[xL,VV,seval];exact h1 _ _ _ _ (by simpa using hs) ..
 | succ N ih =>
  intro ps cur out g hl nq hp ho hs h1;refine aD fun R hR=>?_;simp only[xL,VV,seval];refine⟨fun lx=>?_,fun q hq=>?_⟩
  ·subst lx;exact h1 _ _ _ _ (by simpa using hs) ..
  ·have A0:=hp q hq;have eH:=tz (ke:=oh) (ve:=ee) C (([],[]),0) A0;have Lw:=hs.length_eq;have TV:=nv nq hq;have qN:=mI hq;have zn:0<ps.length:=List.length_pos_of_mem hq;simp only[ak,ah]at Lw;simp only[eH,ee,oh,VV,seval];have e:out.map pr++[[.s (C.getD q (([],[]),0)).1.1,.s (C.getD q (([],[]),0)).1.2,.i .i64 (C.getD q (([],[]),0)).2]]=(out++[C.getD q (([],[]),0)]).map pr:=by simp[pr]
   rw[e];have gB:∀ C I o,bK (J++[.map 246 3 (emap oh ee C),.iter true J.length 3 k [] (some i0),.iter false J.length 3 (emap oh ee C).length (ps.filter fun i=>i != q) I,.row 182 3 40 (g+1) false o]):=fun C I o=>cv bz (by simp[ki]);refine⟨by simp only[ah,maxLen];omega,hR _ (b7 [_,_,_,_] [_] (gB _ _ _) (by repeat' constructor) (by simp[LW]) (ih (ps.filter fun i=>i != q) (some q) (out++[C.getD q (([],[]),0)]) (g+1) (by omega) (nq.filter _) (fun p h=>hp p (cU.1 h).1) (by simp;omega) ?_ h1))⟩;refine List.Perm.trans ?_ hs;rw[aY];refine List.Perm.append_left _ ?_;exact((TV.map fun i=>C.getD i (([],[]),0)).symm)
theorem Ew(a b:Gr)(J:ae):PC prog 223 [.agg (pr a),.agg (pr b)] J (fun r J'=>r=.i .i64 (vA a b)∧J'=J):=by
 refine PC.intro func223 abS fun bz dH=>aB ?_;simp only[Wp,SS,seval];simp only[pr,VV,seval];refine aC (CL a.1.1 b.1.1 _) rfl ?_;simp only[VV,seval];refine aC (CL a.1.2 b.1.2 _) rfl ?_;simp only[VV,seval];refine ly (zs:=[.sl 1 ([fZ a.1.1 b.1.1,fZ a.1.2 b.1.2].map b5)]) (.cons (.lit _ _) .nil) (Tc _ _) ?_;simp only[VV,seval];exact bk bz (.inr rfl) rfl (by simp[LW]) ⟨rfl,rfl⟩
theorem L1{α:Type}{c:α→α→Int}(h:jq c)(l:List α):SWO (ltOf fun(i j:Fin l.length)=>c l[i] l[j]):=by
 refine⟨fun x=>?_,fun x y z h1 h2=>?_,fun x y z h1 h2=>?_⟩
 ·simp only[ltOf,dn,h.self];omega
 ·simp only[ltOf,aU]at *;have k1:=h.lI l[x] l[y];have k2:=h.lI l[y] l[z];have k3:=h.lI l[x] l[z];have:=h.gt (a:=l[z]) (b:=l[y]) (d:=l[x]) (by omega) (by omega);omega
 ·simp only[ltOf,dn]at *;have:=h.trans l[x] l[y] l[z] (by omega) (by omega);omega
theorem Jb(ws:List (List UInt8))(l:List Gr)(hp:l.Perm (ek [] [] ws))(hl:l.length<2^30)(id g:Nat)(J:ae)(h1:J[id]?=some (.row 182 3 40 g false (l.map pr))):
  PC prog 222 [.own id g,.fn 223 []] J (fun r J'=>r=.fu []∧J'=J.set id (.row 182 3 40 g false ((b9 ws).map pr))):=by
 refine PC.mono (PC.Ma Tryz.V1 (k:=3) Tryz.isAgg182 Tryz.sizeOf182 pr (fun x=>by simp[pr]) (by omega) vA (enters_of func223 (by kernel_rfl) rfl) l (fun x hx y hy=>(Ew x y _).mono fun r J' h=>h.1) (L1 kg l) hl h1) ?_;rintro r J' ⟨l',yc,hs,rfl,rfl⟩;exact⟨rfl,by rw[z6 (yc.trans hp) hs];rfl⟩
theorem Pu:Ti prog 182 3 40:=nA (by kernel_rfl)
theorem NR(ws:List (List UInt8))(hlen:ws.length<2^29)(J:ae):PC prog 179 [.sl 1 (ws.map zA)] J (fun r J'=>r=.sl 3 ((b9 ws).map pr)∧J'=J):=by
 refine PC.intro func179 ace fun bz dH=>aB ?_;simp only[WL,SS,seval];simp only[ah,VV,seval];refine cc.bd (fr':=(uu 3 (.mp J.length::.s []::uu 6 (.sl 1 (ws.map zA)::.i .i64 ws.length::.i .i64 ([]:List (List UInt8)).length::uu 39 [])))) (by repeat' constructor) (ws.length+1) (JW ws bz (by omega) ws [] [] [] 0 rfl CN.nil (by omega) fun C' last' hb hC=>?_);simp only[JE];intros;have hB:=hC.bump (last',[]);have hg:=hC.getD (last',[]);have gB:∀ C a b,bK (J++[.map 246 3 (emap oh ee C),.iter true J.length 3 a [] (some b)]):=fun C a b=>cv bz (by simp[ki])
 have fin:∀ (C:List (GK×Int)) (k i0:Nat),C=ek [] [] ws→CN (0+ws.length+1) C→cc J.length prog xL.loop
  (yS 2 (Jf (wq J.length prog ((bH.ax [] [{ d:=some 50,g:=[],i:=I.aT (O.t 7) },{ d:=some 51,g:=[],i:=I.call 222 [O.t 50,O.c (V.fn 223 [])] }]).seq
      ((bH.ax [] [{ d:=some 52,g:=[],i:=I.aT (O.t 7) },{ d:=some 2,g:=[],i:=I.aT (O.t 52) }]).seq bH.ret))
     (rM prog J.length [Rs.t 2] fun r J'=>r=V.sl 3 (List.map pr (b9 ws))∧J'=J))
    (rM prog J.length [Rs.t 2] fun r J'=>r=V.sl 3 (List.map pr (b9 ws))∧J'=J)))
   ⟨(uu 7 (.nil::uu 27 (.it (J.length+2)::uu 17 []))),J++[.map 246 3 (emap oh ee C),.iter true J.length 3 k [] (some i0),.iter false J.length 3 (emap oh ee C).length (List.range (emap oh ee C).length) none]⟩:=by
  intro C k i0 hC hN;have hl:(emap oh ee C).length=C.length:=oo C;have hlC:=hN.1;refine cc.wk ((Wk.kN (P:=prog) (k:=7) [_,_,_] Pu rfl).trans (Wk.iS ?_)) (cc.wy (C.length+1) (JV C k i0 bz (by omega) C.length (List.range (emap oh ee C).length) none [] 0 (by simp[hl]) lK (fun p hp=>by simpa[hl]using hp) (by simp) (by rw[hl,aW,my]) ?_))
  ·simp only[VV,seval]
   repeat' constructor
  ·intro ps cur g out' hp;simp only[JE];intros;simp only[VV,seval];refine aC (Jb ws out' (by rw[← hC];exact hp) (by rw[hp.length_eq];omega) _ g _ (by simp only[VV,seval])) rfl ?_;simp only[VV,seval];refine pO 3 bz (.inr rfl) (by simp only[RS,seval];rfl) rfl ?_ ?_
   ·simp only[az,bD,Pm.fz,rf,kY,aO,LW]
   ·simp only[az,bD,Pm.fz,rf,kY,aO];exact⟨rfl,trivial⟩
 rcases qm CE C' (last',[])with⟨g1,g2,g3,g4,g5⟩ | ⟨i,b,g1,g2,g3,g4⟩
 ·have hz:IntKind.i64.wrap (0+1)=1:=by decide
  have TN:IntKind.i64.wrap 1=1:=by decide
  have uH:bump C' (last',[]) 1=eW C' (last',[]) 1:=by simp[bump,g1]
  simp only[oh]at g2 g3 g4 g5;simp only[cJ,g2,g3,g4,g5,hz,TN,cW,V.iR,V.cell,VV,seval];exact cc.wk (Wk.iS (by repeat' constructor)) (fin _ _ _ (by rw[hb,uH]) (uH▸hB))
 ·have hz:IntKind.i64.wrap (b+1)=b+1:=IntWalk.i64_in _ (by rw[g1]at hg;simp at hg;omega);have uH:bump C' (last',[]) 1=eW C' (last',[]) (b+1):=by simp[bump,g1]
  simp only[oh]at g2 g3 g4;simp only[cJ,g2,g3,g4,hz,cW,V.iR,V.cell,VV,seval];exact cc.wk (Wk.iS (by repeat' constructor)) (fin _ _ _ (by rw[hb,uH]) (uH▸hB))
end Go.Proofs.Tryz
namespace Go.Proofs.Tryz
open Go Go.Pm Go.Bt
theorem FI(x:It)(J:ae):PC prog 225 [.agg x.ahq] J (fun r J'=>r=.b (bG x)∧J'=J):=by
 refine PC.intro func225 abQ fun bz dH=>aB ?_;simp only[Wn,It.ahq,SS,seval];simp only[VV,seval];exact lA bz (by simp only[RS,seval];rfl) (by simp only[LW])
theorem oH(x:It)(J:ae):PC prog 183 [.agg x.ahq] J (fun r J'=>r=.b (bG x)∧J'=J):=by
 refine PC.intro func183 ab9 fun bz dH=>aB ?_;simp only[WH,It.ahq,SS,seval];simp only[VV,seval];exact lA bz (by simp only[RS,seval];rfl) (by simp only[LW])
theorem Ow(x:It)(J:ae):PC prog 182 [.agg x.ahq] J (fun r J'=>r=.fu [.agg (bZ x).1.ahq,.b (bZ x).2]∧J'=J):=by
 refine PC.intro func182 aca fun bz dH=>aB ?_;simp only[WI,It.ahq,SS,seval];rcases Lg (x.ahr=6∨x.ahr=7∨x.ahr=8∨x.ahr=9∨x.ahr=5)with hk | hk
 ·have hc:bZ x=(⟨x.ahr,dW x,0⟩,true):=by simp only[bZ,aI hk]
  have e6:(x.ahr==6)=false∨(x.ahr==6)=true:=by cases(x.ahr==6)<;>simp
  have e7:(x.ahr==7)=false∨(x.ahr==7)=true:=by cases(x.ahr==7)<;>simp
  have e8:(x.ahr==8)=false∨(x.ahr==8)=true:=by cases(x.ahr==8)<;>simp
  have e9:(x.ahr==9)=false∨(x.ahr==9)=true:=by cases(x.ahr==9)<;>simp
  have e5:(x.ahr==5)=false∨(x.ahr==5)=true:=by cases(x.ahr==5)<;>simp
  rcases e6 with e6 | e6<;>rcases e7 with e7 | e7<;>rcases e8 with e8 | e8<;>rcases e9 with e9 | e9<;>rcases e5 with e5 | e5<;>first | (exfalso;simp at e6 e7 e8 e9 e5;omega) | skip
  all_goals
   simp only[e6,e7,e8,e9,e5,↓IT,VV,seval];refine aC (qB x _) rfl ?_;simp only[VV,seval];exact bk bz (.inr rfl) (by simp only[RS,seval];rfl) (by simp only[LW]) ⟨by rw[hc];rfl,rfl⟩
 ·have hc:bZ x=(⟨x.ahr,x.aht,0⟩,bG x):=by simp only[bZ,aw hk]
  have e6:(x.ahr==6)=false:=by simp;omega
  have e7:(x.ahr==7)=false:=by simp;omega
  have e8:(x.ahr==8)=false:=by simp;omega
  have e9:(x.ahr==9)=false:=by simp;omega
  have e5:(x.ahr==5)=false:=by simp;omega
  simp only[e6,e7,e8,e9,e5,↓IT,VV,seval];refine aC (FI x _) rfl ?_;simp only[VV,seval];exact bk bz (.inr rfl) (by simp only[RS,seval];rfl) (by simp only[LW]) ⟨by rw[hc];rfl,rfl⟩
def wC(gs:List Gr)(m:Nat)(p w t ahF:Int):List V:=[.sl 3 (gs.map pr),.mp m,.i .i64 p,.i .i64 w,.i .i64 t,.i .i64 ahF]
theorem kQ{J:ae}{A:Ob}(hA:bK (J++[A]))(C:List (TK×Int))(gs:List Gr)(p w t tot:Int):bK (J++[A,.map 150 3 (emap ie ee C),.box 162 (wC gs (J.length+1) p w t tot)]):=by
 have:=cv hA (l:=[.map 150 3 (emap ie ee C),.box 162 (wC gs (J.length+1) p w t tot)]) (by simp[ki,wC,LW]);simpa using this
theorem J7{J:ae}{K:Exit→St→Prop}(A:Ob)(l:List It)(gs:List Gr)(tot:Int)(hA:bK (J++[A]))(hlen:gs.length<2^30)(Cz:∀ g∈gs,0≤g.2∧g.2≤2^30):∀ (rest pre:List Gr) (n:Int),gs=pre++rest→0≤n∧n≤2^30*(pre.length:Int) →
  ((fh (.sl 3 (l.map It.ahq)) (fj 1 (fh (.ptr J.length 0) (fh (.ptr (J.length+2) 0) (fj 67 fo))))) fun ZZ=>K (.exit 0) ⟨ZZ,J++[A,.map 150 3 [],.box 162 (wC gs (J.length+1) (BJ n rest) 0 0 tot)]⟩) →
  fJ J.length prog Ca K (rest.length+1) ⟨(.sl 3 (l.map It.ahq)::uu 1 (.ptr J.length 0::.ptr (J.length+2) 0::uu 14 (.sl 3 (gs.map pr)::.i .i64 gs.length::.i .i64 pre.length::uu 50 []))),J++[A,.map 150 3 [],.box 162 (wC gs (J.length+1) n 0 0 tot)]⟩:=by
 intro rest
 induction rest with
 | nil =>
  intro pre n he hn h1;have he:gs=pre:=by simpa using he
  subst he;refine aD fun R hR=>?_;simp only[Ca,VV,seval];exact⟨fun h=>by simp at h,fun _=>h1 ..⟩
 | cons g rest ih =>
  intro pre n he hn h1;subst he;have hlen':pre.length+1+rest.length<2^30:=by simp at hlen;omega
  have hg:=Cz g (by simp)
  have hw:IntKind.i64.wrap ((pre.length:Int)+1)=(((pre++[g]).length:Nat):Int):=by
   rw[bu (by omega)];simp
  have AX:IntKind.i64.wrap (n+g.2)=n+g.2:=IntWalk.i64_in _ (by omega);have hb:0≤n+g.2∧n+g.2≤2^30*(((pre++[g]).length:Nat):Int):=by simp;omega
  refine aD fun R hR=>?_;simp only[Ca,wC,pr,VV,seval];refine⟨fun _=>⟨by simp;omega,?_⟩,fun h=>by simp at h;omega⟩;simp only[hw,AX,VV,seval];exact hR _ (b7 [_,_,_] [_] (kQ hA [] (pre++g::rest) (n+g.2) 0 0 tot) (by repeat' constructor) (by simp[LW]) (ih (pre++[g]) (n+g.2) (by simp) hb (by simpa[BJ]using h1)))
theorem J6{J:ae}{K:Exit→St→Prop}(A:Ob)(l:List It)(gs:List Gr)(tot p:Int)(hA:bK (J++[A]))(hlen:l.length<2^30):∀ (rest pre:List It) (C:List (TK×Int)) (w t:Int),l=pre++rest→CN pre.length C→0≤w∧w≤4*(pre.length:Int)→0≤t∧t≤(pre.length:Int) →
  ((fj 2 (fh (.ptr J.length 0) (fh (.ptr (J.length+2) 0) (fj 67 fo)))) fun ZZ=>K (.exit 2) ⟨ZZ,J++[A,.map 150 3 (emap ie ee (jK C rest)),.box 162 (wC gs (J.length+1) p (Ak w rest) (Ar t rest) tot)]⟩) →
  fJ J.length prog B9 K (rest.length+1) ⟨(uu 2 (.ptr J.length 0::.ptr (J.length+2) 0::uu 29 (.sl 3 (l.map It.ahq)::.i .i64 l.length::.i .i64 pre.length::uu 35 []))),J++[A,.map 150 3 (emap ie ee C),.box 162 (wC gs (J.length+1) p w t tot)]⟩:=by
 intro rest
 induction rest with
 | nil =>
  intro pre C w t he hC hw ht h1;have he:l=pre:=by simpa using he
  subst he;refine aD fun R hR=>?_;simp only[B9,VV,seval];exact⟨fun h=>by simp at h,fun _=>h1 ..⟩
 | cons x rest ih =>
  intro pre C w t he hC hw ht h1;subst he;have hlen':pre.length+1+rest.length<2^30:=by simp at hlen;omega
  have Im:IntKind.i64.wrap ((pre.length:Int)+1)=(((pre++[x]).length:Nat):Int):=by
   rw[bu (by omega)];simp
  have zn:(((pre++[x]).length:Nat):Int)=(pre.length:Int)+1:=by simp
  have hxw:=me (bZ x).1;have AX:IntKind.i64.wrap (w+weight (bZ x).1)=w+weight (bZ x).1:=IntWalk.i64_in _ (by omega);have Sl:IntKind.i64.wrap (t+1)=t+1:=IntWalk.i64_in _ (by omega);have hg:=hC.getD (dq (bZ x).1);have hB:=hC.bump (dq (bZ x).1);have hid:(bZ x).1.id=0:=by unfold bZ;split<;>rfl
  have Yc:(pre++[x]).length=pre.length+1:=by simp
  refine aD fun R hR=>?_;simp only[B9,wC,It.ahq,VV,seval];refine⟨fun _=>⟨by simp;omega,?_⟩,fun h=>by simp at h;omega⟩;refine aC (Ow x _) rfl ?_;simp only[Im,It.ahq,hid,VV,seval];refine⟨fun h2=>?_,fun h2=>?_⟩
  ·have h3:(bZ x).2=false:=by simpa using h2
   have ih':=ih (pre++[x]) C w t (by simp) (by rw[Yc];exact⟨by have:=hC.1;omega,hC.2.1,fun k v hv=>by have:=hC.2.2 k v hv;omega⟩) (by omega) (by omega) (by simpa only[jK,Ak,Ar,h3,dN,aA,aJ]using h1);exact hR _ (b7 [_,_,_] [_,_] (kQ hA _ _ _ _ _ _) (by repeat' constructor) (by simp[LW]) ih')
  ·have h3:(bZ x).2=true:=by simpa using h2
   rcases qm wY C (dq (bZ x).1)with⟨g1,g2,g3,g4,g5⟩ | ⟨i,b,g1,g2,g3,g4⟩
   ·have hz:IntKind.i64.wrap (0+1)=1:=by decide
    have TN:IntKind.i64.wrap 1=1:=by decide
    have uH:bump C (dq (bZ x).1) 1=eW C (dq (bZ x).1) 1:=by simp[bump,g1]
    simp only[ie,dq]at g2 g3 g4 g5;simp only[cJ,g2,g3,g4,g5,hz,TN,cW,V.iR,V.cell,VV,seval];refine aC (oH (bZ x).1 _) (by simp only[It.ahq,hid,VV,seval]) ?_;simp only[VV,seval];have YB:CN (pre++[x]).length (bump C (dq (bZ x).1) 1):=by rw[Yc];exact hB
    refine⟨fun h4=>?_,fun h4=>?_⟩
    ·simp only[Im,Sl,VV,seval];have ih':=ih (pre++[x]) (bump C (dq (bZ x).1) 1) w (t+1) (by simp) YB (by omega) (by omega) (by simpa only[jK,Ak,Ar,h3,h4,cm,uZ,eB,aA,aO,aJ]using h1);rw[uH]at ih';exact hR _ (b7 [_,_,_] [_,_,_] (kQ hA _ gs p w (t+1) tot) (by repeat' constructor) (by simp[LW]) ih')
    ·refine aC (kb (bZ x).1 _) (by simp only[It.ahq,hid,VV,seval]) ?_;simp only[Im,AX,VV,seval];have ih':=ih (pre++[x]) (bump C (dq (bZ x).1) 1) (w+weight (bZ x).1) t (by simp) YB (by omega) (by omega) (by simpa only[jK,Ak,Ar,h3,h4,cm,dQ,jF,fT,aA,aO,aJ]using h1);rw[uH]at ih';exact hR _ (b7 [_,_,_] [_,_,_] (kQ hA _ gs p (w+weight (bZ x).1) t tot) (by repeat' constructor) (by simp[LW]) ih')
   ·have hz:IntKind.i64.wrap (b+1)=b+1:=IntWalk.i64_in _ (by rw[g1]at hg;simp at hg;omega);have uH:bump C (dq (bZ x).1) 1=eW C (dq (bZ x).1) (b+1):=by simp[bump,g1]
    simp only[ie,dq]at g2 g3 g4;simp only[cJ,g2,g3,g4,hz,cW,V.iR,V.cell,VV,seval];refine aC (oH (bZ x).1 _) (by simp only[It.ahq,hid,VV,seval]) ?_;simp only[VV,seval];have YB:CN (pre++[x]).length (bump C (dq (bZ x).1) 1):=by rw[Yc];exact hB
    refine⟨fun h4=>?_,fun h4=>?_⟩
    ·simp only[Im,Sl,VV,seval];have ih':=ih (pre++[x]) (bump C (dq (bZ x).1) 1) w (t+1) (by simp) YB (by omega) (by omega) (by simpa only[jK,Ak,Ar,h3,h4,cm,uZ,eB,aA,aO,aJ]using h1);rw[uH]at ih';exact hR _ (b7 [_,_,_] [_,_,_] (kQ hA _ gs p w (t+1) tot) (by repeat' constructor) (by simp[LW]) ih')
    ·refine aC (kb (bZ x).1 _) (by simp only[It.ahq,hid,VV,seval]) ?_;simp only[Im,AX,VV,seval];have ih':=ih (pre++[x]) (bump C (dq (bZ x).1) 1) (w+weight (bZ x).1) t (by simp) YB (by omega) (by omega) (by simpa only[jK,Ak,Ar,h3,h4,cm,dQ,jF,fT,aA,aO,aJ]using h1);rw[uH]at ih';exact hR _ (b7 [_,_,_] [_,_,_] (kQ hA _ gs p (w+weight (bZ x).1) t tot) (by repeat' constructor) (by simp[LW]) ih')
def qD(l:List It)(m:Nat):List V:=wC (b9 (aS l)) m (gR l).ed (gR l).weight (gR l).tags (gH l)
def S9(l:List It)(n:Nat):ae:=[.box 162 (qD l (n+1)),.map 150 3 (emap ie ee (jK [] l)),.box 162 (qD l (n+1))]
theorem Au(l:List It)(hlen:l.length<2^27)(J:ae):PC prog 118 [.sl 3 (l.map It.ahq)] J (fun r J'=>r=.agg (qD l (J.length+1))∧J'=J++S9 l J.length):=by
 refine PC.intro func118 acN fun bz dH=>aB ?_;simp only[Xl,SS,seval];have QF:=ml l;have Zh:=rY (aS l);have hgv:=ym (aS l);simp only[VV,seval];refine aC (LM l (by omega) _) rfl ?_;simp only[VV,seval];refine aC (NR (aS l) (by omega) _) rfl ?_;simp only[VV,seval];refine aC (wX l (by omega) _) rfl ?_;simp only[ah,VV,seval];have hA:bK (J++[.box 162 [.nil,.dx,.i .i64 0,.i .i64 0,.i .i64 0,.i .i64 0]]):=cv bz (by simp[LW]);refine cc.bd (fr':=(.sl 3 (l.map It.ahq)::uu 1 (.ptr J.length 0::.ptr (J.length+2) 0::uu 14 (.sl 3 ((b9 (aS l)).map pr)::.i .i64 (b9 (aS l)).length::.i .i64 ([]:List Gr).length::uu 50 [])))) (by repeat' constructor) ((b9 (aS l)).length+1) (J7 _ l (b9 (aS l)) (gH l) hA (by omega) (fun g hg=>by have:=hgv g hg;omega) (b9 (aS l)) [] 0 rfl (by simp) ?_);simp only[JE];intros;simp only[wC,ah,VV,seval];refine cc.bd (fr':=(uu 2 (.ptr J.length 0::.ptr (J.length+2) 0::uu 29 (.sl 3 (l.map It.ahq)::.i .i64 l.length::.i .i64 ([]:List It).length::uu 35 [])))) (by repeat' constructor) (l.length+1) (J6 _ l (b9 (aS l)) (gH l) (BJ 0 (b9 (aS l))) hA (by omega) l [] [] 0 0 rfl CN.nil (by simp) (by simp) ?_);simp only[JE];intros;simp only[wC,VV,seval];exact fM (.inr rfl) (by simp only[RS,seval];rfl) (Wk.refl _ _) rfl ⟨rfl,rfl⟩
end Go.Proofs.Tryz
set_option maxRecDepth 4000
set_option maxHeartbeats 1000000
namespace Go.Proofs.Tryz
open Go Go.Pm Go.Bt
def Eg(n:Nat):Ob:=.box 170 [.mp n,.mp (n+1),.mp (n+2)]
theorem MQ{J:ae}{n0:Nat}{K:Exit→St→Prop}(M1 M3 FB:Ob)(H:List (TK×(Nat×Nat)))(f3:TK→List (Int×Int))(id:Int)(gs:List Gr)(hlen:gs.length<2^30)(j9:Nat):∀ (rest pre:List Gr) (T:ae) (G:List (GK×(Nat×Nat))) (f:GK→List (Int×Int)),gs=pre++rest→Bt.jM 190 (J.length+5) T G f→Bt.jM 190 (J.length+5) T H f3→Hh G H→(∀ k,(f k).length+rest.length<2^30) →
  (∀ T' G',Bt.jM 190 (J.length+5) T' G' (iP f id rest)→Bt.jM 190 (J.length+5) T' H f3→Hh G' H→pt T T'→((fh (.ptr (J.length+3) 0) (fh (.i .i64 id) (fj 7 (fh (.ptr j9 0) (fj 79 fo))))) fun ZZ=>K (.exit 0) ⟨ZZ,J++(M1::.map 184 185 (emap oh nC G')::M3::Eg J.length::FB::T')⟩)) →
  fJ n0 prog HN K (rest.length+1) ⟨(.ptr (J.length+3) 0::.i .i64 id::uu 7 (.ptr j9 0::uu 32 (.sl 3 (gs.map pr)::.i .i64 gs.length::.i .i64 pre.length::uu 44 []))),J++(M1::.map 184 185 (emap oh nC G)::M3::Eg J.length::FB::T)⟩:=by
 intro rest
 induction rest with
 | nil =>
  intro pre T G f he hP hH hD hf h1;have he:gs=pre:=by simpa using he
  subst he;refine aD fun R hR=>?_;simp only[HN,VV,seval];exact⟨fun h=>by simp at h,fun _=>h1 T G hP hH hD (pt.refl T) ..⟩
 | cons g rest ih =>
  intro pre T G f he hP hH hD hf h1;subst he;have hlen':pre.length+1+rest.length<2^30:=by simp at hlen;omega
  have hw:IntKind.i64.wrap ((pre.length:Int)+1)=(((pre++[g]).length:Nat):Int):=by
   rw[bu (by omega)];simp
  refine aD fun R hR=>?_;simp only[HN,pr,Eg,VV,seval];refine⟨fun _=>⟨by simp;omega,?_⟩,fun h=>by simp at h;omega⟩;rcases uO (ve:=nC) CE G g.1 with⟨g1,g2,g3,g4,g5⟩ | ⟨i,b,g1,g2,g3,g4⟩
  ·simp only[oh]at g2 g3 g4 g5;simp only[cJ,g2,g3,g4,g5,cW,V.iR,V.cell,VV,seval];have hT3:(T++[Ob.box 182 [V.s g.1.1,V.s g.1.2,V.i .i64 g.2],Ob.box 184 [V.s g.1.1,V.s g.1.2],Ob.iter true (J.length+1) 185 ((emap oh nC G).length+1) [] (some (emap oh nC G).length)]).length=T.length+3:=by simp
   have jg:=(hP.app [Ob.box 182 [V.s g.1.1,V.s g.1.2,V.i .i64 g.2],Ob.box 184 [V.s g.1.1,V.s g.1.2],Ob.iter true (J.length+1) 185 ((emap oh nC G).length+1) [] (some (emap oh nC G).length)]).new g1 (id,g.2);rw[hT3]at jg;have hv:V.own (J.length+(T.length+3+1+1+1+1+1)) 0=nC (J.length+5+(T.length+3),0):=by simp only[nC];congr 1;omega
   simp only[hv,g5,hw];have k:=ih (pre++[g]) _ _ _ (by simp) jg ((hH.app _).app _) (hD.new hH _ _ (by omega)) (fun k=>by have:=hf k;simp only[oV,ag]at *;split<;>simp<;>omega) (fun T' G' hp hh hd hg=>h1 T' G' hp hh hd ((pt.app _ _).trans ((pt.app _ _).trans hg)));simp only[gW,BK,aY,bg,aW,az,bD,Eg]at k;exact⟨by decide,hR _ (bd (by repeat' constructor) k)⟩
  ·simp only[oh]at g2 g3 g4;obtain⟨r,g0⟩:=b;obtain⟨j,rfl,hj⟩:=hP.row _ _ _ g1;have kH:=(ab.1 hj).1;have ej:J.length+5+j=J.length+(j+5):=by omega
   have Uk:∀ l,(T++l)[j]?=some (.row 190 2 16 g0 false ((f g.1).map BK)):=fun l=>by rw[ai kH];exact hj
   have Uj:∀ l o,(T++l).set j o=T.set j o++l:=fun l o=>gF _ _ kH;have hTk:∀ o l k,(T.set j o++l)[T.length+k]?=l[k]?:=fun o l k=>by rw[aH (by simp)];simp
   have qN:=hf g.1;simp only[nC,ej]at g2 g3;simp only[cJ,g2,g3,g4,Uk,Uj,hTk,cW,V.iR,V.cell,VV,seval];have QV:=(hP.add g1 (id,g.2)).app [Ob.box 182 [V.s g.1.1,V.s g.1.2,V.i .i64 g.2],Ob.box 184 [V.s g.1.1,V.s g.1.2],Ob.iter true (J.length+1) 185 (emap oh nC G).length [] (some i)];have hH2:=(hH.other (gW 190 (g0+1) (f g.1++[(id,g.2)])) (fun k r g' hk=>fun e=>hD _ _ _ _ _ _ g1 hk e.symm)).app [Ob.box 182 [V.s g.1.1,V.s g.1.2,V.i .i64 g.2],Ob.box 184 [V.s g.1.1,V.s g.1.2],Ob.iter true (J.length+1) 185 (emap oh nC G).length [] (some i)];have hv:V.own (J.length+(j+5)) (g0+1)=nC (J.length+5+j,g0+1):=by simp only[nC];congr 1;omega
   have hr:(f g.1).map BK++[[V.i .i64 id,V.i .i64 g.2]]=(f g.1++[(id,g.2)]).map BK:=by simp[BK]
   simp only[hv,g4,hr,hw];have k:=ih (pre++[g]) _ _ _ (by simp) QV hH2 (hD.add g1 _) (fun k=>by have:=hf k;simp only[oV,ag]at *;split<;>simp<;>omega) (fun T' G' hp hh hd hg=>h1 T' G' hp hh hd (((pt.setRow hj _).trans (pt.app _ _)).trans hg));simp only[gW,aY,bg,aW,Eg]at k;exact⟨by simp only[ah,maxLen,ag]at *;omega,hR _ (bd (by repeat' constructor) k)⟩
end Go.Proofs.Tryz
set_option maxRecDepth 4000
set_option maxHeartbeats 1000000
namespace Go.Proofs.Tryz
open Go Go.Pm Go.Bt
theorem MP{J:ae}{n0:Nat}{K:Exit→St→Prop}(M1 M2 FB:Ob)(H:List (GK×(Nat×Nat)))(f3:GK→List (Int×Int))(id:Int)(C:List (TK×Int))(hK:iU C)(hC:C.length<2^29)(jc ji:Nat)(f0:TK→List (Int×Int))(QP:∀ k,(f0 k).length<2^29):∀ (N:Nat) (ps:List Nat) (cur:Option Nat) (D:List (TK×Int)) (T:ae) (G:List (TK×(Nat×Nat))),ps.length≤N→ps.Nodup→(∀ p∈ps,p<C.length)→(D++ps.map fun i=>C.getD i ((0,[]),0)).Perm C →
  Bt.jM 190 (J.length+5) T G (iP f0 id D)→Bt.jM 190 (J.length+5) T H f3→Hh G H→T[jc]?=some (.map 150 3 (emap ie ee C))→T[ji]?=some (.iter false (J.length+5+jc) 3 (emap ie ee C).length ps cur) →
  (∀ T' G' D',D'.Perm C→Bt.jM 190 (J.length+5) T' G' (iP f0 id D')→Bt.jM 190 (J.length+5) T' H f3→Hh G' H→pt T T'→((fh (.ptr (J.length+3) 0) (fj 88 fo)) fun ZZ=>K (.exit 2) ⟨ZZ,J++(M1::M2::.map 150 185 (emap ie nC G')::Eg J.length::FB::T')⟩)) →
  fJ n0 prog HM K (N+1) ⟨(.ptr (J.length+3) 0::.i .i64 id::uu 68 (.it (J.length+(ji+5))::uu 18 [])),J++(M1::M2::.map 150 185 (emap ie nC G)::Eg J.length::FB::T)⟩:=by
 intro N
 induction N with
 | zero =>
  intro ps cur D T G hl nq hp hs hP hH hD hc hi h1;have lx:ps=[]:=aL (by omega);subst lx;have ec:J.length+5+jc=J.length+(jc+5):=by omega
  rw[ec]at hi;refine aD fun R hR=>?_;simp only[HM,Eg,hc,hi,VV,seval];exact h1 _ _ D (by simpa using hs) hP hH hD (pt.refl T) ..
 | succ N ih =>
  intro ps cur D T G hl nq hp hs hP hH hD hc hi h1;have ec:J.length+5+jc=J.length+(jc+5):=by omega
  rw[ec]at hi;have pq:=(ab.1 hi).1;have ig:ji≠jc:=fun e=>by subst e;rw[hc]at hi;simp at hi
  have Gw:∀ o,(T.set ji o)[ji]?=some o:=fun o=>ao pq;have Lp:∀ o,(T.set ji o)[jc]?=some (.map 150 3 (emap ie ee C)):=fun o=>by rw[aK ig];exact hc
  refine aD fun R hR=>?_;simp only[HM,Eg,hc,hi,Gw,Lp,VV,seval];refine⟨fun lx=>?_,fun q hq=>?_⟩
  ·subst lx;exact h1 _ _ D (by simpa using hs) hP hH hD (pt.refl T) ..
  ·have A0:=hp q hq;have eH:=tz (ke:=ie) (ve:=ee) C ((0,[]),0) A0;have TV:=nv nq hq;have qN:=mI hq
   have nrow:∀ {α:Type} [DecidableEq α] {G:List (α×(Nat×Nat))} {f:α→List (Int×Int)},Bt.jM 190 (J.length+5) T G f→∀ k r g,bS k G=some (r,g)→r≠J.length+5+ji:=fun h k r g hk e=>by
    obtain⟨j,e1,e2⟩:=h.row k r g hk;have:j=ji:=by omega
    subst this;rw[hi]at e2;simp[gW]at e2
   have hPs:=fun o=>hP.other o (nrow hP);have hHs:=fun o=>hH.other o (nrow hH);have Cz:=fun o=>pt.set hi rfl o
   have A1:((D++[C.getD q ((0,[]),0)])++(ps.filter fun i=>i != q).map fun i=>C.getD i ((0,[]),0)).Perm C:=by
    refine List.Perm.trans ?_ hs;rw[aY];refine List.Perm.append_left _ ?_;exact((TV.map fun i=>C.getD i ((0,[]),0)).symm)
   have hdl:D.length<2^29:=by have:=hs.length_eq;simp at this;omega
   generalize Ze:C.getD q ((0,[]),0)=kc at eH A1;obtain⟨k,c⟩:=kc;have QV:oV (iP f0 id D) k (id,c)=iP f0 id (D++[(k,c)]):=(He f0 id D (k,c)).symm;have hfk:∀ k,(iP f0 id D k).length+1<2^30:=fun k=>by have:=Bi id k D f0;have:=QP k;omega
   simp only[eH,ee,ie,VV,seval];have qM:=Gw (.iter false (J.length+(jc+5)) 3 (emap ie ee C).length (ps.filter fun i=>i != q) (some q));have XV:=Lp (.iter false (J.length+(jc+5)) 3 (emap ie ee C).length (ps.filter fun i=>i != q) (some q));have Zs:=hPs (.iter false (J.length+(jc+5)) 3 (emap ie ee C).length (ps.filter fun i=>i != q) (some q));have Zv:=hHs (.iter false (J.length+(jc+5)) 3 (emap ie ee C).length (ps.filter fun i=>i != q) (some q));have hgi:=Cz (.iter false (J.length+(jc+5)) 3 (emap ie ee C).length (ps.filter fun i=>i != q) (some q));generalize T.set ji (.iter false (J.length+(jc+5)) 3 (emap ie ee C).length (ps.filter fun i=>i != q) (some q))=T1 at qM XV Zs Zv hgi ⊢;clear Gw Lp hPs hHs Cz hi hc hP hH nrow;rcases uO (ve:=nC) wY G k with⟨g1,g2,g3,g4,g5⟩ | ⟨i,b,g1,g2,g3,g4⟩
   ·simp only[ie]at g2 g3 g4 g5;simp only[cJ,g2,g3,g4,g5,cW,V.iR,V.cell,VV,seval];have hT3:(T1++[Ob.box 150 [V.i .i64 k.1,V.s k.2,V.i .i64 0],Ob.iter true (J.length+2) 185 ((emap ie nC G).length+1) [] (some (emap ie nC G).length)]).length=T1.length+2:=by simp
    have jg:=(Zs.app [Ob.box 150 [V.i .i64 k.1,V.s k.2,V.i .i64 0],Ob.iter true (J.length+2) 185 ((emap ie nC G).length+1) [] (some (emap ie nC G).length)]).new g1 (id,c);rw[hT3,QV]at jg;have hv:V.own (J.length+(T1.length+2+1+1+1+1+1)) 0=nC (J.length+5+(T1.length+2),0):=by simp only[nC];congr 1;omega
    simp only[hv,g5]
    have kk:=ih (ps.filter fun i=>i != q) (some q) (D++[(k,c)]) _ _ (by omega) (nq.filter _) (fun p h=>hp p (cU.1 h).1) A1 jg ((Zv.app _).app _) (hD.new Zv _ _ (by omega)) (((pt.app _ _).trans (pt.app _ _)).2 _ _ XV rfl) (by rw[ec,aY,ai (ab.1 qM).1];exact qM)
     (fun T' G' D' hp hq hh hd hg=>h1 T' G' D' hp hq hh hd (hgi.trans (((pt.app _ _).trans (pt.app _ _)).trans hg)))
    simp only[gW,BK,aY,bg,aW,az,bD,Eg]at kk;exact⟨by decide,hR _ (bd (by repeat' constructor) kk)⟩
   ·obtain⟨r,g0⟩:=b;obtain⟨j,rfl,hj⟩:=Zs.row _ _ _ g1;have kH:=(ab.1 hj).1;have ej:J.length+5+j=J.length+(j+5):=by omega
    have Uk:∀ l,(T1++l)[j]?=some (.row 190 2 16 g0 false ((iP f0 id D k).map BK)):=fun l=>by rw[ai kH];exact hj
    have Uj:∀ l o,(T1++l).set j o=T1.set j o++l:=fun l o=>gF _ _ kH;have hTk:∀ o l k,(T1.set j o++l)[T1.length+k]?=l[k]?:=fun o l k=>by rw[aH (by simp)];simp
    have qN:=hfk k;simp only[nC,ie,ej]at g2 g3;simp only[ie]at g4;simp only[cJ,g2,g3,g4,Uk,Uj,hTk,cW,V.iR,V.cell,VV,seval];have Sy:=(Zs.add g1 (id,c)).app [Ob.box 150 [V.i .i64 k.1,V.s k.2,V.i .i64 0],Ob.iter true (J.length+2) 185 (emap ie nC G).length [] (some i)];rw[QV]at Sy;have hH2:=(Zv.other (gW 190 (g0+1) (iP f0 id D k++[(id,c)])) (fun k r g' hk=>fun e=>hD _ _ _ _ _ _ g1 hk e.symm)).app [Ob.box 150 [V.i .i64 k.1,V.s k.2,V.i .i64 0],Ob.iter true (J.length+2) 185 (emap ie nC G).length [] (some i)];have hv:V.own (J.length+(j+5)) (g0+1)=nC (J.length+5+j,g0+1):=by simp only[nC];congr 1;omega
    have hr:(iP f0 id D k).map BK++[[V.i .i64 id,V.i .i64 c]]=(iP f0 id D k++[(id,c)]).map BK:=by simp[BK]
    simp only[hv,g4,hr];have Yk:pt T1 (T1.set j (gW 190 (g0+1) (iP f0 id D k++[(id,c)]))++[Ob.box 150 [V.i .i64 k.1,V.s k.2,V.i .i64 0],Ob.iter true (J.length+2) 185 (emap ie nC G).length [] (some i)]):=(pt.setRow hj _).trans (pt.app _ _);have hnj:j≠ji:=fun e=>by subst e;rw[qM]at hj;simp[gW]at hj
    have kk:=ih (ps.filter fun i=>i != q) (some q) (D++[(k,c)]) _ _ (by omega) (nq.filter _) (fun p h=>hp p (cU.1 h).1) A1 Sy hH2 (hD.add g1 _) (Yk.2 _ _ XV rfl) (by rw[ec,ai (by rw[zt];exact(ab.1 qM).1),aK hnj];exact qM)
     (fun T' G' D' hp hq hh hd hg=>h1 T' G' D' hp hq hh hd (hgi.trans (Yk.trans hg)))
    simp only[gW,aY,bg,aW,Eg]at kk;exact⟨by simp only[ah,maxLen];omega,hR _ (bd (by repeat' constructor) kk)⟩
end Go.Proofs.Tryz
set_option maxRecDepth 4000
set_option maxHeartbeats 1000000
namespace Go.Proofs.Tryz
open Go Go.Pm Go.Bt
abbrev LE:=Int×(List It×Nat)
def zQ(e:List It×Nat):V:=.agg (qD e.1 e.2)
def GW(L:List LE)(k:GK):List (Int×Int):=L.filterMap fun e=>(bS k (ek [] [] (aS e.2.1))).map fun c=>(e.1,c)
def Fm(L:List LE)(k:TK):List (Int×Int):=L.filterMap fun e=>(bS k (jK [] e.2.1)).map fun c=>(e.1,c)
structure C3 (n:Nat) (T:ae) (L:List LE) (G2:List (GK×(Nat×Nat))) (G3:List (TK×(Nat×Nat))):Prop where
 keys:(L.map (·.1)).Nodup
 ahE:∀ e∈L,e.2.1.length<2^27
 cls:∀ e∈L,∃ j,e.2.2=n+5+j∧T[j]?=some (.map 150 3 (emap ie ee (jK [] e.2.1)))
 p2:Bt.jM 190 (n+5) T G2 (GW L)
 p3:Bt.jM 190 (n+5) T G3 (Fm L)
 dis:Hh G2 G3
def s6(J:ae)(L:List LE)(G2:List (GK×(Nat×Nat)))(G3:List (TK×(Nat×Nat)))(FB:Ob)(T:ae):ae :=
 J++(.map 3 162 (emap ee zQ L)::.map 184 185 (emap oh nC G2)::.map 150 185 (emap ie nC G3)::Eg J.length::FB::T)
theorem Cr(a b:Int):bX 0 (ee a) (ee b)=some (decide (a=b)):=Gl a b
theorem N9(L:List LE)(id:Int)(l:List It)(m:Nat):iP (GW L) id (b9 (aS l))=GW (L++[(id,(l,m))]):=by
 funext k;have hK:=(jx (aS l) [] [] 0 CN.nil).2.1;have hp:=ix (aS l);have hK2:iU (b9 (aS l)):=(hp.map _).nodup_iff.2 hK;rw[yZ id k _ _ hK2,A8 hK hp];simp only[GW,List.filterMap_append,fW,List.filterMap_nil];cases bS k (ek [] [] (aS l))<;>simp
theorem N7(L:List LE)(id:Int)(l:List It)(m:Nat){D:List (TK×Int)}(hp:D.Perm (jK [] l)):iP (Fm L) id D=Fm (L++[(id,(l,m))]):=by
 funext k;have hK:=(yK l [] 0 CN.nil).2.1;have hK2:iU D:=(hp.map _).nodup_iff.2 hK;rw[yZ id k _ _ hK2,A8 hK hp];simp only[Fm,List.filterMap_append,fW,List.filterMap_nil];cases bS k (jK [] l)<;>simp
theorem C3.snoc{n:Nat}{T T':ae}{L:List LE}{G2 G2':List (GK×(Nat×Nat))}{G3 G3':List (TK×(Nat×Nat))}(h:C3 n T L G2 G3)(hg:pt T T'){id:Int}(hid:bS id L=none){l:List It}(hl:l.length<2^27){j:Nat}
  (hc:T'[j]?=some (.map 150 3 (emap ie ee (jK [] l)))) {D:List (TK×Int)} (hD:D.Perm (jK [] l)) (p2:Bt.jM 190 (n+5) T' G2' (iP (GW L) id (b9 (aS l)))) (p3:Bt.jM 190 (n+5) T' G3' (iP (Fm L) id D)) (hd:Hh G2' G3') :
  C3 n T' (L++[(id,(l,n+5+j))]) G2' G3':=by
 refine⟨?_,fun e he=>?_,fun e he=>?_,?_,?_,hd⟩
 ·rw[eN,fR];refine⟨h.keys,by simp,fun x hx y hy e=>?_⟩;simp only[az,bD,b6]at hy;subst hy;subst e;have:=(nE x L).1 hx;rw[hid]at this;cases this
 ·rcases bP.1 he with h1 | h1
  ·exact h.ahE e h1
  ·simp only[b6]at h1;subst h1;exact hl
 ·rcases bP.1 he with h1 | h1
  ·obtain⟨i,e1,e2⟩:=h.cls e h1;exact⟨i,e1,hg.2 _ _ e2 rfl⟩
  ·simp only[b6]at h1;subst h1;exact⟨j,rfl,hc⟩
 ·rw[← N9];exact p2
 ·rw[← N7 L id l _ hD];exact p3
theorem Km(FB:Ob)(T:ae)(L:List LE)(G2:List (GK×(Nat×Nat)))(G3:List (TK×(Nat×Nat)))(J:ae)(hI:C3 J.length T L G2 G3)(id:Int)(hid:bS id L=none)(hL:L.length<1024)(l:List It)(hl:l.length<2^27):
  PC prog 72 [.ptr (J.length+3) 0,.i .i64 id,.sl 3 (l.map It.ahq)] (s6 J L G2 G3 FB T) (fun r S'=>r=.b true∧∃ T' m G2' G3',S'=s6 J (L++[(id,(l,m))]) G2' G3' FB T'∧C3 J.length T' (L++[(id,(l,m))]) G2' G3'∧pt T T'):=by
 refine PC.intro func72 c72 fun bz dH=>aB ?_;simp only[p72,SS,seval];rcases uO (ve:=zQ) Cr L id with⟨g1,g2,g3,g4,g5⟩ | ⟨i,b,g1,g2,g3,g4⟩
 ·simp only[ee]at g2 g3 g4 g5;have hlen:(emap ee zQ L).length=L.length:=by simp[emap]
  have hd:decide ((1024:Int)≤(L.length:Int))=false:=by simp;omega
  simp only[s6,Eg,cJ,g2,hlen,hd,VV,seval];refine⟨rfl,?_⟩;refine aC (Au l hl _) rfl ?_;simp only[S9,qD,wC,cJ,g2,cW,V.iR,V.cell,VV,seval];refine⟨rfl,?_⟩;have e7:J.length+(T.length+1+1+1+1+1+1)+1=J.length+(T.length+2+5):=by omega
  have e9:J.length+(T.length+4+1+1+1+1+1)=J.length+(T.length+4+5):=by omega
  simp only[e7,e9,ah];have QF:=ml l;have Zh:=rY (aS l);have hCN:=yK l [] 0 CN.nil;generalize VB:T++[_,_,_,_,_]=T1;have YA:T1.length=T.length+5:=by rw[← VB];simp
  have yc:Bt.jM 190 (J.length+5) T1 G2 (GW L):=by rw[← VB];exact hI.p2.app _
  have hp3:Bt.jM 190 (J.length+5) T1 G3 (Fm L):=by rw[← VB];exact hI.p3.app _
  have Yk:pt T T1:=by rw[← VB];exact pt.app _ _
  have hc1:T1[T.length+2]?=some (.map 150 3 (emap ie ee (jK [] l))):=by rw[← VB];simp
  have Fj:T1[T.length+4]?=some (.box 162 (qD l (J.length+(T.length+2+5)))):=by rw[← VB];simp[qD,wC]
  have Eu:∀ k,(GW L k).length+(b9 (aS l)).length<2^30:=fun k=>by
   have:(GW L k).length≤L.length:=jr _ _;omega
  have Uc:∀ k,(Fm L k).length<2^29:=fun k=>by
   have:(Fm L k).length≤L.length:=jr _ _;omega
  refine cc.bd (fr':=(.ptr (J.length+3) 0::.i .i64 id::uu 7 (.ptr (J.length+(T.length+4+5)) 0::uu 32 (.sl 3 ((b9 (aS l)).map pr)::.i .i64 (b9 (aS l)).length::.i .i64 ([]:List Gr).length::uu 44 [])))) (by repeat' constructor) ((b9 (aS l)).length+1) (MQ _ _ FB G3 (Fm L) id (b9 (aS l)) (by omega) (J.length+(T.length+4+5)) (b9 (aS l)) [] T1 G2 (GW L) rfl yc hp3 hI.dis Eu ?_);intro T2 G2' Lq hq3 Zo Vv;simp only[JE];intros;have zo:=Vv.2 _ _ hc1 rfl;have jA:=Vv.2 _ _ Fj rfl;simp only[qD,wC]at jA;simp only[Eg,jA,zo,VV,seval];have ej:J.length+5+(T.length+2)=J.length+(T.length+2+5):=by omega
  have hlc:(emap ie ee (jK [] l)).length=(jK [] l).length:=oo _;refine cc.bd (fr':=(.ptr (J.length+3) 0::.i .i64 id::uu 68 (.it (J.length+(T2.length+5))::uu 18 []))) (by repeat' constructor) ((jK [] l).length+1) (MP _ _ FB G2' _ id (jK [] l) hCN.2.1 (by have:=hCN.1;omega) (T.length+2) T2.length (Fm L) Uc (jK [] l).length (List.range (emap ie ee (jK [] l)).length) none [] (T2++[_]) G3 (by simp[hlc]) lK (fun p hp=>by simpa[hlc]using hp) (by rw[hlc,aW,my]) (hq3.app _) (Lq.app _) Zo.symm ((pt.app _ _).2 _ _ zo rfl) (by rw[ej];simp) ?_);intro T3 G3' D' hD hr3 sA hd3 hg3;simp only[JE];intros;simp only[VV,seval];refine fM (.inr rfl) rfl (Wk.refl _ _) rfl ⟨rfl,T3,J.length+5+(T.length+2),G2',G3',?_,?_,?_⟩
  ·have:emap ee zQ (L++[(id,(l,J.length+5+(T.length+2)))])=emap ee zQ L++[(V.i .i64 id,V.agg (qD l (J.length+(T.length+2+5))))]:=by rw[← ej];simp[emap,ee,zQ]
   rw[this];rfl
  ·exact hI.snoc (Yk.trans (Vv.trans ((pt.app _ _).trans hg3))) hid hl (hg3.2 _ _ ((pt.app _ _).2 _ _ zo rfl) rfl) hD sA hr3 hd3.symm
  ·exact Yk.trans (Vv.trans ((pt.app _ _).trans hg3))
 ·rw[hid]at g1;cases g1
theorem E8(a b c:Sm)(ha:a.ok (2^40))(hb:b.ok (2^40))(hc:c.ok (2^40))(J:ae):PC prog 120 [.agg (AA a),.agg (AA b),.agg (AA c)] J (fun r J'=>r=.i .i64 (qt a b c)∧J'=J):=by
 refine PC.intro func120 G9 fun bz dH=>aB ?_;obtain⟨a1,a2,a3⟩:=ha;obtain⟨b1,b2,b3⟩:=hb;obtain⟨c1,c2,c3⟩:=hc;simp only[Xj,AA,SS,seval];have m1:∀ x y:Int,(if x<y then y else x)=mx x y:=fun _ _=>rfl;have hmw:0≤mx a.weight b.weight∧mx a.weight b.weight≤2^40:=by unfold mx;split<;>omega
 have hmp:0≤mx a.ed b.ed∧mx a.ed b.ed≤2^40:=by unfold mx;split<;>omega
 have w1:IntKind.i64.wrap (mx a.weight b.weight - c.weight)=mx a.weight b.weight - c.weight:=IntWalk.i64_in _ (by omega);have w2:IntKind.i64.wrap (a.tags+b.tags)=a.tags+b.tags:=IntWalk.i64_in _ (by omega);have w3:IntKind.i64.wrap (2*c.tags)=2*c.tags:=IntWalk.i64_in _ (by omega);have w4:IntKind.i64.wrap (a.tags+b.tags - 2*c.tags)=a.tags+b.tags - 2*c.tags:=IntWalk.i64_in _ (by omega);have w5:IntKind.i64.wrap (3*(a.tags+b.tags - 2*c.tags))=3*(a.tags+b.tags - 2*c.tags):=IntWalk.i64_in _ (by omega);have w6:IntKind.i64.wrap (mx a.weight b.weight - c.weight+3*(a.tags+b.tags - 2*c.tags))=mx a.weight b.weight - c.weight+3*(a.tags+b.tags - 2*c.tags):=IntWalk.i64_in _ (by omega);have w7:IntKind.i64.wrap (mx a.ed b.ed - c.ed)=mx a.ed b.ed - c.ed:=IntWalk.i64_in _ (by omega);have w8:IntKind.i64.wrap (mx a.ed b.ed - c.ed+1)=mx a.ed b.ed - c.ed+1:=IntWalk.i64_in _ (by omega);have hq:=Hw (mx a.ed b.ed - c.ed+1) (2^41) 2 (by omega) (by omega);have w9:IntKind.i64.wrap ((mx a.ed b.ed - c.ed+1).tdiv 2)=(mx a.ed b.ed - c.ed+1).tdiv 2:=IntWalk.i64_in _ (by omega);have w10:IntKind.i64.wrap (4*(mx a.ed b.ed - c.ed+1).tdiv 2)=4*(mx a.ed b.ed - c.ed+1).tdiv 2:=IntWalk.i64_in _ (by omega);simp only[m1,w1,w2,w3,w4,w5,w6,w7,w8,w9,w10,VV,seval];exact lA bz (by simp only[RS,seval];rfl) (by simp only[LW])
theorem yX(t p:Int)(ht:0≤t∧t≤2^40)(hp : -(2^40)≤p∧p≤2^40)(J:ae):PC prog 121 [.i .i64 t,.i .i64 p] J (fun r J'=>r=.i .i64 (ky t p)∧J'=J):=by
 refine PC.intro func121 acL fun bz dH=>aB ?_;simp only[Xi,SS,seval];simp only[VV,seval];refine⟨fun h=>?_,fun h=>⟨fun h2=>?_,fun h2=>?_⟩⟩
 ·have h1:100<p:=by simpa using h
  exact aR (.inr rfl) rfl ⟨by simp only[ky,aI h1,one];rfl,rfl⟩
 ·have h1:¬ 100<p:=by simpa using h
  have h3:p<1∨t<1:=by simpa using h2
  exact aR (.inr rfl) rfl ⟨by simp only[ky,aw h1,aI h3,one];rfl,rfl⟩
 ·have h1:¬ 100<p:=by simpa using h
  have h3:¬ (p<1∨t<1):=by simp only[ja,dn]at h2;omega
  have hm:0≤(if 1073741824<t then 1073741824 else t)∧(if 1073741824<t then 1073741824 else t)≤1073741824:=by split<;>omega
  have w1:IntKind.i64.wrap (100 - p)=100 - p:=IntWalk.i64_in _ (by omega);have Iq:(if 1073741824<t then 1073741824 else t)*(100 - p)≤1073741824*100:=Vh hm.2 (by omega) (by omega) (by omega);have Fi:0≤(if 1073741824<t then 1073741824 else t)*(100 - p):=sv hm.1 (by omega);have w2:IntKind.i64.wrap ((if 1073741824<t then 1073741824 else t)*(100 - p))=(if 1073741824<t then 1073741824 else t)*(100 - p):=IntWalk.i64_in _ (by omega);have hq:=Hw ((if 1073741824<t then 1073741824 else t)*(100 - p)) (1073741824*100) 100 (by omega) (by omega);have w3:IntKind.i64.wrap (((if 1073741824<t then 1073741824 else t)*(100 - p)).tdiv 100)=((if 1073741824<t then 1073741824 else t)*(100 - p)).tdiv 100:=IntWalk.i64_in _ (by omega);simp only[w1,w2,w3];exact aR (.inr rfl) rfl ⟨by simp only[ky,aw h1,aw h3,one];rfl,rfl⟩
end Go.Proofs.Tryz
set_option maxRecDepth 4000
set_option maxHeartbeats 1000000
namespace Go.Proofs.Tryz
open Go Go.Pm Go.Bt
theorem J5{S:ae}{K:Exit→St→Prop}(x:Nat)(hx:x<S.length)(B3 B7:Ob)(g:Gr)(hg:0≤g.2)(r g0:Nat)(gs:List Gr)(Vk:Nat)(ps:List (Int×Int))(lx:∀ p∈ps,0≤p.2)(hlen:ps.length<2^30)(hr:S[r]?=some (gW 190 g0 ps))(hB7:B7=.box 182 (pr g))(bz:∀ O:List mU,bK (S++[B3,.map 3 160 (emap ee mg O),B7])):∀ (rest pre:List (Int×Int)) (O:List mU) (m:Int),ps=pre++rest→OB m O→m+iq (iY g.2 rest)≤2^40 →
  ((fh (.ptr x 0) (fj 2 (fh (.ptr S.length 0) (fj 1 (fh (.mp (S.length+1)) (fj 1 (fh (.ptr (S.length+2) 0) (fj 10 (fh (.sl 3 (gs.map pr)) (fh (.i .i64 gs.length) (fh (.i .i64 Vk) (fj 87 fo)))))))))))) fun ZZ=>K (.exit 2) ⟨ZZ,S++[B3,.map 3 160 (emap ee mg (cZ O (iY g.2 rest))),B7]⟩) →
  fJ S.length prog uk K (rest.length+1) ⟨(.ptr x 0::uu 2 (.ptr S.length 0::uu 1 (.mp (S.length+1)::uu 1 (.ptr (S.length+2) 0::uu 10 (.sl 3 (gs.map pr)::.i .i64 gs.length::.i .i64 Vk::uu 12 (.own r g0::.i .i64 ps.length::.i .i64 pre.length::uu 72 [])))))),S++[B3,.map 3 160 (emap ee mg O),B7]⟩:=by
 have qZ:=(ab.1 hr).1;have sA:∀ l,(S++l)[r]?=some (.row 190 2 16 g0 false (ps.map BK)):=fun l=>by rw[ai qZ];exact hr
 intro rest
 induction rest with
 | nil =>
  intro pre O m he hO hm h1;have he:ps=pre:=by simpa using he
  subst he;refine aD fun R hR=>?_;simp only[uk,VV,seval];exact⟨fun h=>by simp at h,fun _=>h1 ..⟩
 | cons p rest ih =>
  intro pre O m he hO hm h1;have zn:ps.length=pre.length+1+rest.length:=by rw[he];simp;omega
  have hw:IntKind.i64.wrap ((pre.length:Int)+1)=(((pre++[p]).length:Nat):Int):=by
   rw[bu (by omega)];simp
  have eH:(ps.map BK).getD pre.length []=BK p:=by rw[he];simp[ar]
  have hd:decide ((pre.length:Int)<(ps.length:Int))=true:=by simp;omega
  have QM:∀ a b:Int,(if b<a then b else a)=mn a b:=fun _ _=>rfl;subst hB7;refine aD fun R hR=>?_;simp only[BK]at eH;have Fi:=lx p (by rw[he];simp);have T0:0≤mn p.2 g.2:=by unfold mn;split<;>omega
  have NH:iY g.2 (p::rest)=(p.1,(⟨mn p.2 g.2,0,0⟩:Sm))::iY g.2 rest:=rfl
  have O6:Lj (iY g.2 rest):=fun i hi=>by
   simp only[iY,bI]at hi;obtain⟨q,hq,rfl⟩:=hi;have:=lx q (by rw[he];simp[hq]);exact⟨by simp only[mn];split<;>omega,cj _,cj _⟩
  have hsn:=qF O6;rw[NH,ud]at hm;have fE:(⟨mn p.2 g.2,0,0⟩:Sm).size=mn p.2 g.2:=by simp[Sm.size]
  have Zt:=hO.add (i:=(p.1,(⟨mn p.2 g.2,0,0⟩:Sm))) ⟨T0,cj _,cj _⟩;have gU:=hO.getD p.1;have hO0:=hO.1;simp only[fE]at hm Zt;have ih':=ih (pre++[p]) (rj O (p.1,⟨mn p.2 g.2,0,0⟩)) (m+mn p.2 g.2) (by rw[he];simp) Zt (by omega) (by rw[NH]at h1;exact h1);have nG:=bz (rj O (p.1,⟨mn p.2 g.2,0,0⟩));simp only[pr]at ih' nG;rcases iF (ve:=mg) Cr O p.1 with⟨g1,g2,g3⟩ | ⟨i,b,g1,g2,g3⟩
  ·simp only[ee]at g2 g3;have hz:IntKind.i64.wrap (0+mn p.2 g.2)=0+mn p.2 g.2:=IntWalk.i64_in _ (by omega);have e:mg ((rk).add ⟨mn p.2 g.2,0,0⟩)=.agg [.i .i64 (0+mn p.2 g.2),.i .i64 0,.i .i64 0]:=by simp[mg,AA,rk,Sm.add]
   have e2:rj O (p.1,⟨mn p.2 g.2,0,0⟩)=eW O p.1 ((rk).add ⟨mn p.2 g.2,0,0⟩):=by simp[rj,g1]
   have g4:=g3 ((rk).add ⟨mn p.2 g.2,0,0⟩);rw[e]at g4;rw[e2]at ih' nG;simp only[uk,pr,sA,eH,hd,QM,cJ,g2,hz,aM,ah,cW,V.iR,V.cell,VV,seval];simp only[hw,g4];exact⟨⟨by omega,by omega⟩,rfl,rfl,hR _ (b7 [_,_,_] [_,_] nG (by repeat' constructor) (by simp[LW];omega) ih')⟩
  ·simp only[ee]at g2 g3;obtain⟨bp,bw,bt⟩:=b;rw[g1]at gU;simp only[fB]at gU;obtain⟨⟨o1,o2⟩,⟨o3,o4⟩,o5,o6⟩:=gU;simp only at o1 o2 o3 o4 o5 o6;have hz:IntKind.i64.wrap (bp+mn p.2 g.2)=bp+mn p.2 g.2:=IntWalk.i64_in _ (by omega);have e:mg ((⟨bp,bw,bt⟩:Sm).add ⟨mn p.2 g.2,0,0⟩)=.agg [.i .i64 (bp+mn p.2 g.2),.i .i64 bw,.i .i64 bt]:=by simp[mg,AA,Sm.add]
   have e2:rj O (p.1,⟨mn p.2 g.2,0,0⟩)=eW O p.1 ((⟨bp,bw,bt⟩:Sm).add ⟨mn p.2 g.2,0,0⟩):=by simp[rj,g1]
   have g4:=g3 ((⟨bp,bw,bt⟩:Sm).add ⟨mn p.2 g.2,0,0⟩);rw[e]at g4;rw[e2]at ih' nG;simp only[uk,pr,sA,eH,hd,QM,cJ,g2,hz,mg,AA,aM,ah,cW,V.iR,V.cell,VV,seval];simp only[hw,g4];exact⟨⟨by omega,by omega⟩,rfl,rfl,hR _ (b7 [_,_,_] [_,_] nG (by repeat' constructor) (by simp[LW];omega) ih')⟩
theorem J4{S:ae}{K:Exit→St→Prop}(x m1 m2 m3:Nat)(hx:S[x]?=some (.box 170 [.mp m1,.mp m2,.mp m3]))(B3:Ob)(G2:List (GK×(Nat×Nat)))(f2:GK→List (Int×Int))(h2:S[m2]?=some (.map 184 185 (emap oh nC G2)))
  (ck:∀ k r g,bS k G2=some (r,g)→S[r]?=some (gW 190 g (f2 k))) (Nz:∀ k,bS k G2=none→f2 k=[]) (QP:∀ k,∀ p∈f2 k,0≤p.2) (qN:∀ k,(f2 k).length<2^30) (gs:List Gr) (Cz:∀ g∈gs,0≤g.2) (hlen:gs.length<2^30) (bz:∀ O:List mU,bK (S++[B3,.map 3 160 (emap ee mg O)])):∀ (rest pre:List Gr) (O:List mU) (m:Int),gs=pre++rest→OB m O→m+iq (rest.flatMap fun g=>iY g.2 (f2 g.1))≤2^40 →
  ((fh (.ptr x 0) (fj 2 (fh (.ptr S.length 0) (fj 1 (fh (.mp (S.length+1)) (fj 102 fo)))))) fun ZZ=>K (.exit 0) ⟨ZZ,S++[B3,.map 3 160 (emap ee mg (cZ O (rest.flatMap fun g=>iY g.2 (f2 g.1))))]⟩) →
  fJ S.length prog xR K (rest.length+1) ⟨(.ptr x 0::uu 2 (.ptr S.length 0::uu 1 (.mp (S.length+1)::uu 12 (.sl 3 (gs.map pr)::.i .i64 gs.length::.i .i64 pre.length::uu 87 [])))),S++[B3,.map 3 160 (emap ee mg O)]⟩:=by
 have qd:=(ab.1 hx).1;have Il:∀ l,(S++l)[x]?=some (.box 170 [.mp m1,.mp m2,.mp m3]):=fun l=>by rw[ai qd];exact hx
 have h2l:=(ab.1 h2).1;have h22:∀ l,(S++l)[m2]?=some (.map 184 185 (emap oh nC G2)):=fun l=>by rw[ai h2l];exact h2
 intro rest
 induction rest with
 | nil =>
  intro pre O m he hO hm h1;have he:gs=pre:=by simpa using he
  subst he;refine aD fun R hR=>?_;simp only[xR,VV,seval];exact⟨fun h=>by simp at h,fun _=>h1 ..⟩
 | cons g rest ih =>
  intro pre O m he hO hm h1;have zn:gs.length=pre.length+1+rest.length:=by rw[he];simp;omega
  have hw:IntKind.i64.wrap ((pre.length:Int)+1)=(((pre++[g]).length:Nat):Int):=by
   rw[bu (by omega)];simp
  have eH:(gs.map pr).getD pre.length []=pr g:=by rw[he];simp[ar]
  have hd:decide ((pre.length:Int)<(gs.length:Int))=true:=by simp;omega
  have hI:(g::rest).flatMap (fun g=>iY g.2 (f2 g.1))=iY g.2 (f2 g.1)++rest.flatMap fun g=>iY g.2 (f2 g.1):=by simp
  rw[hI,nS]at hm;rw[hI]at h1;have hA:cZ O (iY g.2 (f2 g.1)++rest.flatMap fun g=>iY g.2 (f2 g.1))=cZ (cZ O (iY g.2 (f2 g.1))) (rest.flatMap fun g=>iY g.2 (f2 g.1)):=by simp[cZ]
  rw[hA]at h1
  have O6:Lj (iY g.2 (f2 g.1)):=fun i hi=>by
   simp only[iY,bI]at hi;obtain⟨q,hq,rfl⟩:=hi;have:=QP _ q hq;have:=Cz g (by rw[he];simp);exact⟨by simp only[mn];split<;>omega,cj _,cj _⟩
  have hnr:Lj (rest.flatMap fun g=>iY g.2 (f2 g.1)):=fun i hi=>by
   simp only[iY,iu,bI]at hi;obtain⟨g',hg',q,hq,rfl⟩:=hi;have:=QP _ q hq;have:=Cz g' (by rw[he];simp[hg']);exact⟨by simp only[mn];split<;>omega,cj _,cj _⟩
  have ih':=ih (pre++[g]) (cZ O (iY g.2 (f2 g.1))) (m+iq (iY g.2 (f2 g.1))) (by rw[he];simp) (hO.apply _ O6) (by omega) h1;have hsr:=qF hnr;have nG:=bz (cZ O (iY g.2 (f2 g.1)));refine aD fun R hR=>?_;simp only[pr]at eH;rcases iF (ve:=nC) CE G2 g.1 with⟨g1,g2,g3⟩ | ⟨i,b,g1,g2,g3⟩
  ·simp only[oh]at g2 g3;simp only[xR,pr,Il,h22,eH,hd,cJ,g2,aM,ah,cW,V.iR,V.cell,VV,seval];have hf:=Nz _ g1;rw[hf]at ih' nG;simp only[iY,bD,cZ,sr]at ih' nG;refine⟨⟨by omega,by omega⟩,cc.wy 1 (aD fun R' hR'=>?_)⟩;simp only[uk,hw,zd,aA,false_implies,iH,VV,seval];exact hR _ (b7 [_,_] [_] nG (by repeat' constructor) (by simp[LW];omega) ih')
  ·simp only[oh]at g2 g3;obtain⟨r,g0⟩:=b;have hr:=ck _ _ _ g1;have sA:∀ l,(S++l)[r]?=some (gW 190 g0 (f2 g.1)):=fun l=>by rw[ai (ab.1 hr).1];exact hr
   simp only[gW]at sA;simp only[nC]at g2 g3;simp only[xR,pr,Il,h22,eH,hd,cJ,g2,sA,aM,ah,cW,V.iR,V.cell,VV,seval];refine⟨⟨by omega,by omega⟩,cc.bd (fr':=(.ptr x 0::uu 2 (.ptr S.length 0::uu 1 (.mp (S.length+1)::uu 1 (.ptr (S.length+2) 0::uu 10 (.sl 3 (gs.map pr)::.i .i64 gs.length::.i .i64 pre.length::uu 12 (.own r g0::.i .i64 (f2 g.1).length::.i .i64 ([]:List (Int×Int)).length::uu 72 []))))))) (by repeat' constructor) ((f2 g.1).length+1) (J5 x qd B3 _ g (Cz g (by rw[he];simp)) r g0 gs pre.length (f2 g.1) (QP _) (qN _) hr rfl ?_ (f2 g.1) [] O m rfl hO (by omega) ?_)⟩
   ·intro O';have h:=cv (bz O') (l:=[.box 182 (pr g)]) (by simp[pr,LW]);simpa using h
   ·simp only[JE];intros;simp only[VV,seval];simp only[hw];refine hR _ (b7 [_,_] [_] nG (by repeat' constructor) (by simp[LW];omega) ih')
end Go.Proofs.Tryz
set_option maxRecDepth 4000
set_option maxHeartbeats 1000000
namespace Go.Proofs.Tryz
open Go Go.Pm Go.Bt
theorem J3{S:ae}{K:Exit→St→Prop}(x:Nat)(hx:x<S.length)(B3 IT:Ob)(k:TK)(c:Int)(hc:0≤c)(r g0:Nat)(ps:List (Int×Int))(lx:∀ p∈ps,0≤p.2)(hlen:ps.length<2^30)(hr:S[r]?=some (gW 190 g0 ps))(bz:∀ O:List mU,bK (S++[B3,.map 3 160 (emap ee mg O),IT,.box 150 [.i .i64 k.1,.s k.2,.i .i64 0]])):∀ (rest pre:List (Int×Int)) (O:List mU) (m:Int),ps=pre++rest→OB m O→m+iq (lZ k c rest)≤2^40 →
  ((fh (.ptr x 0) (fj 2 (fh (.ptr S.length 0) (fj 1 (fh (.mp (S.length+1)) (fj 54 (fh (.it (S.length+2)) (fj 47 fo)))))))) fun ZZ=>K (.exit 6) ⟨ZZ,S++[B3,.map 3 160 (emap ee mg (cZ O (lZ k c rest))),IT,.box 150 [.i .i64 k.1,.s k.2,.i .i64 0]]⟩) →
  fJ S.length prog uj K (rest.length+1) ⟨(.ptr x 0::uu 2 (.ptr S.length 0::uu 1 (.mp (S.length+1)::uu 5 (.ptr (S.length+3) 0::.i .i64 c::uu 47 (.it (S.length+2)::uu 10 (.own r g0::.i .i64 ps.length::.i .i64 pre.length::uu 34 [])))))),S++[B3,.map 3 160 (emap ee mg O),IT,.box 150 [.i .i64 k.1,.s k.2,.i .i64 0]]⟩:=by
 have qZ:=(ab.1 hr).1;have sA:∀ l,(S++l)[r]?=some (.row 190 2 16 g0 false (ps.map BK)):=fun l=>by rw[ai qZ];exact hr
 intro rest
 induction rest with
 | nil =>
  intro pre O m he hO hm h1;have he:ps=pre:=by simpa using he
  subst he;refine aD fun R hR=>?_;simp only[uj,VV,seval];exact⟨fun h=>by simp at h,fun _=>h1 ..⟩
 | cons p rest ih =>
  intro pre O m he hO hm h1;have zn:ps.length=pre.length+1+rest.length:=by rw[he];simp;omega
  have hw:IntKind.i64.wrap ((pre.length:Int)+1)=(((pre++[p]).length:Nat):Int):=by
   rw[bu (by omega)];simp
  have eH:(ps.map BK).getD pre.length []=BK p:=by rw[he];simp[ar]
  have hd:decide ((pre.length:Int)<(ps.length:Int))=true:=by simp;omega
  have QM:∀ a b:Int,(if b<a then b else a)=mn a b:=fun _ _=>rfl;refine aD fun R hR=>?_;simp only[BK]at eH;have Fi:=lx p (by rw[he];simp);have T0:0≤mn p.2 c:=by unfold mn;split<;>omega
  have hwt:0≤weight ⟨k.1,k.2,0⟩∧weight ⟨k.1,k.2,0⟩≤4:=by unfold weight;(repeat' split)<;>omega
  have hmul:0≤mn p.2 c*weight ⟨k.1,k.2,0⟩:=sv T0 hwt.1;let z:Sm:=if jV k then⟨0,0,mn p.2 c⟩else⟨0,mn p.2 c*weight ⟨k.1,k.2,0⟩,0⟩
  have hz:z=if jV k then⟨0,0,mn p.2 c⟩else⟨0,mn p.2 c*weight ⟨k.1,k.2,0⟩,0⟩:=rfl
  have NH:lZ k c (p::rest)=(p.1,z)::lZ k c rest:=rfl
  have Vr:∀ q:Int×Int,0≤q.2→(if jV k then(⟨0,0,mn q.2 c⟩:Sm)else⟨0,mn q.2 c*weight ⟨k.1,k.2,0⟩,0⟩).nn:=fun q hq=>by
   have h0:0≤mn q.2 c:=by unfold mn;split<;>omega
   split
   ·exact⟨cj _,cj _,h0⟩
   ·exact⟨cj _,sv h0 hwt.1,cj _⟩
  have O6:Lj (lZ k c rest):=fun i hi=>by
   simp only[lZ,bI]at hi;obtain⟨q,hq,rfl⟩:=hi;exact Vr q (lx q (by rw[he];simp[hq]))
  have hsn:=qF O6;rw[NH,ud]at hm;have Zt:=hO.add (i:=(p.1,z)) (Vr p Fi);have gU:=hO.getD p.1;have hO0:=hO.1;have ih':=ih (pre++[p]) (rj O (p.1,z)) (m+z.size) (by rw[he];simp) Zt (by simp only at hm;omega) (by rw[NH]at h1;exact h1);have nG:=bz (rj O (p.1,z));have O8:∃ b:Sm,(bS p.1 O).getD rk=b:=⟨_,rfl⟩;obtain⟨⟨bp,bw,bt⟩,hb⟩:=O8;rw[hb]at gU;obtain⟨⟨o1,o2⟩,⟨o3,o4⟩,o5,o6⟩:=gU;simp only at o1 o2 o3 o4 o5 o6;have e2:rj O (p.1,z)=eW O p.1 ((⟨bp,bw,bt⟩:Sm).add z):=by simp only[rj,hb]
  rw[e2]at ih' nG;rcases iF (ve:=mg) Cr O p.1 with⟨g1,g2,g3⟩ | ⟨i,b,g1,g2,g3⟩
  ·simp only[ee]at g2 g3;rw[g1]at hb;cases hb;have g4:=g3 ((⟨0,0,0⟩:Sm).add z);simp only[uj,sA,eH,hd,QM,cJ,g2,aM,ah,cW,V.iR,V.cell,VV,seval];have ht:bG ⟨k.1,k.2,0⟩=jV k:=rfl;refine⟨⟨by omega,by omega⟩,rfl,?_⟩;refine aC (oH ⟨k.1,k.2,0⟩ _) rfl ?_;simp only[ht,VV,seval];refine⟨fun hT=>?_,fun hT=>?_⟩
   ·have Lm:z=⟨0,0,mn p.2 c⟩:=by rw[hz,aI hT]
    have hs:z.size=mn p.2 c:=by rw[Lm];simp[Sm.size]
    have hu:IntKind.i64.wrap (0+mn p.2 c)=0+mn p.2 c:=IntWalk.i64_in _ (by simp only[hs]at hm;omega);have e:mg ((⟨0,0,0⟩:Sm).add z)=.agg [.i .i64 0,.i .i64 0,.i .i64 (0+mn p.2 c)]:=by simp[mg,AA,rk,Sm.add,Lm]
    rw[e]at g4;simp only[QM,hu,cJ,g2,cW,V.iR,V.cell,mg,AA,VV,seval];simp only[hw,g4];exact⟨rfl,hR _ (b7 [_,_,_,_] [_,_] nG (by repeat' constructor) (by simp[LW];omega) ih')⟩
   ·have Lm:z=⟨0,mn p.2 c*weight ⟨k.1,k.2,0⟩,0⟩:=by rw[hz,aw (by simp[hT])]
    have hs:z.size=mn p.2 c*weight ⟨k.1,k.2,0⟩:=by rw[Lm];simp[Sm.size]
    have hu1:IntKind.i64.wrap (mn p.2 c*weight ⟨k.1,k.2,0⟩)=mn p.2 c*weight ⟨k.1,k.2,0⟩:=IntWalk.i64_in _ (by simp only[hs]at hm;omega);have hu:IntKind.i64.wrap (0+mn p.2 c*weight ⟨k.1,k.2,0⟩)=0+mn p.2 c*weight ⟨k.1,k.2,0⟩:=IntWalk.i64_in _ (by simp only[hs]at hm;omega);have e:mg ((⟨0,0,0⟩:Sm).add z)=.agg [.i .i64 0,.i .i64 (0+mn p.2 c*weight ⟨k.1,k.2,0⟩),.i .i64 0]:=by simp[mg,AA,rk,Sm.add,Lm]
    rw[e]at g4;refine aC (kb ⟨k.1,k.2,0⟩ _) rfl ?_;simp only[QM,hu1,hu,cJ,g2,cW,V.iR,V.cell,mg,AA,VV,seval];simp only[hw,g4];exact⟨rfl,hR _ (b7 [_,_,_,_] [_,_] nG (by repeat' constructor) (by simp[LW];omega) ih')⟩
  ·simp only[ee]at g2 g3;rw[g1]at hb;cases hb;have g4:=g3 ((⟨bp,bw,bt⟩:Sm).add z);simp only[uj,sA,eH,hd,QM,cJ,g2,mg,AA,aM,ah,cW,V.iR,V.cell,VV,seval];have ht:bG ⟨k.1,k.2,0⟩=jV k:=rfl;refine⟨⟨by omega,by omega⟩,rfl,?_⟩;refine aC (oH ⟨k.1,k.2,0⟩ _) rfl ?_;simp only[ht,VV,seval];refine⟨fun hT=>?_,fun hT=>?_⟩
   ·have Lm:z=⟨0,0,mn p.2 c⟩:=by rw[hz,aI hT]
    have hs:z.size=mn p.2 c:=by rw[Lm];simp[Sm.size]
    have hu:IntKind.i64.wrap (bt+mn p.2 c)=bt+mn p.2 c:=IntWalk.i64_in _ (by simp only[hs]at hm;omega);have e:mg ((⟨bp,bw,bt⟩:Sm).add z)=.agg [.i .i64 bp,.i .i64 bw,.i .i64 (bt+mn p.2 c)]:=by simp[mg,AA,rk,Sm.add,Lm]
    rw[e]at g4;simp only[QM,hu,cJ,g2,cW,V.iR,V.cell,mg,AA,VV,seval];simp only[hw,g4];exact⟨rfl,hR _ (b7 [_,_,_,_] [_,_] nG (by repeat' constructor) (by simp[LW];omega) ih')⟩
   ·have Lm:z=⟨0,mn p.2 c*weight ⟨k.1,k.2,0⟩,0⟩:=by rw[hz,aw (by simp[hT])]
    have hs:z.size=mn p.2 c*weight ⟨k.1,k.2,0⟩:=by rw[Lm];simp[Sm.size]
    have hu1:IntKind.i64.wrap (mn p.2 c*weight ⟨k.1,k.2,0⟩)=mn p.2 c*weight ⟨k.1,k.2,0⟩:=IntWalk.i64_in _ (by simp only[hs]at hm;omega);have hu:IntKind.i64.wrap (bw+mn p.2 c*weight ⟨k.1,k.2,0⟩)=bw+mn p.2 c*weight ⟨k.1,k.2,0⟩:=IntWalk.i64_in _ (by simp only[hs]at hm;omega);have e:mg ((⟨bp,bw,bt⟩:Sm).add z)=.agg [.i .i64 bp,.i .i64 (bw+mn p.2 c*weight ⟨k.1,k.2,0⟩),.i .i64 bt]:=by simp[mg,AA,rk,Sm.add,Lm]
    rw[e]at g4;refine aC (kb ⟨k.1,k.2,0⟩ _) rfl ?_;simp only[QM,hu1,hu,cJ,g2,cW,V.iR,V.cell,mg,AA,VV,seval];simp only[hw,g4];exact⟨rfl,hR _ (b7 [_,_,_,_] [_,_] nG (by repeat' constructor) (by simp[LW];omega) ih')⟩
theorem J2{S:ae}{K:Exit→St→Prop}(x m1 m2 m3 mq:Nat)(hx:S[x]?=some (.box 170 [.mp m1,.mp m2,.mp m3]))(B3:Ob)(G3:List (TK×(Nat×Nat)))(f3:TK→List (Int×Int))(h3:S[m3]?=some (.map 150 185 (emap ie nC G3)))
  (ck:∀ k r g,bS k G3=some (r,g)→S[r]?=some (gW 190 g (f3 k))) (Nz:∀ k,bS k G3=none→f3 k=[]) (QP:∀ k,∀ p∈f3 k,0≤p.2) (qN:∀ k,(f3 k).length<2^30) (C:List (TK×Int)) (hq:S[mq]?=some (.map 150 3 (emap ie ee C))) (Iz:∀ p∈C,0≤p.2)
  (bz:∀ (O:List mU) ps cur,bK (S++[B3,.map 3 160 (emap ee mg O),.iter false mq 3 (emap ie ee C).length ps cur])):∀ (N:Nat) (ps:List Nat) (cur:Option Nat) (O:List mU) (m:Int),ps.length≤N→ps.Nodup→(∀ p∈ps,p<C.length)→OB m O→m+iq ((ps.map fun i=>C.getD i ((0,[]),0)).flatMap fun k=>lZ k.1 k.2 (f3 k.1))≤2^40 →
  (∀ (D:List (TK×Int)) (ps':List Nat) (cur':Option Nat),D.Perm (ps.map fun i=>C.getD i ((0,[]),0))→((fj 5 (fh (.mp (S.length+1)) (fj 102 fo))) fun ZZ=>K (.exit 4) ⟨ZZ,S++[B3,.map 3 160 (emap ee mg (cZ O (D.flatMap fun k=>lZ k.1 k.2 (f3 k.1)))),.iter false mq 3 (emap ie ee C).length ps' cur']⟩)) →
  fJ S.length prog B8 K (N+1) ⟨(.ptr x 0::uu 2 (.ptr S.length 0::uu 1 (.mp (S.length+1)::uu 54 (.it (S.length+2)::uu 47 [])))),S++[B3,.map 3 160 (emap ee mg O),.iter false mq 3 (emap ie ee C).length ps cur]⟩:=by
 have qd:=(ab.1 hx).1;have Il:∀ l,(S++l)[x]?=some (.box 170 [.mp m1,.mp m2,.mp m3]):=fun l=>by rw[ai qd];exact hx
 have h3l:=(ab.1 h3).1;have h32:∀ l,(S++l)[m3]?=some (.map 150 185 (emap ie nC G3)):=fun l=>by rw[ai h3l];exact h3
 have aaP:=(ab.1 hq).1;have Lq:∀ l,(S++l)[mq]?=some (.map 150 3 (emap ie ee C)):=fun l=>by rw[ai aaP];exact hq
 intro N
 induction N with
 | zero =>
  intro ps cur O m hl nq hp hO hm h1;have lx:ps=[]:=aL (by omega);subst lx;refine aD fun R hR=>?_;simp only[B8,Lq,VV,seval];exact h1 [] _ _ (.refl _) ..
 | succ N ih =>
  intro ps cur O m hl nq hp hO hm h1;refine aD fun R hR=>?_;simp only[B8,Lq,VV,seval];refine⟨fun lx=>?_,fun q hq=>?_⟩
  ·subst lx;exact h1 [] _ _ (.refl _) ..
  ·have A0:=hp q hq;have eH:=tz (ke:=ie) (ve:=ee) C ((0,[]),0) A0;have TV:=nv nq hq;have afD:=mI hq;have tf:=tm (d:=(((0,[]),0):TK×Int)) A0;generalize Ze:C.getD q ((0,[]),0)=kc at eH tf;have O5:=TV.map fun i=>C.getD i ((0,[]),0);simp only[az,Ze]at O5;rw[pJ _ O5,dP,nS]at hm;obtain⟨k,c⟩:=kc;have Vz:=Iz _ tf;simp only at hm Vz;have O6:=wE (k:=k) Vz (QP k);have hOa:=hO.apply _ O6
   have ih':=ih (ps.filter fun i=>i != q) (some q) _ _ (by omega) (nq.filter _) (fun p h=>hp p (cU.1 h).1) hOa (by omega) (fun D ps' cur' hD=>by
    have h:=h1 ((k,c)::D) ps' cur' ((hD.cons _).trans O5.symm);rw[dP,Hb]at h;exact h)
   have Sq:0≤iq (((ps.filter fun i=>i != q).map fun i=>C.getD i ((0,[]),0)).flatMap fun k=>lZ k.1 k.2 (f3 k.1)):=qF fun i hi=>by
    obtain⟨y,hy,hi⟩:=iu.1 hi;obtain⟨j,hj,rfl⟩:=bI.1 hy;exact wE (Iz _ (tm (hp j (cU.1 hj).1))) (QP _) i hi
   have nG:=bz (cZ O (lZ k c (f3 k))) (ps.filter fun i=>i != q) (some q);simp only[eH,ee,ie,VV,seval];rcases iF (ve:=nC) wY G3 k with⟨g1,g2,g3⟩ | ⟨i,b,g1,g2,g3⟩
   ·simp only[ie]at g2 g3;simp only[Il,h32,cJ,g2,aM,cW,V.iR,V.cell,VV,seval];have hf:=Nz _ g1;rw[hf]at ih' nG;simp only[lZ,bD,cZ,sr]at ih' nG;refine cc.wy 1 (aD fun R' hR'=>?_);simp only[uj,zd,aA,false_implies,iH,VV,seval];exact hR _ (b7 [_,_,_] [_] nG (by repeat' constructor) (by simp[LW];omega) ih')
   ·simp only[ie]at g2 g3;obtain⟨r,g0⟩:=b;have hr:=ck _ _ _ g1;have sA:∀ l,(S++l)[r]?=some (gW 190 g0 (f3 k)):=fun l=>by rw[ai (ab.1 hr).1];exact hr
    simp only[gW]at sA;simp only[nC]at g2 g3;simp only[Il,h32,cJ,g2,sA,aM,ah,cW,V.iR,V.cell,VV,seval];refine cc.bd (fr':=(.ptr x 0::uu 2 (.ptr S.length 0::uu 1 (.mp (S.length+1)::uu 5 (.ptr (S.length+3) 0::.i .i64 c::uu 47 (.it (S.length+2)::uu 10 (.own r g0::.i .i64 (f3 k).length::.i .i64 ([]:List (Int×Int)).length::uu 34 []))))))) (by repeat' constructor) ((f3 k).length+1) (J3 x qd B3 _ k c Vz r g0 (f3 k) (QP _) (qN _) hr ?_ (f3 k) [] O m rfl hO (by omega) ?_)
    ·intro O';have h:=cv (bz O' (ps.filter fun i=>i != q) (some q)) (l:=[.box 150 [.i .i64 k.1,.s k.2,.i .i64 0]]) (by simp[LW]);simpa using h
    ·simp only[JE];intros;simp only[VV,seval];refine hR _ (b7 [_,_,_] [_] nG (by repeat' constructor) (by simp[LW];omega) ih')
end Go.Proofs.Tryz
set_option maxRecDepth 4000
set_option maxHeartbeats 1000000
namespace Go.Proofs.Tryz
open Go Go.Pm Go.Bt
def oc(f2:GK→List (Int×Int))(gs:List Gr):List mU:=gs.flatMap fun g=>iY g.2 (f2 g.1)
def od(f3:TK→List (Int×Int))(D:List (TK×Int)):List mU:=D.flatMap fun k=>lZ k.1 k.2 (f3 k.1)
theorem xg(n:Nat)(O:List mU):eQ n ((emap ee mg O).map (·.2)):=mN fun y hy=>by
 obtain⟨e,he,rfl⟩:=bI.1 hy;simp[mg,AA,LW]
theorem Jc{S:ae}(x m1 m2 m3 mq:Nat)(hx:S[x]?=some (.box 170 [.mp m1,.mp m2,.mp m3]))(G2:List (GK×(Nat×Nat)))(f2:GK→List (Int×Int))(h2:S[m2]?=some (.map 184 185 (emap oh nC G2)))
  (No:∀ k r g,bS k G2=some (r,g)→S[r]?=some (gW 190 g (f2 k))) (GB:∀ k,bS k G2=none→f2 k=[]) (Eu:∀ k,∀ p∈f2 k,0≤p.2) (Ua:∀ k,(f2 k).length<2^30)
  (G3:List (TK×(Nat×Nat))) (f3:TK→List (Int×Int)) (h3:S[m3]?=some (.map 150 185 (emap ie nC G3)))
  (Nn:∀ k r g,bS k G3=some (r,g)→S[r]?=some (gW 190 g (f3 k))) (GA:∀ k,bS k G3=none→f3 k=[]) (Uc:∀ k,∀ p∈f3 k,0≤p.2) (T9:∀ k,(f3 k).length<2^30)
  (l:List It) (hl:l.length<2^27) (hq:S[mq]?=some (.map 150 3 (emap ie ee (jK [] l)))) (Cz:∀ g∈b9 (aS l),0≤g.2) (Iz:∀ p∈jK [] l,0≤p.2)
  (hm:iq (oc f2 (b9 (aS l)))+iq (od f3 (jK [] l))≤2^40) :
  PC prog 119 [.ptr x 0,.agg (qD l mq)] S (fun r S'=>∃ D ps cur,D.Perm (jK [] l)∧r=.mp (S.length+1)∧S'=S++[.box 162 (qD l mq),.map 3 160 (emap ee mg (cZ (cZ [] (oc f2 (b9 (aS l)))) (od f3 D))),.iter false mq 3 (emap ie ee (jK [] l)).length ps cur]):=by
 refine PC.intro func119 acM fun bz dH=>aB ?_;have hmq:=(ab.1 hq).1;have QF:=ml l;have Zh:=rY (aS l);have hb:∀ n,S.length<n→eQ n (qD l mq):=fun n hn=>by simp[qD,wC,LW];omega
 have hc1:∀ O:List mU,bK (S++[.box 162 (qD l mq),.map 3 160 (emap ee mg O)]):=fun O=>cv bz (by
  intro o ho;simp only[bA,eA,sf]at ho;rcases ho with rfl | rfl
  ·exact hb _ (by simp)
  ·exact xg _ O)
 have zo:∀ (O:List mU) ps cur,bK (S++[.box 162 (qD l mq),.map 3 160 (emap ee mg O),.iter false mq 3 (emap ie ee (jK [] l)).length ps cur]):=fun O ps cur=>cv bz (by
  intro o ho;simp only[bA,eA,sf]at ho;rcases ho with rfl | rfl | rfl
  ·exact hb _ (by simp)
  ·exact xg _ O
  ·simp only[ag,ay];omega)
 have Lq:∀ l',(S++l')[mq]?=some (.map 150 3 (emap ie ee (jK [] l))):=fun l=>by rw[ai hmq];exact hq
 simp only[Xk,qD,wC,SS,seval];simp only[ah,VV,seval]
 have Es:Lj (oc f2 (b9 (aS l))):=fun i hi=>by
  obtain⟨g,hg,hi⟩:=iu.1 hi;exact Ij (Cz g hg) (Eu _) i hi
 have Vr:Lj (od f3 (jK [] l)):=fun i hi=>by
  obtain⟨g,hg,hi⟩:=iu.1 hi;exact wE (Iz g hg) (Uc _) i hi
 have Lp:=qF Es;have hs3:=qF Vr;have hO:=OB.nil.apply _ Es;refine cc.bd (fr':=(.ptr x 0::uu 2 (.ptr S.length 0::uu 1 (.mp (S.length+1)::uu 12 (.sl 3 ((b9 (aS l)).map pr)::.i .i64 (b9 (aS l)).length::.i .i64 ([]:List Gr).length::uu 87 []))))) (by repeat' constructor) ((b9 (aS l)).length+1) (J4 x m1 m2 m3 hx (.box 162 (qD l mq)) G2 f2 h2 No GB Eu Ua (b9 (aS l)) Cz (by omega) hc1 (b9 (aS l)) [] [] 0 rfl OB.nil (by show 0+iq (oc f2 (b9 (aS l)))≤2^40;omega) ?_);simp only[JE];intros;simp only[ah,qD,wC,Lq,VV,seval];refine cc.bd (fr':=(.ptr x 0::uu 2 (.ptr S.length 0::uu 1 (.mp (S.length+1)::uu 54 (.it (S.length+2)::uu 47 []))))) (by repeat' constructor) ((emap ie ee (jK [] l)).length+1) (J2 x m1 m2 m3 mq hx (.box 162 (qD l mq)) G3 f3 h3 Nn GA Uc T9 (jK [] l) hq Iz zo _ (List.range (emap ie ee (jK [] l)).length) none (cZ [] (oc f2 (b9 (aS l)))) _ (by simp) lK (by simp[emap]) hO (by rw[oo,my];show 0+iq (oc f2 (b9 (aS l)))+iq (od f3 (jK [] l))≤2^40;omega) ?_);intro D ps' cur' hD;rw[oo,my]at hD;simp only[JE];intros;simp only[VV,seval];exact fM (.inr rfl) (by simp only[RS,seval];rfl) (Wk.refl _ _) rfl ⟨D,ps',cur',hD,rfl,rfl⟩
end Go.Proofs.Tryz
set_option maxRecDepth 4000
set_option maxHeartbeats 1000000
namespace Go.Proofs.Tryz
open Go Go.Pm Go.Bt
def ru(q:List It)(O:List mU)(p:Int)(e:LE):Bool:=decide (qt (gR q) (gR e.2.1) ((bS e.1 O).getD rk)≤ky (mx (gH q) (gH e.2.1)) p)
def IQ(n:Nat)(T:ae)(ji:Nat)(D:List Int)(v:V):Prop:=(D=[]∧v=.nil)∨∃ j g,v=.own (n+j) g∧j≠ji∧T[j]?=some (.row 3 1 8 g false (D.map b5))
theorem TA{S:ae}{n0:Nat}{K:Exit→St→Prop}(m1 y z mq:Nat)(L:List LE)(hLn:L.length<2^20)(h1:S[m1]?=some (.map 3 162 (emap ee zQ L)))(q:List It)(h7:S[y]?=some (.box 162 (qD q mq)))(O:List mU)(hO:OB (2^40) O)(h8:S[z]?=some (.map 3 160 (emap ee mg O)))(p:Int)(hp : -(2^40)≤p∧p≤2^40)
  (hq:(gR q).ok (2^40)∧0≤gH q∧gH q≤2^40) (hL:∀ e∈L,(gR e.2.1).ok (2^40)∧0≤gH e.2.1∧gH e.2.1≤2^40) (ji:Nat):∀ (N:Nat) (ps:List Nat) (cur:Option Nat) (D:List Int) (v:V) (T:ae),ps.length≤N→ps.Nodup→(∀ p∈ps,p<L.length)→D.length+ps.length≤L.length →
  T[ji]?=some (.iter false m1 162 (emap ee zQ L).length ps cur)→IQ S.length T ji D v →
  (∀ (E:List LE) v' T',E.Perm (ps.map fun i=>L.getD i (0,([],0)))→IQ S.length T' ji (D++(E.filter (ru q O p)).map (·.1)) v'→((fj 9 (fh (v') (fj 40 fo))) fun ZZ=>K (.exit 0) ⟨ZZ,S++T'⟩)) →
  fJ n0 prog DT K (N+1) ⟨(uu 2 (.i .i64 p::uu 4 (.ptr y 0::.mp z::v::uu 11 (.it (S.length+ji)::uu 28 [])))),S++T⟩:=by
 have Pd:∀ l,(S++l)[m1]?=some (.map 3 162 (emap ee zQ L)):=fun l=>by rw[ai (ab.1 h1).1];exact h1
 have Zx:∀ l,(S++l)[y]?=some (.box 162 (qD q mq)):=fun l=>by rw[ai (ab.1 h7).1];exact h7
 have h82:∀ l,(S++l)[z]?=some (.map 3 160 (emap ee mg O)):=fun l=>by rw[ai (ab.1 h8).1];exact h8
 intro N
 induction N with
 | zero =>
  intro ps cur D v T hl nq hb hn hi Zr hk;have lx:ps=[]:=aL (by omega);subst lx;refine aD fun R hR=>?_;simp only[DT,Pd,hi,VV,seval];exact hk [] v T (.refl _) (by simpa using Zr) ..
 | succ N ih =>
  intro ps cur D v T hl nq hb hn hi Zr hk;have pq:=(ab.1 hi).1;have Gw:∀ o,(T.set ji o)[ji]?=some o:=fun o=>ao pq;refine aD fun R hR=>?_;simp only[DT,Pd,hi,Gw,VV,seval];refine⟨fun lx=>?_,fun i hi'=>?_⟩
  ·subst lx;exact hk [] v T (.refl _) (by simpa using Zr) ..
  ·have A0:=hb i hi';have eH:=tz (ke:=ee) (ve:=zQ) L (0,([],0)) A0;have TV:=nv nq hi';have qN:=mI hi';have tf:=tm (d:=((0,([],0)):LE)) A0;generalize Ze:L.getD i (0,([],0))=e at eH tf;have O5:=TV.map fun i=>L.getD i (0,([],0));simp only[az,Ze]at O5;obtain⟨id,l,m⟩:=e;obtain⟨hs,ht⟩:=hL _ tf;have qM:=Gw (.iter false m1 162 (emap ee zQ L).length (ps.filter fun j=>j != i) (some i));have YA:(T.set ji (.iter false m1 162 (emap ee zQ L).length (ps.filter fun j=>j != i) (some i))).length=T.length:=zt
   have SA:IQ S.length (T.set ji (.iter false m1 162 (emap ee zQ L).length (ps.filter fun j=>j != i) (some i))) ji D v:=by
    rcases Zr with h | ⟨j,g,e1,e2,e3⟩
    ·exact .inl h
    ·exact .inr ⟨j,g,e1,e2,by rw[aK (SJ e2)];exact e3⟩
   simp only[eH,ee,zQ,VV,seval];generalize T.set ji (.iter false m1 162 (emap ee zQ L).length (ps.filter fun j=>j != i) (some i))=T1 at qM SA YA ⊢;have Zj:=hO.getD id
   have vY:∀ (D':List Int) (v':V) (T':ae),D'=D++(if ru q O p (id,(l,m))then[id]else[])→T'[ji]?=some (.iter false m1 162 (emap ee zQ L).length (ps.filter fun j=>j != i) (some i))→IQ S.length T' ji D' v'→fJ n0 prog DT K (N+1) ⟨(uu 2 (.i .i64 p::uu 4 (.ptr y 0::.mp z::v'::uu 11 (.it (S.length+ji)::uu 28 [])))),S++T'⟩:=fun D' v' T' hD' hi'' hR' =>
    ih (ps.filter fun j=>j != i) (some i) D' v' T' (by omega) (nq.filter _) (fun p h=>hb p (cU.1 h).1) (by subst hD';split<;>simp<;>omega) hi'' hR' (fun E v'' T'' hE Kw=>hk ((id,(l,m))::E) v'' T'' ((hE.cons _).trans O5.symm) (by
     subst hD';rw[eU];split at Kw
     ·rename_i hx;rw[aI hx];simpa using Kw
     ·rename_i hx;rw[aw hx];simpa using Kw))
   have hDl:D.length<2^21:=by omega
   have Ku:ji<T1.length:=by omega
   have hm:∀ a b:Int,(if a<b then b else a)=mx a b:=fun _ _=>rfl;have Vs:0≤mx (gH q) (gH l)∧mx (gH q) (gH l)≤2^40:=by simp only at ht;unfold mx;split<;>omega
   simp only at hs ht;rcases iF (ve:=mg) Cr O id with⟨g1,g2,g3⟩ | ⟨i',b,g1,g2,g3⟩
   ·simp only[ee]at g2;have XN:(bS id O).getD rk=rk:=by rw[g1];rfl
    rw[XN]at Zj;simp only[qD,wC,mg,AA,Zx,h82,cJ,g2,VV,seval];refine⟨rfl,?_⟩;refine aC (E8 (gR q) (gR l) rk hq.1 hs Zj _) rfl ?_;simp only[qD,wC,Zx,hm,VV,seval];refine aC (yX (mx (gH q) (gH l)) p Vs hp _) rfl ?_;simp only[VV,seval];have ig:ru q O p (id,(l,m))=decide (qt (gR q) (gR l) rk≤ky (mx (gH q) (gH l)) p):=by simp only[ru,XN]
    rw[← ig];refine⟨fun hd=>?_,fun hd=>?_⟩
    ·rcases SA with⟨rfl,rfl⟩ | ⟨j,g,rfl,e2,e3⟩
     ·simp only[VV,seval];refine⟨by decide,hR _ (bd (by repeat' constructor) (vY [id] (.own (S.length+(T1.length+1)) 0) _ (by rw[hd];rfl) (by rw[ai Ku];exact qM) (.inr ⟨T1.length+1,0,rfl,by omega,by simp[b5]⟩)))⟩
     ·have kH:=(ab.1 e3).1;have Uk:∀ l,(T1++l)[j]?=some (.row 3 1 8 g false (D.map b5)):=fun l=>by rw[ai kH];exact e3
      have Uj:∀ l o,(T1++l).set j o=T1.set j o++l:=fun l o=>gF _ _ kH;simp only[Uk,Uj,VV,seval];refine⟨⟨by simp only[ah];omega,by simp only[ah,maxLen];omega⟩,hR _ (bd (by repeat' constructor) (vY (D++[id]) (.own (S.length+j) (g+1)) _ (by rw[hd];rfl) (by rw[ai (by simpa using Ku),aK e2];exact qM) (.inr ⟨j,g+1,rfl,e2,by rw[ai (by simpa using kH),ao kH];simp[b5]⟩)))⟩
    ·exact hR _ (bd (by repeat' constructor) (vY D v _ (by rw[hd];simp) (by rw[ai Ku];exact qM) (by
      rcases SA with h | ⟨j,g,e1,e2,e3⟩
      ·exact .inl h
      ·exact .inr ⟨j,g,e1,e2,by rw[ai (ab.1 e3).1];exact e3⟩)))
   ·simp only[ee]at g2;have XN:(bS id O).getD rk=b:=by rw[g1];rfl
    rw[XN]at Zj;simp only[qD,wC,mg,AA,Zx,h82,cJ,g2,VV,seval];refine⟨rfl,?_⟩;refine aC (E8 (gR q) (gR l) b hq.1 hs Zj _) rfl ?_;simp only[qD,wC,Zx,hm,VV,seval];refine aC (yX (mx (gH q) (gH l)) p Vs hp _) rfl ?_;simp only[VV,seval];have ig:ru q O p (id,(l,m))=decide (qt (gR q) (gR l) b≤ky (mx (gH q) (gH l)) p):=by simp only[ru,XN]
    rw[← ig];refine⟨fun hd=>?_,fun hd=>?_⟩
    ·rcases SA with⟨rfl,rfl⟩ | ⟨j,g,rfl,e2,e3⟩
     ·simp only[VV,seval];refine⟨by decide,hR _ (bd (by repeat' constructor) (vY [id] (.own (S.length+(T1.length+1)) 0) _ (by rw[hd];rfl) (by rw[ai Ku];exact qM) (.inr ⟨T1.length+1,0,rfl,by omega,by simp[b5]⟩)))⟩
     ·have kH:=(ab.1 e3).1;have Uk:∀ l,(T1++l)[j]?=some (.row 3 1 8 g false (D.map b5)):=fun l=>by rw[ai kH];exact e3
      have Uj:∀ l o,(T1++l).set j o=T1.set j o++l:=fun l o=>gF _ _ kH;simp only[Uk,Uj,VV,seval];refine⟨⟨by simp only[ah];omega,by simp only[ah,maxLen];omega⟩,hR _ (bd (by repeat' constructor) (vY (D++[id]) (.own (S.length+j) (g+1)) _ (by rw[hd];rfl) (by rw[ai (by simpa using Ku),aK e2];exact qM) (.inr ⟨j,g+1,rfl,e2,by rw[ai (by simpa using kH),ao kH];simp[b5]⟩)))⟩
    ·exact hR _ (bd (by repeat' constructor) (vY D v _ (by rw[hd];simp) (by rw[ai Ku];exact qM) (by
      rcases SA with h | ⟨j,g,e1,e2,e3⟩
      ·exact .inl h
      ·exact .inr ⟨j,g,e1,e2,by rw[ai (ab.1 e3).1];exact e3⟩)))
end Go.Proofs.Tryz
set_option maxRecDepth 4000
set_option maxHeartbeats 1000000
namespace Go.Proofs.Tryz
open Go Go.Pm Go.Bt
theorem Kl(J:ae):PC prog 65 [] J (fun r J'=>r=.ptr (J.length+3) 0∧J'=J++[.map 3 162 [],.map 184 185 [],.map 150 185 [],Eg J.length]):=by
 refine PC.intro func65 c65 fun bz dH=>aB ?_;simp only[p65,SS,seval];simp only[VV,seval];exact fM (.inr rfl) (by simp only[RS,seval];rfl) (Wk.refl _ _) rfl ⟨rfl,rfl⟩
def Pe(n:Nat)(v:V)(next:Int):Ob:=.box 105 [.ptr (n+3) 0,v,.i .i64 next]
theorem C3.nil(n:Nat):C3 n [] [] [] [] :=
 ⟨iI,fun e he=>by simp at he,fun e he=>by simp at he,⟨iI,fun k r g h=>by simp[bS,dJ]at h,fun k h=>rfl,fun k k' r g g' h=>by simp[bS,dJ]at h⟩,
  ⟨iI,fun k r g h=>by simp[bS,dJ]at h,fun k h=>rfl,fun k k' r g g' h=>by simp[bS,dJ]at h⟩,fun k r g k' r' g' h=>by simp[bS,dJ]at h⟩
end Go.Proofs.Tryz

/- A part of a proof; the claim's last text says of what. -/
import Derived.Test.YtlakkaamfadipaaGreatDoorS3
import Derived.Test.YtlakkaamfadipaaGreatDoorS28
import Derived.Test.YtlakkaamfadipaaGreatDoorS34
set_option linter.all false

namespace Go.Proofs.Tryz
open Go Go.Pm Go.Bt Go.Sort Go.Shelf
theorem KN{J:ae}{K:Exit→St→Prop}(ws:List (List UInt8))(bj:bG J)(hlen:ws.length<2^38):∀ (rest pre:List (List UInt8)) (C:List (GK×Int)) (last:List UInt8) (n:Nat),ws=pre++rest→CN n C→n+rest.length<2^39 →
  (∀ C' last',dZ C last rest=bump C' (last',[]) 1→CN (n+rest.length) C'→((fj 3 (fh (.mp J.length) (fh (.s last') (fj 48 fo)))) fun ZZ=>K (.exit 0) ⟨ZZ,J++[.map 246 3 (emap oC dX C')]⟩)) →
  fp J.length prog CD K (rest.length+1) ⟨(uu 3 (.mp J.length::.s last::uu 6 (.sl 1 (ws.map Ap)::.i .i64 ws.length::.i .i64 pre.length::uu 39 []))),J++[.map 246 3 (emap oC dX C)]⟩:=by
 intro rest
 induction rest with
 | nil =>
  intro pre C last n he hC hn h1;have he:ws=pre:=by simpa using he
  subst he;refine aB fun R hR=>?_;simp only[CD,VV,seval];exact⟨fun h=>by simp at h,fun _=>h1 C last rfl hC ..⟩
 | cons w rest ih =>
  intro pre C last n he hC hn h1;subst he;have hlen':pre.length+1+rest.length<2^38:=by simp at hlen;omega
  have hw:IntKind.i64.wrap ((pre.length:Int)+1)=(((pre++[w]).length:Nat):Int):=by
   rw[bd (by omega)];simp
  simp only[ai]at hn;have hg:=hC.getD (last,w);have fM:∀ C,bG (J++[.map 246 3 (emap oC dX C)]):=fun C=>cj bj (by simp[km]);have hB:=hC.bump (last,w)
  have Zb:∀ {C':List (GK×Int)},CN (n+1+rest.length) C'→CN (n+(w::rest).length) C':=fun h3=>by
   have e:n+(w::rest).length=n+1+rest.length:=by simp;omega
   rw[e];exact h3
  have ih':=ih (pre++[w]) (bump C (last,w) 1) w (n+1) (by simp) hB (by omega) (fun C' l' h2 h3=>h1 C' l' h2 (Zb h3));refine aB fun R hR=>?_;simp only[CD,Ap,VV,seval];refine⟨fun _=>⟨by simp;omega,?_⟩,fun h=>by simp at h;omega⟩;rcases qG Dl C (last,w)with⟨g1,g2,g3,g4,g5⟩ | ⟨i,b,g1,g2,g3,g4⟩
  ·have hz:IntKind.i64.wrap (0+1)=1:=by decide
   have vg:bump C (last,w) 1=eO C (last,w) 1:=by simp[bump,g1]
   rw[vg]at ih';simp only[oC]at g2 g3 g4 g5;simp only[cN,g2,g3,g4,g5,hz,cX,V.iL,V.cell,VV,seval];have Uz:IntKind.i64.wrap 1=1:=by decide
   simp only[hw,Uz];refine hR _ (b5 [_] [_] (fM _) (by repeat' constructor) (by simp[LW]) ih')
  ·have hz:IntKind.i64.wrap (b+1)=b+1:=IntWalk.i64_in _ (by rw[g1]at hg;simp at hg;omega);have vg:bump C (last,w) 1=eO C (last,w) (b+1):=by simp[bump,g1]
   rw[vg]at ih';simp only[oC]at g2 g3 g4;simp only[cN,g2,g3,g4,hz,cX,V.iL,V.cell,VV,seval];simp only[hw];refine hR _ (b5 [_] [_] (fM _) (by repeat' constructor) (by simp[LW]) ih')
theorem KM{J:ae}{K:Exit→St→Prop}(C:List (GK×Int))(k i0:Nat)(bj:bG J)(hm:C.length<2^39):∀ (N:Nat) (ps:List Nat) (cur:Option Nat) (out:List Gr) (g:Nat),ps.length≤N→ps.Nodup→(∀ p∈ps,p<C.length)→out.length≤C.length →
  (out++ps.map fun i=>C.getD i (([],[]),0)).Perm C →
  (∀ ps cur g (out':List Gr),out'.Perm C→((fj 7 (fh (.own (J.length+3) g) (fj 45 fo))) fun ZZ=>K (.exit 2) ⟨ZZ,J++[.map 246 3 (emap oC dX C),.iter true J.length 3 k [] (some i0),.iter false J.length 3 (emap oC dX C).length ps cur,.row 182 3 40 g false (out'.map pF)]⟩)) →
  fp J.length prog yy K (N+1) ⟨(uu 7 (.own (J.length+3) g::uu 27 (.it (J.length+2)::uu 17 []))),J++[.map 246 3 (emap oC dX C),.iter true J.length 3 k [] (some i0),.iter false J.length 3 (emap oC dX C).length ps cur,.row 182 3 40 g false (out.map pF)]⟩:=by
 intro N
 induction N with
 | zero =>
  intro ps cur out g hl nz hp ho hs h1;have lq:ps=[]:=aG (by omega);subst lq;refine aB fun R hR=>?_;simp only[yy,VV,seval];exact h1 _ _ _ _ (by simpa using hs) ..
 | succ N ih =>
  intro ps cur out g hl nz hp ho hs h1;refine aB fun R hR=>?_;simp only[yy,VV,seval];refine⟨fun lq=>?_,fun q hq=>?_⟩
  ·subst lq;exact h1 _ _ _ _ (by simpa using hs) ..
  ·have BE:=hp q hq;have eA:=uc (ke:=oC) (ve:=dX) C (([],[]),0) BE;have PJ:=hs.length_eq;have UG:=nC nz hq;have rq:=mH hq;have Fo:0<ps.length:=List.length_pos_of_mem hq;simp only[al,ag]at PJ;simp only[eA,dX,oC,VV,seval];have e:out.map pF++[[.s (C.getD q (([],[]),0)).1.1,.s (C.getD q (([],[]),0)).1.2,.i .i64 (C.getD q (([],[]),0)).2]]=(out++[C.getD q (([],[]),0)]).map pF:=by simp[pF]
   rw[e];have fM:∀ C I o,bG (J++[.map 246 3 (emap oC dX C),.iter true J.length 3 k [] (some i0),.iter false J.length 3 (emap oC dX C).length (ps.filter fun i=>i != q) I,.row 182 3 40 (g+1) false o]):=fun C I o=>cj bj (by simp[km]);refine⟨by simp only[ag,maxLen];omega,hR _ (b5 [_,_,_,_] [_] (fM _ _ _) (by repeat' constructor) (by simp[LW]) (ih (ps.filter fun i=>i != q) (some q) (out++[C.getD q (([],[]),0)]) (g+1) (by omega) (nz.filter _) (fun p h=>hp p (cW.1 h).1) (by simp;omega) ?_ h1))⟩;refine List.Perm.trans ?_ hs;rw[aR];refine List.Perm.append_left _ ?_;exact((UG.map fun i=>C.getD i (([],[]),0)).symm)
theorem Fz(a b:Gr)(J:ae):PC prog 223 [.agg (pF a),.agg (pF b)] J (fun r J'=>r=.i .i64 (wA a b)∧J'=J):=by
 refine PC.intro func223 acF fun bj dx=>ax ?_;simp only[WV,SS,seval];simp only[pF,VV,seval];refine az (Dt a.1.1 b.1.1 _) rfl ?_;simp only[VV,seval];refine az (Dt a.1.2 b.1.2 _) rfl ?_;simp only[VV,seval];refine lx (zs:=[.sl 1 ([fW a.1.1 b.1.1,fW a.1.2 b.1.2].map bR)]) (.cons (.lit _ _) .nil) (TU _ _) ?_;simp only[VV,seval];exact bF bj (.inr rfl) rfl (by simp[LW]) ⟨rfl,rfl⟩
theorem MM{α:Type}{c:α→α→Int}(h:jj c)(l:List α):SWO (ltOf fun(i j:Fin l.length)=>c l[i] l[j]):=by
 refine⟨fun x=>?_,fun x y z h1 h2=>?_,fun x y z h1 h2=>?_⟩
 ·simp only[ltOf,b7,h.self];omega
 ·simp only[ltOf,aY]at *;have k1:=h.lH l[x] l[y];have k2:=h.lH l[y] l[z];have k3:=h.lH l[x] l[z];have:=h.gt (a:=l[z]) (b:=l[y]) (d:=l[x]) (by omega) (by omega);omega
 ·simp only[ltOf,b7]at *;have:=h.trans l[x] l[y] l[z] (by omega) (by omega);omega
theorem J5(ws:List (List UInt8))(l:List Gr)(hp:l.Perm (dZ [] [] ws))(hl:l.length<2^30)(id g:Nat)(J:ae)(h1:J[id]?=some (.row 182 3 40 g false (l.map pF))):
  PC prog 222 [.own id g,.fn 223 []] J (fun r J'=>r=.fi []∧J'=J.set id (.row 182 3 40 g false ((cg ws).map pF))):=by
 refine PC.mono (PC.MT Tryz.Wy (k:=3) Tryz.isAgg182 Tryz.sizeOf182 pF (fun x=>by simp[pF]) (by omega) wA (enters_of func223 (by kernel_rfl) rfl) l (fun x hx y hy=>(Fz x y _).mono fun r J' h=>h.1) (MM kg l) hl h1) ?_;rintro r J' ⟨l',yY,hs,rfl,rfl⟩;exact⟨rfl,by rw[AM (yY.trans hp) hs];rfl⟩
theorem P3:Ti prog 182 3 40:=lN (by kernel_rfl)
theorem Oz(ws:List (List UInt8))(hlen:ws.length<2^29)(J:ae):PC prog 179 [.sl 1 (ws.map Ap)] J (fun r J'=>r=.sl 3 ((cg ws).map pF)∧J'=J):=by
 refine PC.intro func179 ac5 fun bj dx=>ax ?_;simp only[Xl,SS,seval];simp only[ag,VV,seval];refine b6.aZ (fr':=(uu 3 (.mp J.length::.s []::uu 6 (.sl 1 (ws.map Ap)::.i .i64 ws.length::.i .i64 ([]:List (List UInt8)).length::uu 39 [])))) (by repeat' constructor) (ws.length+1) (KN ws bj (by omega) ws [] [] [] 0 rfl CN.nil (by omega) fun C' last' hb hC=>?_);simp only[JE];intros;have hB:=hC.bump (last',[]);have hg:=hC.getD (last',[]);have fM:∀ C a b,bG (J++[.map 246 3 (emap oC dX C),.iter true J.length 3 a [] (some b)]):=fun C a b=>cj bj (by simp[km])
 have fin:∀ (C:List (GK×Int)) (k i0:Nat),C=dZ [] [] ws→CN (0+ws.length+1) C→b6 J.length prog yy.loop
  (vC 2 (GN (xt J.length prog ((bD.au [] [{ d:=some 50,g:=[],i:=I.aS (O.t 7) },{ d:=some 51,g:=[],i:=I.call 222 [O.t 50,O.c (V.fn 223 [])] }]).seq
      ((bD.au [] [{ d:=some 52,g:=[],i:=I.aS (O.t 7) },{ d:=some 2,g:=[],i:=I.aS (O.t 52) }]).seq bD.ret))
     (qd prog J.length [Rs.t 2] fun r J'=>r=V.sl 3 (List.map pF (cg ws))∧J'=J))
    (qd prog J.length [Rs.t 2] fun r J'=>r=V.sl 3 (List.map pF (cg ws))∧J'=J)))
   ⟨(uu 7 (.nil::uu 27 (.it (J.length+2)::uu 17 []))),J++[.map 246 3 (emap oC dX C),.iter true J.length 3 k [] (some i0),.iter false J.length 3 (emap oC dX C).length (List.range (emap oC dX C).length) none]⟩:=by
  intro C k i0 hC hN;have hl:(emap oC dX C).length=C.length:=oF C;have hlC:=hN.1;refine b6.wk ((Wk.kR (P:=prog) (k:=7) [_,_,_] P3 rfl).trans (Wk.gA ?_)) (b6.vP (C.length+1) (KM C k i0 bj (by omega) C.length (List.range (emap oC dX C).length) none [] 0 (by simp[hl]) lK (fun p hp=>by simpa[hl]using hp) (by simp) (by rw[hl,bk,mz]) ?_))
  ·simp only[VV,seval]
   repeat' constructor
  ·intro ps cur g out' hp;simp only[JE];intros;simp only[VV,seval];refine az (J5 ws out' (by rw[← hC];exact hp) (by rw[hp.length_eq];omega) _ g _ (by simp only[VV,seval])) rfl ?_;simp only[VV,seval];refine qc 3 bj (.inr rfl) (by simp only[RS,seval];rfl) rfl ?_ ?_
   ·simp only[ay,bo,Pm.fz,qD,jx,aL,LW]
   ·simp only[ay,bo,Pm.fz,qD,jx,aL];exact⟨rfl,trivial⟩
 rcases qG Dl C' (last',[])with⟨g1,g2,g3,g4,g5⟩ | ⟨i,b,g1,g2,g3,g4⟩
 ·have hz:IntKind.i64.wrap (0+1)=1:=by decide
  have Uz:IntKind.i64.wrap 1=1:=by decide
  have vg:bump C' (last',[]) 1=eO C' (last',[]) 1:=by simp[bump,g1]
  simp only[oC]at g2 g3 g4 g5;simp only[cN,g2,g3,g4,g5,hz,Uz,cX,V.iL,V.cell,VV,seval];exact b6.wk (Wk.gA (by repeat' constructor)) (fin _ _ _ (by rw[hb,vg]) (vg▸hB))
 ·have hz:IntKind.i64.wrap (b+1)=b+1:=IntWalk.i64_in _ (by rw[g1]at hg;simp at hg;omega);have vg:bump C' (last',[]) 1=eO C' (last',[]) (b+1):=by simp[bump,g1]
  simp only[oC]at g2 g3 g4;simp only[cN,g2,g3,g4,hz,cX,V.iL,V.cell,VV,seval];exact b6.wk (Wk.gA (by repeat' constructor)) (fin _ _ _ (by rw[hb,vg]) (vg▸hB))
end Go.Proofs.Tryz
namespace Go.Proofs.Tryz
open Go Go.Pm Go.Bt
theorem GM(x:It)(J:ae):PC prog 225 [.agg x.ah7] J (fun r J'=>r=.b (bW x)∧J'=J):=by
 refine PC.intro func225 acD fun bj dx=>ax ?_;simp only[WT,It.ah7,SS,seval];simp only[VV,seval];exact jz bj (by simp only[RS,seval];rfl) (by simp only[LW])
theorem o9(x:It)(J:ae):PC prog 183 [.agg x.ah7] J (fun r J'=>r=.b (bW x)∧J'=J):=by
 refine PC.intro func183 ac1 fun bj dx=>ax ?_;simp only[Xh,It.ah7,SS,seval];simp only[VV,seval];exact jz bj (by simp only[RS,seval];rfl) (by simp only[LW])
theorem O6(x:It)(J:ae):PC prog 182 [.agg x.ah7] J (fun r J'=>r=.fi [.agg (bZ x).1.ah7,.b (bZ x).2]∧J'=J):=by
 refine PC.intro func182 ac2 fun bj dx=>ax ?_;simp only[Xi,It.ah7,SS,seval];rcases nV (x.ah9=6∨x.ah9=7∨x.ah9=8∨x.ah9=9∨x.ah9=5)with hk | hk
 ·have hc:bZ x=(⟨x.ah9,dB x,0⟩,true):=by simp only[bZ,bf hk]
  have e6:(x.ah9==6)=false∨(x.ah9==6)=true:=by cases(x.ah9==6)<;>simp
  have e7:(x.ah9==7)=false∨(x.ah9==7)=true:=by cases(x.ah9==7)<;>simp
  have e8:(x.ah9==8)=false∨(x.ah9==8)=true:=by cases(x.ah9==8)<;>simp
  have e9:(x.ah9==9)=false∨(x.ah9==9)=true:=by cases(x.ah9==9)<;>simp
  have e5:(x.ah9==5)=false∨(x.ah9==5)=true:=by cases(x.ah9==5)<;>simp
  rcases e6 with e6 | e6<;>rcases e7 with e7 | e7<;>rcases e8 with e8 | e8<;>rcases e9 with e9 | e9<;>rcases e5 with e5 | e5<;>first | (exfalso;simp at e6 e7 e8 e9 e5;omega) | skip
  all_goals
   simp only[e6,e7,e8,e9,e5,↓IT,VV,seval];refine az (qW x _) rfl ?_;simp only[VV,seval];exact bF bj (.inr rfl) (by simp only[RS,seval];rfl) (by simp only[LW]) ⟨by rw[hc];rfl,rfl⟩
 ·have hc:bZ x=(⟨x.ah9,x.aib,0⟩,bW x):=by simp only[bZ,aI hk]
  have e6:(x.ah9==6)=false:=by simp;omega
  have e7:(x.ah9==7)=false:=by simp;omega
  have e8:(x.ah9==8)=false:=by simp;omega
  have e9:(x.ah9==9)=false:=by simp;omega
  have e5:(x.ah9==5)=false:=by simp;omega
  simp only[e6,e7,e8,e9,e5,↓IT,VV,seval];refine az (GM x _) rfl ?_;simp only[VV,seval];exact bF bj (.inr rfl) (by simp only[RS,seval];rfl) (by simp only[LW]) ⟨by rw[hc];rfl,rfl⟩
def xC(gs:List Gr)(m:Nat)(p w t air:Int):List V:=[.sl 3 (gs.map pF),.mp m,.i .i64 p,.i .i64 w,.i .i64 t,.i .i64 air]
theorem kU{J:ae}{A:Ob}(hA:bG (J++[A]))(C:List (TK×Int))(gs:List Gr)(p w t tot:Int):bG (J++[A,.map 150 3 (emap ij dX C),.box 162 (xC gs (J.length+1) p w t tot)]):=by
 have:=cj hA (l:=[.map 150 3 (emap ij dX C),.box 162 (xC gs (J.length+1) p w t tot)]) (by simp[km,xC,LW]);simpa using this
theorem K4{J:ae}{K:Exit→St→Prop}(A:Ob)(l:List It)(gs:List Gr)(tot:Int)(hA:bG (J++[A]))(hlen:gs.length<2^30)(Dh:∀ g∈gs,0≤g.2∧g.2≤2^30):∀ (rest pre:List Gr) (n:Int),gs=pre++rest→0≤n∧n≤2^30*(pre.length:Int) →
  ((fh (.sl 3 (l.map It.ah7)) (fj 1 (fh (.ptr J.length 0) (fh (.ptr (J.length+2) 0) (fj 67 fo))))) fun ZZ=>K (.exit 0) ⟨ZZ,J++[A,.map 150 3 [],.box 162 (xC gs (J.length+1) (Cn n rest) 0 0 tot)]⟩) →
  fp J.length prog CU K (rest.length+1) ⟨(.sl 3 (l.map It.ah7)::uu 1 (.ptr J.length 0::.ptr (J.length+2) 0::uu 14 (.sl 3 (gs.map pF)::.i .i64 gs.length::.i .i64 pre.length::uu 50 []))),J++[A,.map 150 3 [],.box 162 (xC gs (J.length+1) n 0 0 tot)]⟩:=by
 intro rest
 induction rest with
 | nil =>
  intro pre n he hn h1;have he:gs=pre:=by simpa using he
  subst he;refine aB fun R hR=>?_;simp only[CU,VV,seval];exact⟨fun h=>by simp at h,fun _=>h1 ..⟩
 | cons g rest ih =>
  intro pre n he hn h1;subst he;have hlen':pre.length+1+rest.length<2^30:=by simp at hlen;omega
  have hg:=Dh g (by simp)
  have hw:IntKind.i64.wrap ((pre.length:Int)+1)=(((pre++[g]).length:Nat):Int):=by
   rw[bd (by omega)];simp
  have s5:IntKind.i64.wrap (n+g.2)=n+g.2:=IntWalk.i64_in _ (by omega);have hb:0≤n+g.2∧n+g.2≤2^30*(((pre++[g]).length:Nat):Int):=by simp;omega
  refine aB fun R hR=>?_;simp only[CU,xC,pF,VV,seval];refine⟨fun _=>⟨by simp;omega,?_⟩,fun h=>by simp at h;omega⟩;simp only[hw,s5,VV,seval];exact hR _ (b5 [_,_,_] [_] (kU hA [] (pre++g::rest) (n+g.2) 0 0 tot) (by repeat' constructor) (by simp[LW]) (ih (pre++[g]) (n+g.2) (by simp) hb (by simpa[Cn]using h1)))
theorem KZ{J:ae}{K:Exit→St→Prop}(A:Ob)(l:List It)(gs:List Gr)(tot p:Int)(hA:bG (J++[A]))(hlen:l.length<2^30):∀ (rest pre:List It) (C:List (TK×Int)) (w t:Int),l=pre++rest→CN pre.length C→0≤w∧w≤4*(pre.length:Int)→0≤t∧t≤(pre.length:Int) →
  ((fj 2 (fh (.ptr J.length 0) (fh (.ptr (J.length+2) 0) (fj 67 fo)))) fun ZZ=>K (.exit 2) ⟨ZZ,J++[A,.map 150 3 (emap ij dX (jH C rest)),.box 162 (xC gs (J.length+1) p (A2 w rest) (A6 t rest) tot)]⟩) →
  fp J.length prog CT K (rest.length+1) ⟨(uu 2 (.ptr J.length 0::.ptr (J.length+2) 0::uu 29 (.sl 3 (l.map It.ah7)::.i .i64 l.length::.i .i64 pre.length::uu 35 []))),J++[A,.map 150 3 (emap ij dX C),.box 162 (xC gs (J.length+1) p w t tot)]⟩:=by
 intro rest
 induction rest with
 | nil =>
  intro pre C w t he hC hw ht h1;have he:l=pre:=by simpa using he
  subst he;refine aB fun R hR=>?_;simp only[CT,VV,seval];exact⟨fun h=>by simp at h,fun _=>h1 ..⟩
 | cons x rest ih =>
  intro pre C w t he hC hw ht h1;subst he;have hlen':pre.length+1+rest.length<2^30:=by simp at hlen;omega
  have Ji:IntKind.i64.wrap ((pre.length:Int)+1)=(((pre++[x]).length:Nat):Int):=by
   rw[bd (by omega)];simp
  have Fo:(((pre++[x]).length:Nat):Int)=(pre.length:Int)+1:=by simp
  have hxw:=kM (bZ x).1;have s5:IntKind.i64.wrap (w+weight (bZ x).1)=w+weight (bZ x).1:=IntWalk.i64_in _ (by omega);have PF:IntKind.i64.wrap (t+1)=t+1:=IntWalk.i64_in _ (by omega);have hg:=hC.getD (dv (bZ x).1);have hB:=hC.bump (dv (bZ x).1);have hid:(bZ x).1.id=0:=by unfold bZ;split<;>rfl
  have YU:(pre++[x]).length=pre.length+1:=by simp
  refine aB fun R hR=>?_;simp only[CT,xC,It.ah7,VV,seval];refine⟨fun _=>⟨by simp;omega,?_⟩,fun h=>by simp at h;omega⟩;refine az (O6 x _) rfl ?_;simp only[Ji,It.ah7,hid,VV,seval];refine⟨fun h2=>?_,fun h2=>?_⟩
  ·have h3:(bZ x).2=false:=by simpa using h2
   have ih':=ih (pre++[x]) C w t (by simp) (by rw[YU];exact⟨by have:=hC.1;omega,hC.2.1,fun k v hv=>by have:=hC.2.2 k v hv;omega⟩) (by omega) (by omega) (by simpa only[jH,A2,A6,h3,eY,aF,aK]using h1);exact hR _ (b5 [_,_,_] [_,_] (kU hA _ _ _ _ _ _) (by repeat' constructor) (by simp[LW]) ih')
  ·have h3:(bZ x).2=true:=by simpa using h2
   rcases qG xU C (dv (bZ x).1)with⟨g1,g2,g3,g4,g5⟩ | ⟨i,b,g1,g2,g3,g4⟩
   ·have hz:IntKind.i64.wrap (0+1)=1:=by decide
    have Uz:IntKind.i64.wrap 1=1:=by decide
    have vg:bump C (dv (bZ x).1) 1=eO C (dv (bZ x).1) 1:=by simp[bump,g1]
    simp only[ij,dv]at g2 g3 g4 g5;simp only[cN,g2,g3,g4,g5,hz,Uz,cX,V.iL,V.cell,VV,seval];refine az (o9 (bZ x).1 _) (by simp only[It.ah7,hid,VV,seval]) ?_;simp only[VV,seval];have Zm:CN (pre++[x]).length (bump C (dv (bZ x).1) 1):=by rw[YU];exact hB
    refine⟨fun h4=>?_,fun h4=>?_⟩
    ·simp only[Ji,PF,VV,seval];have ih':=ih (pre++[x]) (bump C (dv (bZ x).1) 1) w (t+1) (by simp) Zm (by omega) (by omega) (by simpa only[jH,A2,A6,h3,h4,dP,vH,fG,aF,aL,aK]using h1);rw[vg]at ih';exact hR _ (b5 [_,_,_] [_,_,_] (kU hA _ gs p w (t+1) tot) (by repeat' constructor) (by simp[LW]) ih')
    ·refine az (jY (bZ x).1 _) (by simp only[It.ah7,hid,VV,seval]) ?_;simp only[Ji,s5,VV,seval];have ih':=ih (pre++[x]) (bump C (dv (bZ x).1) 1) (w+weight (bZ x).1) t (by simp) Zm (by omega) (by omega) (by simpa only[jH,A2,A6,h3,h4,dP,fH,iG,iF,aF,aL,aK]using h1);rw[vg]at ih';exact hR _ (b5 [_,_,_] [_,_,_] (kU hA _ gs p (w+weight (bZ x).1) t tot) (by repeat' constructor) (by simp[LW]) ih')
   ·have hz:IntKind.i64.wrap (b+1)=b+1:=IntWalk.i64_in _ (by rw[g1]at hg;simp at hg;omega);have vg:bump C (dv (bZ x).1) 1=eO C (dv (bZ x).1) (b+1):=by simp[bump,g1]
    simp only[ij,dv]at g2 g3 g4;simp only[cN,g2,g3,g4,hz,cX,V.iL,V.cell,VV,seval];refine az (o9 (bZ x).1 _) (by simp only[It.ah7,hid,VV,seval]) ?_;simp only[VV,seval];have Zm:CN (pre++[x]).length (bump C (dv (bZ x).1) 1):=by rw[YU];exact hB
    refine⟨fun h4=>?_,fun h4=>?_⟩
    ·simp only[Ji,PF,VV,seval];have ih':=ih (pre++[x]) (bump C (dv (bZ x).1) 1) w (t+1) (by simp) Zm (by omega) (by omega) (by simpa only[jH,A2,A6,h3,h4,dP,vH,fG,aF,aL,aK]using h1);rw[vg]at ih';exact hR _ (b5 [_,_,_] [_,_,_] (kU hA _ gs p w (t+1) tot) (by repeat' constructor) (by simp[LW]) ih')
    ·refine az (jY (bZ x).1 _) (by simp only[It.ah7,hid,VV,seval]) ?_;simp only[Ji,s5,VV,seval];have ih':=ih (pre++[x]) (bump C (dv (bZ x).1) 1) (w+weight (bZ x).1) t (by simp) Zm (by omega) (by omega) (by simpa only[jH,A2,A6,h3,h4,dP,fH,iG,iF,aF,aL,aK]using h1);rw[vg]at ih';exact hR _ (b5 [_,_,_] [_,_,_] (kU hA _ gs p (w+weight (bZ x).1) t tot) (by repeat' constructor) (by simp[LW]) ih')
def qY(l:List It)(m:Nat):List V:=xC (cg (aP l)) m (gQ l).dW (gQ l).weight (gQ l).tags (fI l)
def TR(l:List It)(n:Nat):ae:=[.box 162 (qY l (n+1)),.map 150 3 (emap ij dX (jH [] l)),.box 162 (qY l (n+1))]
theorem A9(l:List It)(hlen:l.length<2^27)(J:ae):PC prog 118 [.sl 3 (l.map It.ah7)] J (fun r J'=>r=.agg (qY l (J.length+1))∧J'=J++TR l J.length):=by
 refine PC.intro func118 adH fun bj dx=>ax ?_;simp only[XY,SS,seval];have VZ:=mm l;have Z1:=sL (aP l);have hgv:=zi (aP l);simp only[VV,seval];refine az (Mz l (by omega) _) rfl ?_;simp only[VV,seval];refine az (Oz (aP l) (by omega) _) rfl ?_;simp only[VV,seval];refine az (xT l (by omega) _) rfl ?_;simp only[ag,VV,seval];have hA:bG (J++[.box 162 [.nil,.dC,.i .i64 0,.i .i64 0,.i .i64 0,.i .i64 0]]):=cj bj (by simp[LW]);refine b6.aZ (fr':=(.sl 3 (l.map It.ah7)::uu 1 (.ptr J.length 0::.ptr (J.length+2) 0::uu 14 (.sl 3 ((cg (aP l)).map pF)::.i .i64 (cg (aP l)).length::.i .i64 ([]:List Gr).length::uu 50 [])))) (by repeat' constructor) ((cg (aP l)).length+1) (K4 _ l (cg (aP l)) (fI l) hA (by omega) (fun g hg=>by have:=hgv g hg;omega) (cg (aP l)) [] 0 rfl (by simp) ?_);simp only[JE];intros;simp only[xC,ag,VV,seval];refine b6.aZ (fr':=(uu 2 (.ptr J.length 0::.ptr (J.length+2) 0::uu 29 (.sl 3 (l.map It.ah7)::.i .i64 l.length::.i .i64 ([]:List It).length::uu 35 [])))) (by repeat' constructor) (l.length+1) (KZ _ l (cg (aP l)) (fI l) (Cn 0 (cg (aP l))) hA (by omega) l [] [] 0 0 rfl CN.nil (by simp) (by simp) ?_);simp only[JE];intros;simp only[xC,VV,seval];exact eP (.inr rfl) (by simp only[RS,seval];rfl) (Wk.refl _ _) rfl ⟨rfl,rfl⟩
end Go.Proofs.Tryz
set_option maxRecDepth 4000
set_option maxHeartbeats 1000000
namespace Go.Proofs.Tryz
open Go Go.Pm Go.Bt
def Fc(n:Nat):Ob:=.box 170 [.mp n,.mp (n+1),.mp (n+2)]
theorem Nz{J:ae}{n0:Nat}{K:Exit→St→Prop}(M1 M3 FB:Ob)(H:List (TK×(Nat×Nat)))(f3:TK→List (Int×Int))(id:Int)(gs:List Gr)(hlen:gs.length<2^30)(j9:Nat):∀ (rest pre:List Gr) (T:ae) (G:List (GK×(Nat×Nat))) (f:GK→List (Int×Int)),gs=pre++rest→Bt.jJ 190 (J.length+5) T G f→Bt.jJ 190 (J.length+5) T H f3→H7 G H→(∀ k,(f k).length+rest.length<2^30) →
  (∀ T' G',Bt.jJ 190 (J.length+5) T' G' (iK f id rest)→Bt.jJ 190 (J.length+5) T' H f3→H7 G' H→pG T T'→((fh (.ptr (J.length+3) 0) (fh (.i .i64 id) (fj 7 (fh (.ptr j9 0) (fj 79 fo))))) fun ZZ=>K (.exit 0) ⟨ZZ,J++(M1::.map 184 185 (emap oC nK G')::M3::Fc J.length::FB::T')⟩)) →
  fp n0 prog IG K (rest.length+1) ⟨(.ptr (J.length+3) 0::.i .i64 id::uu 7 (.ptr j9 0::uu 32 (.sl 3 (gs.map pF)::.i .i64 gs.length::.i .i64 pre.length::uu 44 []))),J++(M1::.map 184 185 (emap oC nK G)::M3::Fc J.length::FB::T)⟩:=by
 intro rest
 induction rest with
 | nil =>
  intro pre T G f he hP hH hD hf h1;have he:gs=pre:=by simpa using he
  subst he;refine aB fun R hR=>?_;simp only[IG,VV,seval];exact⟨fun h=>by simp at h,fun _=>h1 T G hP hH hD (pG.refl T) ..⟩
 | cons g rest ih =>
  intro pre T G f he hP hH hD hf h1;subst he;have hlen':pre.length+1+rest.length<2^30:=by simp at hlen;omega
  have hw:IntKind.i64.wrap ((pre.length:Int)+1)=(((pre++[g]).length:Nat):Int):=by
   rw[bd (by omega)];simp
  refine aB fun R hR=>?_;simp only[IG,pF,Fc,VV,seval];refine⟨fun _=>⟨by simp;omega,?_⟩,fun h=>by simp at h;omega⟩;rcases vo (ve:=nK) Dl G g.1 with⟨g1,g2,g3,g4,g5⟩ | ⟨i,b,g1,g2,g3,g4⟩
  ·simp only[oC]at g2 g3 g4 g5;simp only[cN,g2,g3,g4,g5,cX,V.iL,V.cell,VV,seval];have hT3:(T++[Ob.box 182 [V.s g.1.1,V.s g.1.2,V.i .i64 g.2],Ob.box 184 [V.s g.1.1,V.s g.1.2],Ob.iter true (J.length+1) 185 ((emap oC nK G).length+1) [] (some (emap oC nK G).length)]).length=T.length+3:=by simp
   have jd:=(hP.app [Ob.box 182 [V.s g.1.1,V.s g.1.2,V.i .i64 g.2],Ob.box 184 [V.s g.1.1,V.s g.1.2],Ob.iter true (J.length+1) 185 ((emap oC nK G).length+1) [] (some (emap oC nK G).length)]).new g1 (id,g.2);rw[hT3]at jd;have hv:V.own (J.length+(T.length+3+1+1+1+1+1)) 0=nK (J.length+5+(T.length+3),0):=by simp only[nK];congr 1;omega
   simp only[hv,g5,hw];have k:=ih (pre++[g]) _ _ _ (by simp) jd ((hH.app _).app _) (hD.new hH _ _ (by omega)) (fun k=>by have:=hf k;simp only[po,ai]at *;split<;>simp<;>omega) (fun T' G' hp hh hd hg=>h1 T' G' hp hh hd ((pG.app _ _).trans ((pG.app _ _).trans hg)));simp only[gU,Co,aR,bn,bk,ay,bo,Fc]at k;exact⟨by decide,hR _ (aZ (by repeat' constructor) k)⟩
  ·simp only[oC]at g2 g3 g4;obtain⟨r,g0⟩:=b;obtain⟨j,rfl,hj⟩:=hP.row _ _ _ g1;have kI:=(ab.1 hj).1;have ej:J.length+5+j=J.length+(j+5):=by omega
   have UY:∀ l,(T++l)[j]?=some (.row 190 2 16 g0 false ((f g.1).map Co)):=fun l=>by rw[ah kI];exact hj
   have UX:∀ l o,(T++l).set j o=T.set j o++l:=fun l o=>gz _ _ kI;have hTk:∀ o l k,(T.set j o++l)[T.length+k]?=l[k]?:=fun o l k=>by rw[aA (by simp)];simp
   have rq:=hf g.1;simp only[nK,ej]at g2 g3;simp only[cN,g2,g3,g4,UY,UX,hTk,cX,V.iL,V.cell,VV,seval];have Ru:=(hP.add g1 (id,g.2)).app [Ob.box 182 [V.s g.1.1,V.s g.1.2,V.i .i64 g.2],Ob.box 184 [V.s g.1.1,V.s g.1.2],Ob.iter true (J.length+1) 185 (emap oC nK G).length [] (some i)];have hH2:=(hH.other (gU 190 (g0+1) (f g.1++[(id,g.2)])) (fun k r g' hk=>fun e=>hD _ _ _ _ _ _ g1 hk e.symm)).app [Ob.box 182 [V.s g.1.1,V.s g.1.2,V.i .i64 g.2],Ob.box 184 [V.s g.1.1,V.s g.1.2],Ob.iter true (J.length+1) 185 (emap oC nK G).length [] (some i)];have hv:V.own (J.length+(j+5)) (g0+1)=nK (J.length+5+j,g0+1):=by simp only[nK];congr 1;omega
   have hr:(f g.1).map Co++[[V.i .i64 id,V.i .i64 g.2]]=(f g.1++[(id,g.2)]).map Co:=by simp[Co]
   simp only[hv,g4,hr,hw];have k:=ih (pre++[g]) _ _ _ (by simp) Ru hH2 (hD.add g1 _) (fun k=>by have:=hf k;simp only[po,ai]at *;split<;>simp<;>omega) (fun T' G' hp hh hd hg=>h1 T' G' hp hh hd (((pG.setRow hj _).trans (pG.app _ _)).trans hg));simp only[gU,aR,bn,bk,Fc]at k;exact⟨by simp only[ag,maxLen,ai]at *;omega,hR _ (aZ (by repeat' constructor) k)⟩
end Go.Proofs.Tryz
set_option maxRecDepth 4000
set_option maxHeartbeats 1000000
namespace Go.Proofs.Tryz
open Go Go.Pm Go.Bt
theorem Ny{J:ae}{n0:Nat}{K:Exit→St→Prop}(M1 M2 FB:Ob)(H:List (GK×(Nat×Nat)))(f3:GK→List (Int×Int))(id:Int)(C:List (TK×Int))(hK:iN C)(hC:C.length<2^29)(jc ji:Nat)(f0:TK→List (Int×Int))(Rm:∀ k,(f0 k).length<2^29):∀ (N:Nat) (ps:List Nat) (cur:Option Nat) (D:List (TK×Int)) (T:ae) (G:List (TK×(Nat×Nat))),ps.length≤N→ps.Nodup→(∀ p∈ps,p<C.length)→(D++ps.map fun i=>C.getD i ((0,[]),0)).Perm C →
  Bt.jJ 190 (J.length+5) T G (iK f0 id D)→Bt.jJ 190 (J.length+5) T H f3→H7 G H→T[jc]?=some (.map 150 3 (emap ij dX C))→T[ji]?=some (.iter false (J.length+5+jc) 3 (emap ij dX C).length ps cur) →
  (∀ T' G' D',D'.Perm C→Bt.jJ 190 (J.length+5) T' G' (iK f0 id D')→Bt.jJ 190 (J.length+5) T' H f3→H7 G' H→pG T T'→((fh (.ptr (J.length+3) 0) (fj 88 fo)) fun ZZ=>K (.exit 2) ⟨ZZ,J++(M1::M2::.map 150 185 (emap ij nK G')::Fc J.length::FB::T')⟩)) →
  fp n0 prog IF K (N+1) ⟨(.ptr (J.length+3) 0::.i .i64 id::uu 68 (.it (J.length+(ji+5))::uu 18 [])),J++(M1::M2::.map 150 185 (emap ij nK G)::Fc J.length::FB::T)⟩:=by
 intro N
 induction N with
 | zero =>
  intro ps cur D T G hl nz hp hs hP hH hD hc hi h1;have lq:ps=[]:=aG (by omega);subst lq;have ec:J.length+5+jc=J.length+(jc+5):=by omega
  rw[ec]at hi;refine aB fun R hR=>?_;simp only[IF,Fc,hc,hi,VV,seval];exact h1 _ _ D (by simpa using hs) hP hH hD (pG.refl T) ..
 | succ N ih =>
  intro ps cur D T G hl nz hp hs hP hH hD hc hi h1;have ec:J.length+5+jc=J.length+(jc+5):=by omega
  rw[ec]at hi;have pE:=(ab.1 hi).1;have gv:ji≠jc:=fun e=>by subst e;rw[hc]at hi;simp at hi
  have Fl:∀ o,(T.set ji o)[ji]?=some o:=fun o=>ar pE;have Jh:∀ o,(T.set ji o)[jc]?=some (.map 150 3 (emap ij dX C)):=fun o=>by rw[aJ gv];exact hc
  refine aB fun R hR=>?_;simp only[IF,Fc,hc,hi,Fl,Jh,VV,seval];refine⟨fun lq=>?_,fun q hq=>?_⟩
  ·subst lq;exact h1 _ _ D (by simpa using hs) hP hH hD (pG.refl T) ..
  ·have BE:=hp q hq;have eA:=uc (ke:=ij) (ve:=dX) C ((0,[]),0) BE;have UG:=nC nz hq;have rq:=mH hq
   have nrow:∀ {α:Type} [DecidableEq α] {G:List (α×(Nat×Nat))} {f:α→List (Int×Int)},Bt.jJ 190 (J.length+5) T G f→∀ k r g,bS k G=some (r,g)→r≠J.length+5+ji:=fun h k r g hk e=>by
    obtain⟨j,e1,e2⟩:=h.row k r g hk;have:j=ji:=by omega
    subst this;rw[hi]at e2;simp[gU]at e2
   have hPs:=fun o=>hP.other o (nrow hP);have hHs:=fun o=>hH.other o (nrow hH);have Dh:=fun o=>pG.set hi rfl o
   have BF:((D++[C.getD q ((0,[]),0)])++(ps.filter fun i=>i != q).map fun i=>C.getD i ((0,[]),0)).Perm C:=by
    refine List.Perm.trans ?_ hs;rw[aR];refine List.Perm.append_left _ ?_;exact((UG.map fun i=>C.getD i ((0,[]),0)).symm)
   have hdl:D.length<2^29:=by have:=hs.length_eq;simp at this;omega
   generalize ZW:C.getD q ((0,[]),0)=kc at eA BF;obtain⟨k,c⟩:=kc;have Ru:po (iK f0 id D) k (id,c)=iK f0 id (D++[(k,c)]):=(H5 f0 id D (k,c)).symm;have hfk:∀ k,(iK f0 id D k).length+1<2^30:=fun k=>by have:=BY id k D f0;have:=Rm k;omega
   simp only[eA,dX,ij,VV,seval];have rn:=Fl (.iter false (J.length+(jc+5)) 3 (emap ij dX C).length (ps.filter fun i=>i != q) (some q));have YG:=Jh (.iter false (J.length+(jc+5)) 3 (emap ij dX C).length (ps.filter fun i=>i != q) (some q));have hPi:=hPs (.iter false (J.length+(jc+5)) 3 (emap ij dX C).length (ps.filter fun i=>i != q) (some q));have hHi:=hHs (.iter false (J.length+(jc+5)) 3 (emap ij dX C).length (ps.filter fun i=>i != q) (some q));have hgi:=Dh (.iter false (J.length+(jc+5)) 3 (emap ij dX C).length (ps.filter fun i=>i != q) (some q));generalize T.set ji (.iter false (J.length+(jc+5)) 3 (emap ij dX C).length (ps.filter fun i=>i != q) (some q))=T1 at rn YG hPi hHi hgi ⊢;clear Fl Jh hPs hHs Dh hi hc hP hH nrow;rcases vo (ve:=nK) xU G k with⟨g1,g2,g3,g4,g5⟩ | ⟨i,b,g1,g2,g3,g4⟩
   ·simp only[ij]at g2 g3 g4 g5;simp only[cN,g2,g3,g4,g5,cX,V.iL,V.cell,VV,seval];have hT3:(T1++[Ob.box 150 [V.i .i64 k.1,V.s k.2,V.i .i64 0],Ob.iter true (J.length+2) 185 ((emap ij nK G).length+1) [] (some (emap ij nK G).length)]).length=T1.length+2:=by simp
    have jd:=(hPi.app [Ob.box 150 [V.i .i64 k.1,V.s k.2,V.i .i64 0],Ob.iter true (J.length+2) 185 ((emap ij nK G).length+1) [] (some (emap ij nK G).length)]).new g1 (id,c);rw[hT3,Ru]at jd;have hv:V.own (J.length+(T1.length+2+1+1+1+1+1)) 0=nK (J.length+5+(T1.length+2),0):=by simp only[nK];congr 1;omega
    simp only[hv,g5]
    have kk:=ih (ps.filter fun i=>i != q) (some q) (D++[(k,c)]) _ _ (by omega) (nz.filter _) (fun p h=>hp p (cW.1 h).1) BF jd ((hHi.app _).app _) (hD.new hHi _ _ (by omega)) (((pG.app _ _).trans (pG.app _ _)).2 _ _ YG rfl) (by rw[ec,aR,ah (ab.1 rn).1];exact rn)
     (fun T' G' D' hp hq hh hd hg=>h1 T' G' D' hp hq hh hd (hgi.trans (((pG.app _ _).trans (pG.app _ _)).trans hg)))
    simp only[gU,Co,aR,bn,bk,ay,bo,Fc]at kk;exact⟨by decide,hR _ (aZ (by repeat' constructor) kk)⟩
   ·obtain⟨r,g0⟩:=b;obtain⟨j,rfl,hj⟩:=hPi.row _ _ _ g1;have kI:=(ab.1 hj).1;have ej:J.length+5+j=J.length+(j+5):=by omega
    have UY:∀ l,(T1++l)[j]?=some (.row 190 2 16 g0 false ((iK f0 id D k).map Co)):=fun l=>by rw[ah kI];exact hj
    have UX:∀ l o,(T1++l).set j o=T1.set j o++l:=fun l o=>gz _ _ kI;have hTk:∀ o l k,(T1.set j o++l)[T1.length+k]?=l[k]?:=fun o l k=>by rw[aA (by simp)];simp
    have rq:=hfk k;simp only[nK,ij,ej]at g2 g3;simp only[ij]at g4;simp only[cN,g2,g3,g4,UY,UX,hTk,cX,V.iL,V.cell,VV,seval];have Tf:=(hPi.add g1 (id,c)).app [Ob.box 150 [V.i .i64 k.1,V.s k.2,V.i .i64 0],Ob.iter true (J.length+2) 185 (emap ij nK G).length [] (some i)];rw[Ru]at Tf;have hH2:=(hHi.other (gU 190 (g0+1) (iK f0 id D k++[(id,c)])) (fun k r g' hk=>fun e=>hD _ _ _ _ _ _ g1 hk e.symm)).app [Ob.box 150 [V.i .i64 k.1,V.s k.2,V.i .i64 0],Ob.iter true (J.length+2) 185 (emap ij nK G).length [] (some i)];have hv:V.own (J.length+(j+5)) (g0+1)=nK (J.length+5+j,g0+1):=by simp only[nK];congr 1;omega
    have hr:(iK f0 id D k).map Co++[[V.i .i64 id,V.i .i64 c]]=(iK f0 id D k++[(id,c)]).map Co:=by simp[Co]
    simp only[hv,g4,hr];have Y2:pG T1 (T1.set j (gU 190 (g0+1) (iK f0 id D k++[(id,c)]))++[Ob.box 150 [V.i .i64 k.1,V.s k.2,V.i .i64 0],Ob.iter true (J.length+2) 185 (emap ij nK G).length [] (some i)]):=(pG.setRow hj _).trans (pG.app _ _);have hnj:j≠ji:=fun e=>by subst e;rw[rn]at hj;simp[gU]at hj
    have kk:=ih (ps.filter fun i=>i != q) (some q) (D++[(k,c)]) _ _ (by omega) (nz.filter _) (fun p h=>hp p (cW.1 h).1) BF Tf hH2 (hD.add g1 _) (Y2.2 _ _ YG rfl) (by rw[ec,ah (by rw[Aj];exact(ab.1 rn).1),aJ hnj];exact rn)
     (fun T' G' D' hp hq hh hd hg=>h1 T' G' D' hp hq hh hd (hgi.trans (Y2.trans hg)))
    simp only[gU,aR,bn,bk,Fc]at kk;exact⟨by simp only[ag,maxLen];omega,hR _ (aZ (by repeat' constructor) kk)⟩
end Go.Proofs.Tryz
set_option maxRecDepth 4000
set_option maxHeartbeats 1000000
namespace Go.Proofs.Tryz
open Go Go.Pm Go.Bt
abbrev LE:=Int×(List It×Nat)
def AH(e:List It×Nat):V:=.agg (qY e.1 e.2)
def HO(L:List LE)(k:GK):List (Int×Int):=L.filterMap fun e=>(bS k (dZ [] [] (aP e.2.1))).map fun c=>(e.1,c)
def Gs(L:List LE)(k:TK):List (Int×Int):=L.filterMap fun e=>(bS k (jH [] e.2.1)).map fun c=>(e.1,c)
structure DL (n:Nat) (T:ae) (L:List LE) (G2:List (GK×(Nat×Nat))) (G3:List (TK×(Nat×Nat))):Prop where
 keys:(L.map (·.1)).Nodup
 aik:∀ e∈L,e.2.1.length<2^27
 cls:∀ e∈L,∃ j,e.2.2=n+5+j∧T[j]?=some (.map 150 3 (emap ij dX (jH [] e.2.1)))
 p2:Bt.jJ 190 (n+5) T G2 (HO L)
 p3:Bt.jJ 190 (n+5) T G3 (Gs L)
 dis:H7 G2 G3
def tM(J:ae)(L:List LE)(G2:List (GK×(Nat×Nat)))(G3:List (TK×(Nat×Nat)))(FB:Ob)(T:ae):ae :=
 J++(.map 3 162 (emap dX AH L)::.map 184 185 (emap oC nK G2)::.map 150 185 (emap ij nK G3)::Fc J.length::FB::T)
theorem C9(a b:Int):bY 0 (dX a) (dX b)=some (decide (a=b)):=Hk a b
theorem OU(L:List LE)(id:Int)(l:List It)(m:Nat):iK (HO L) id (cg (aP l))=HO (L++[(id,(l,m))]):=by
 funext k;have hK:=(js (aP l) [] [] 0 CN.nil).2.1;have hp:=iv (aP l);have hK2:iN (cg (aP l)):=(hp.map _).nodup_iff.2 hK;rw[zV id k _ _ hK2,BM hK hp];simp only[HO,List.filterMap_append,fR,List.filterMap_nil];cases bS k (dZ [] [] (aP l))<;>simp
theorem OS(L:List LE)(id:Int)(l:List It)(m:Nat){D:List (TK×Int)}(hp:D.Perm (jH [] l)):iK (Gs L) id D=Gs (L++[(id,(l,m))]):=by
 funext k;have hK:=(zJ l [] 0 CN.nil).2.1;have hK2:iN D:=(hp.map _).nodup_iff.2 hK;rw[zV id k _ _ hK2,BM hK hp];simp only[Gs,List.filterMap_append,fR,List.filterMap_nil];cases bS k (jH [] l)<;>simp
theorem DL.snoc{n:Nat}{T T':ae}{L:List LE}{G2 G2':List (GK×(Nat×Nat))}{G3 G3':List (TK×(Nat×Nat))}(h:DL n T L G2 G3)(hg:pG T T'){id:Int}(hid:bS id L=none){l:List It}(hl:l.length<2^27){j:Nat}
  (hc:T'[j]?=some (.map 150 3 (emap ij dX (jH [] l)))) {D:List (TK×Int)} (hD:D.Perm (jH [] l)) (p2:Bt.jJ 190 (n+5) T' G2' (iK (HO L) id (cg (aP l)))) (p3:Bt.jJ 190 (n+5) T' G3' (iK (Gs L) id D)) (hd:H7 G2' G3') :
  DL n T' (L++[(id,(l,n+5+j))]) G2' G3':=by
 refine⟨?_,fun e he=>?_,fun e he=>?_,?_,?_,hd⟩
 ·rw[ee,fP];refine⟨h.keys,by simp,fun x hx y hy e=>?_⟩;simp only[ay,bo,bU]at hy;subst hy;subst e;have:=(nP x L).1 hx;rw[hid]at this;cases this
 ·rcases bL.1 he with h1 | h1
  ·exact h.aik e h1
  ·simp only[bU]at h1;subst h1;exact hl
 ·rcases bL.1 he with h1 | h1
  ·obtain⟨i,e1,e2⟩:=h.cls e h1;exact⟨i,e1,hg.2 _ _ e2 rfl⟩
  ·simp only[bU]at h1;subst h1;exact⟨j,rfl,hc⟩
 ·rw[← OU];exact p2
 ·rw[← OS L id l _ hD];exact p3
theorem Lf(FB:Ob)(T:ae)(L:List LE)(G2:List (GK×(Nat×Nat)))(G3:List (TK×(Nat×Nat)))(J:ae)(hI:DL J.length T L G2 G3)(id:Int)(hid:bS id L=none)(hL:L.length<1024)(l:List It)(hl:l.length<2^27):
  PC prog 72 [.ptr (J.length+3) 0,.i .i64 id,.sl 3 (l.map It.ah7)] (tM J L G2 G3 FB T) (fun r S'=>r=.b true∧∃ T' m G2' G3',S'=tM J (L++[(id,(l,m))]) G2' G3' FB T'∧DL J.length T' (L++[(id,(l,m))]) G2' G3'∧pG T T'):=by
 refine PC.intro func72 c72 fun bj dx=>ax ?_;simp only[p72,SS,seval];rcases vo (ve:=AH) C9 L id with⟨g1,g2,g3,g4,g5⟩ | ⟨i,b,g1,g2,g3,g4⟩
 ·simp only[dX]at g2 g3 g4 g5;have hlen:(emap dX AH L).length=L.length:=by simp[emap]
  have hd:decide ((1024:Int)≤(L.length:Int))=false:=by simp;omega
  simp only[tM,Fc,cN,g2,hlen,hd,VV,seval];refine⟨rfl,?_⟩;refine az (A9 l hl _) rfl ?_;simp only[TR,qY,xC,cN,g2,cX,V.iL,V.cell,VV,seval];refine⟨rfl,?_⟩;have e7:J.length+(T.length+1+1+1+1+1+1)+1=J.length+(T.length+2+5):=by omega
  have e9:J.length+(T.length+4+1+1+1+1+1)=J.length+(T.length+4+5):=by omega
  simp only[e7,e9,ag];have VZ:=mm l;have Z1:=sL (aP l);have hCN:=zJ l [] 0 CN.nil;generalize V9:T++[_,_,_,_,_]=T1;have Zh:T1.length=T.length+5:=by rw[← V9];simp
  have yY:Bt.jJ 190 (J.length+5) T1 G2 (HO L):=by rw[← V9];exact hI.p2.app _
  have hp3:Bt.jJ 190 (J.length+5) T1 G3 (Gs L):=by rw[← V9];exact hI.p3.app _
  have Y2:pG T T1:=by rw[← V9];exact pG.app _ _
  have Fx:T1[T.length+2]?=some (.map 150 3 (emap ij dX (jH [] l))):=by rw[← V9];simp
  have zd:T1[T.length+4]?=some (.box 162 (qY l (J.length+(T.length+2+5)))):=by rw[← V9];simp[qY,xC]
  have Fu:∀ k,(HO L k).length+(cg (aP l)).length<2^30:=fun k=>by
   have:(HO L k).length≤L.length:=jl _ _;omega
  have UR:∀ k,(Gs L k).length<2^29:=fun k=>by
   have:(Gs L k).length≤L.length:=jl _ _;omega
  refine b6.aZ (fr':=(.ptr (J.length+3) 0::.i .i64 id::uu 7 (.ptr (J.length+(T.length+4+5)) 0::uu 32 (.sl 3 ((cg (aP l)).map pF)::.i .i64 (cg (aP l)).length::.i .i64 ([]:List Gr).length::uu 44 [])))) (by repeat' constructor) ((cg (aP l)).length+1) (Nz _ _ FB G3 (Gs L) id (cg (aP l)) (by omega) (J.length+(T.length+4+5)) (cg (aP l)) [] T1 G2 (HO L) rfl yY hp3 hI.dis Fu ?_);intro T2 G2' N4 hq3 V8 V5;simp only[JE];intros;have Lq:=V5.2 _ _ Fx rfl;have jr:=V5.2 _ _ zd rfl;simp only[qY,xC]at jr;simp only[Fc,jr,Lq,VV,seval];have ej:J.length+5+(T.length+2)=J.length+(T.length+2+5):=by omega
  have hlc:(emap ij dX (jH [] l)).length=(jH [] l).length:=oF _;refine b6.aZ (fr':=(.ptr (J.length+3) 0::.i .i64 id::uu 68 (.it (J.length+(T2.length+5))::uu 18 []))) (by repeat' constructor) ((jH [] l).length+1) (Ny _ _ FB G2' _ id (jH [] l) hCN.2.1 (by have:=hCN.1;omega) (T.length+2) T2.length (Gs L) UR (jH [] l).length (List.range (emap ij dX (jH [] l)).length) none [] (T2++[_]) G3 (by simp[hlc]) lK (fun p hp=>by simpa[hlc]using hp) (by rw[hlc,bk,mz]) (hq3.app _) (N4.app _) V8.symm ((pG.app _ _).2 _ _ Lq rfl) (by rw[ej];simp) ?_);intro T3 G3' D' hD hr3 s6 hd3 hg3;simp only[JE];intros;simp only[VV,seval];refine eP (.inr rfl) rfl (Wk.refl _ _) rfl ⟨rfl,T3,J.length+5+(T.length+2),G2',G3',?_,?_,?_⟩
  ·have:emap dX AH (L++[(id,(l,J.length+5+(T.length+2)))])=emap dX AH L++[(V.i .i64 id,V.agg (qY l (J.length+(T.length+2+5))))]:=by rw[← ej];simp[emap,dX,AH]
   rw[this];rfl
  ·exact hI.snoc (Y2.trans (V5.trans ((pG.app _ _).trans hg3))) hid hl (hg3.2 _ _ ((pG.app _ _).2 _ _ Lq rfl) rfl) hD s6 hr3 hd3.symm
  ·exact Y2.trans (V5.trans ((pG.app _ _).trans hg3))
 ·rw[hid]at g1;cases g1
theorem F7(a b c:Sm)(ha:a.ok (2^40))(hb:b.ok (2^40))(hc:c.ok (2^40))(J:ae):PC prog 120 [.agg (Bf a),.agg (Bf b),.agg (Bf c)] J (fun r J'=>r=.i .i64 (qM a b c)∧J'=J):=by
 refine PC.intro func120 HZ fun bj dx=>ax ?_;obtain⟨a1,a2,a3⟩:=ha;obtain⟨b1,b2,b3⟩:=hb;obtain⟨c1,c2,c3⟩:=hc;simp only[XW,Bf,SS,seval];have m1:∀ x y:Int,(if x<y then y else x)=mx x y:=fun _ _=>rfl;have hmw:0≤mx a.weight b.weight∧mx a.weight b.weight≤2^40:=by unfold mx;split<;>omega
 have hmp:0≤mx a.dW b.dW∧mx a.dW b.dW≤2^40:=by unfold mx;split<;>omega
 have w1:IntKind.i64.wrap (mx a.weight b.weight - c.weight)=mx a.weight b.weight - c.weight:=IntWalk.i64_in _ (by omega);have w2:IntKind.i64.wrap (a.tags+b.tags)=a.tags+b.tags:=IntWalk.i64_in _ (by omega);have w3:IntKind.i64.wrap (2*c.tags)=2*c.tags:=IntWalk.i64_in _ (by omega);have w4:IntKind.i64.wrap (a.tags+b.tags - 2*c.tags)=a.tags+b.tags - 2*c.tags:=IntWalk.i64_in _ (by omega);have w5:IntKind.i64.wrap (3*(a.tags+b.tags - 2*c.tags))=3*(a.tags+b.tags - 2*c.tags):=IntWalk.i64_in _ (by omega);have w6:IntKind.i64.wrap (mx a.weight b.weight - c.weight+3*(a.tags+b.tags - 2*c.tags))=mx a.weight b.weight - c.weight+3*(a.tags+b.tags - 2*c.tags):=IntWalk.i64_in _ (by omega);have w7:IntKind.i64.wrap (mx a.dW b.dW - c.dW)=mx a.dW b.dW - c.dW:=IntWalk.i64_in _ (by omega);have w8:IntKind.i64.wrap (mx a.dW b.dW - c.dW+1)=mx a.dW b.dW - c.dW+1:=IntWalk.i64_in _ (by omega);have hq:=Ir (mx a.dW b.dW - c.dW+1) (2^41) 2 (by omega) (by omega);have w9:IntKind.i64.wrap ((mx a.dW b.dW - c.dW+1).tdiv 2)=(mx a.dW b.dW - c.dW+1).tdiv 2:=IntWalk.i64_in _ (by omega);have w10:IntKind.i64.wrap (4*(mx a.dW b.dW - c.dW+1).tdiv 2)=4*(mx a.dW b.dW - c.dW+1).tdiv 2:=IntWalk.i64_in _ (by omega);simp only[m1,w1,w2,w3,w4,w5,w6,w7,w8,w9,w10,VV,seval];exact jz bj (by simp only[RS,seval];rfl) (by simp only[LW])
theorem zT(t p:Int)(ht:0≤t∧t≤2^40)(hp : -(2^40)≤p∧p≤2^40)(J:ae):PC prog 121 [.i .i64 t,.i .i64 p] J (fun r J'=>r=.i .i64 (kA t p)∧J'=J):=by
 refine PC.intro func121 adF fun bj dx=>ax ?_;simp only[XV,SS,seval];simp only[VV,seval];refine⟨fun h=>?_,fun h=>⟨fun h2=>?_,fun h2=>?_⟩⟩
 ·have h1:100<p:=by simpa using h
  exact aU (.inr rfl) rfl ⟨by simp only[kA,bf h1,one];rfl,rfl⟩
 ·have h1:¬ 100<p:=by simpa using h
  have h3:p<1∨t<1:=by simpa using h2
  exact aU (.inr rfl) rfl ⟨by simp only[kA,aI h1,bf h3,one];rfl,rfl⟩
 ·have h1:¬ 100<p:=by simpa using h
  have h3:¬ (p<1∨t<1):=by simp only[ll,b7]at h2;omega
  have hm:0≤(if 1073741824<t then 1073741824 else t)∧(if 1073741824<t then 1073741824 else t)≤1073741824:=by split<;>omega
  have w1:IntKind.i64.wrap (100 - p)=100 - p:=IntWalk.i64_in _ (by omega);have Gm:(if 1073741824<t then 1073741824 else t)*(100 - p)≤1073741824*100:=s4 hm.2 (by omega) (by omega) (by omega);have Gn:0≤(if 1073741824<t then 1073741824 else t)*(100 - p):=s3 hm.1 (by omega);have w2:IntKind.i64.wrap ((if 1073741824<t then 1073741824 else t)*(100 - p))=(if 1073741824<t then 1073741824 else t)*(100 - p):=IntWalk.i64_in _ (by omega);have hq:=Ir ((if 1073741824<t then 1073741824 else t)*(100 - p)) (1073741824*100) 100 (by omega) (by omega);have w3:IntKind.i64.wrap (((if 1073741824<t then 1073741824 else t)*(100 - p)).tdiv 100)=((if 1073741824<t then 1073741824 else t)*(100 - p)).tdiv 100:=IntWalk.i64_in _ (by omega);simp only[w1,w2,w3];exact aU (.inr rfl) rfl ⟨by simp only[kA,aI h1,aI h3,one];rfl,rfl⟩
end Go.Proofs.Tryz
set_option maxRecDepth 4000
set_option maxHeartbeats 1000000
namespace Go.Proofs.Tryz
open Go Go.Pm Go.Bt
theorem KY{S:ae}{K:Exit→St→Prop}(x:Nat)(hx:x<S.length)(B3 B7:Ob)(g:Gr)(hg:0≤g.2)(r g0:Nat)(gs:List Gr)(VU:Nat)(ps:List (Int×Int))(lq:∀ p∈ps,0≤p.2)(hlen:ps.length<2^30)(hr:S[r]?=some (gU 190 g0 ps))(hB7:B7=.box 182 (pF g))(bj:∀ O:List mU,bG (S++[B3,.map 3 160 (emap dX mh O),B7])):∀ (rest pre:List (Int×Int)) (O:List mU) (m:Int),ps=pre++rest→OB m O→m+iq (iU g.2 rest)≤2^40 →
  ((fh (.ptr x 0) (fj 2 (fh (.ptr S.length 0) (fj 1 (fh (.mp (S.length+1)) (fj 1 (fh (.ptr (S.length+2) 0) (fj 10 (fh (.sl 3 (gs.map pF)) (fh (.i .i64 gs.length) (fh (.i .i64 VU) (fj 87 fo)))))))))))) fun ZZ=>K (.exit 2) ⟨ZZ,S++[B3,.map 3 160 (emap dX mh (cZ O (iU g.2 rest))),B7]⟩) →
  fp S.length prog uS K (rest.length+1) ⟨(.ptr x 0::uu 2 (.ptr S.length 0::uu 1 (.mp (S.length+1)::uu 1 (.ptr (S.length+2) 0::uu 10 (.sl 3 (gs.map pF)::.i .i64 gs.length::.i .i64 VU::uu 12 (.own r g0::.i .i64 ps.length::.i .i64 pre.length::uu 72 [])))))),S++[B3,.map 3 160 (emap dX mh O),B7]⟩:=by
 have rI:=(ab.1 hr).1;have s6:∀ l,(S++l)[r]?=some (.row 190 2 16 g0 false (ps.map Co)):=fun l=>by rw[ah rI];exact hr
 intro rest
 induction rest with
 | nil =>
  intro pre O m he hO hm h1;have he:ps=pre:=by simpa using he
  subst he;refine aB fun R hR=>?_;simp only[uS,VV,seval];exact⟨fun h=>by simp at h,fun _=>h1 ..⟩
 | cons p rest ih =>
  intro pre O m he hO hm h1;have Fo:ps.length=pre.length+1+rest.length:=by rw[he];simp;omega
  have hw:IntKind.i64.wrap ((pre.length:Int)+1)=(((pre++[p]).length:Nat):Int):=by
   rw[bd (by omega)];simp
  have eA:(ps.map Co).getD pre.length []=Co p:=by rw[he];simp[an]
  have hd:decide ((pre.length:Int)<(ps.length:Int))=true:=by simp;omega
  have Rj:∀ a b:Int,(if b<a then b else a)=mn a b:=fun _ _=>rfl;subst hB7;refine aB fun R hR=>?_;simp only[Co]at eA;have Gn:=lq p (by rw[he];simp);have UK:0≤mn p.2 g.2:=by unfold mn;split<;>omega
  have Ol:iU g.2 (p::rest)=(p.1,(⟨mn p.2 g.2,0,0⟩:Sm))::iU g.2 rest:=rfl
  have PI:Mb (iU g.2 rest):=fun i hi=>by
   simp only[iU,bH]at hi;obtain⟨q,hq,rfl⟩:=hi;have:=lq q (by rw[he];simp[hq]);exact⟨by simp only[mn];split<;>omega,cy _,cy _⟩
  have hsn:=re PI;rw[Ol,uI]at hm;have fw:(⟨mn p.2 g.2,0,0⟩:Sm).size=mn p.2 g.2:=by simp[Sm.size]
  have hO2:=hO.add (i:=(p.1,(⟨mn p.2 g.2,0,0⟩:Sm))) ⟨UK,cy _,cy _⟩;have gW:=hO.getD p.1;have hO0:=hO.1;simp only[fw]at hm hO2;have ih':=ih (pre++[p]) (rL O (p.1,⟨mn p.2 g.2,0,0⟩)) (m+mn p.2 g.2) (by rw[he];simp) hO2 (by omega) (by rw[Ol]at h1;exact h1);have nQ:=bj (rL O (p.1,⟨mn p.2 g.2,0,0⟩));simp only[pF]at ih' nQ;rcases iB (ve:=mh) C9 O p.1 with⟨g1,g2,g3⟩ | ⟨i,b,g1,g2,g3⟩
  ·simp only[dX]at g2 g3;have hz:IntKind.i64.wrap (0+mn p.2 g.2)=0+mn p.2 g.2:=IntWalk.i64_in _ (by omega);have e:mh ((rP).add ⟨mn p.2 g.2,0,0⟩)=.agg [.i .i64 (0+mn p.2 g.2),.i .i64 0,.i .i64 0]:=by simp[mh,Bf,rP,Sm.add]
   have e2:rL O (p.1,⟨mn p.2 g.2,0,0⟩)=eO O p.1 ((rP).add ⟨mn p.2 g.2,0,0⟩):=by simp[rL,g1]
   have g4:=g3 ((rP).add ⟨mn p.2 g.2,0,0⟩);rw[e]at g4;rw[e2]at ih' nQ;simp only[uS,pF,s6,eA,hd,Rj,cN,g2,hz,aD,ag,cX,V.iL,V.cell,VV,seval];simp only[hw,g4];exact⟨⟨by omega,by omega⟩,rfl,rfl,hR _ (b5 [_,_,_] [_,_] nQ (by repeat' constructor) (by simp[LW];omega) ih')⟩
  ·simp only[dX]at g2 g3;obtain⟨bp,bw,bt⟩:=b;rw[g1]at gW;simp only[ft]at gW;obtain⟨⟨o1,o2⟩,⟨o3,o4⟩,o5,o6⟩:=gW;simp only at o1 o2 o3 o4 o5 o6;have hz:IntKind.i64.wrap (bp+mn p.2 g.2)=bp+mn p.2 g.2:=IntWalk.i64_in _ (by omega);have e:mh ((⟨bp,bw,bt⟩:Sm).add ⟨mn p.2 g.2,0,0⟩)=.agg [.i .i64 (bp+mn p.2 g.2),.i .i64 bw,.i .i64 bt]:=by simp[mh,Bf,Sm.add]
   have e2:rL O (p.1,⟨mn p.2 g.2,0,0⟩)=eO O p.1 ((⟨bp,bw,bt⟩:Sm).add ⟨mn p.2 g.2,0,0⟩):=by simp[rL,g1]
   have g4:=g3 ((⟨bp,bw,bt⟩:Sm).add ⟨mn p.2 g.2,0,0⟩);rw[e]at g4;rw[e2]at ih' nQ;simp only[uS,pF,s6,eA,hd,Rj,cN,g2,hz,mh,Bf,aD,ag,cX,V.iL,V.cell,VV,seval];simp only[hw,g4];exact⟨⟨by omega,by omega⟩,rfl,rfl,hR _ (b5 [_,_,_] [_,_] nQ (by repeat' constructor) (by simp[LW];omega) ih')⟩
theorem KX{S:ae}{K:Exit→St→Prop}(x m1 m2 m3:Nat)(hx:S[x]?=some (.box 170 [.mp m1,.mp m2,.mp m3]))(B3:Ob)(G2:List (GK×(Nat×Nat)))(f2:GK→List (Int×Int))(h2:S[m2]?=some (.map 184 185 (emap oC nK G2)))
  (cq:∀ k r g,bS k G2=some (r,g)→S[r]?=some (gU 190 g (f2 k))) (Oe:∀ k,bS k G2=none→f2 k=[]) (Rm:∀ k,∀ p∈f2 k,0≤p.2) (rq:∀ k,(f2 k).length<2^30) (gs:List Gr) (Dh:∀ g∈gs,0≤g.2) (hlen:gs.length<2^30) (bj:∀ O:List mU,bG (S++[B3,.map 3 160 (emap dX mh O)])):∀ (rest pre:List Gr) (O:List mU) (m:Int),gs=pre++rest→OB m O→m+iq (rest.flatMap fun g=>iU g.2 (f2 g.1))≤2^40 →
  ((fh (.ptr x 0) (fj 2 (fh (.ptr S.length 0) (fj 1 (fh (.mp (S.length+1)) (fj 102 fo)))))) fun ZZ=>K (.exit 0) ⟨ZZ,S++[B3,.map 3 160 (emap dX mh (cZ O (rest.flatMap fun g=>iU g.2 (f2 g.1))))]⟩) →
  fp S.length prog yE K (rest.length+1) ⟨(.ptr x 0::uu 2 (.ptr S.length 0::uu 1 (.mp (S.length+1)::uu 12 (.sl 3 (gs.map pF)::.i .i64 gs.length::.i .i64 pre.length::uu 87 [])))),S++[B3,.map 3 160 (emap dX mh O)]⟩:=by
 have pK:=(ab.1 hx).1;have Jg:∀ l,(S++l)[x]?=some (.box 170 [.mp m1,.mp m2,.mp m3]):=fun l=>by rw[ah pK];exact hx
 have h2l:=(ab.1 h2).1;have h22:∀ l,(S++l)[m2]?=some (.map 184 185 (emap oC nK G2)):=fun l=>by rw[ah h2l];exact h2
 intro rest
 induction rest with
 | nil =>
  intro pre O m he hO hm h1;have he:gs=pre:=by simpa using he
  subst he;refine aB fun R hR=>?_;simp only[yE,VV,seval];exact⟨fun h=>by simp at h,fun _=>h1 ..⟩
 | cons g rest ih =>
  intro pre O m he hO hm h1;have Fo:gs.length=pre.length+1+rest.length:=by rw[he];simp;omega
  have hw:IntKind.i64.wrap ((pre.length:Int)+1)=(((pre++[g]).length:Nat):Int):=by
   rw[bd (by omega)];simp
  have eA:(gs.map pF).getD pre.length []=pF g:=by rw[he];simp[an]
  have hd:decide ((pre.length:Int)<(gs.length:Int))=true:=by simp;omega
  have hI:(g::rest).flatMap (fun g=>iU g.2 (f2 g.1))=iU g.2 (f2 g.1)++rest.flatMap fun g=>iU g.2 (f2 g.1):=by simp
  rw[hI,od]at hm;rw[hI]at h1;have hA:cZ O (iU g.2 (f2 g.1)++rest.flatMap fun g=>iU g.2 (f2 g.1))=cZ (cZ O (iU g.2 (f2 g.1))) (rest.flatMap fun g=>iU g.2 (f2 g.1)):=by simp[cZ]
  rw[hA]at h1
  have PI:Mb (iU g.2 (f2 g.1)):=fun i hi=>by
   simp only[iU,bH]at hi;obtain⟨q,hq,rfl⟩:=hi;have:=Rm _ q hq;have:=Dh g (by rw[he];simp);exact⟨by simp only[mn];split<;>omega,cy _,cy _⟩
  have hnr:Mb (rest.flatMap fun g=>iU g.2 (f2 g.1)):=fun i hi=>by
   simp only[iU,ir,bH]at hi;obtain⟨g',hg',q,hq,rfl⟩:=hi;have:=Rm _ q hq;have:=Dh g' (by rw[he];simp[hg']);exact⟨by simp only[mn];split<;>omega,cy _,cy _⟩
  have ih':=ih (pre++[g]) (cZ O (iU g.2 (f2 g.1))) (m+iq (iU g.2 (f2 g.1))) (by rw[he];simp) (hO.apply _ PI) (by omega) h1;have hsr:=re hnr;have nQ:=bj (cZ O (iU g.2 (f2 g.1)));refine aB fun R hR=>?_;simp only[pF]at eA;rcases iB (ve:=nK) Dl G2 g.1 with⟨g1,g2,g3⟩ | ⟨i,b,g1,g2,g3⟩
  ·simp only[oC]at g2 g3;simp only[yE,pF,Jg,h22,eA,hd,cN,g2,aD,ag,cX,V.iL,V.cell,VV,seval];have hf:=Oe _ g1;rw[hf]at ih' nQ;simp only[iU,bo,cZ,DF]at ih' nQ;refine⟨⟨by omega,by omega⟩,b6.vP 1 (aB fun R' hR'=>?_)⟩;simp only[uS,hw,rM,aF,false_implies,gk,VV,seval];exact hR _ (b5 [_,_] [_] nQ (by repeat' constructor) (by simp[LW];omega) ih')
  ·simp only[oC]at g2 g3;obtain⟨r,g0⟩:=b;have hr:=cq _ _ _ g1;have s6:∀ l,(S++l)[r]?=some (gU 190 g0 (f2 g.1)):=fun l=>by rw[ah (ab.1 hr).1];exact hr
   simp only[gU]at s6;simp only[nK]at g2 g3;simp only[yE,pF,Jg,h22,eA,hd,cN,g2,s6,aD,ag,cX,V.iL,V.cell,VV,seval];refine⟨⟨by omega,by omega⟩,b6.aZ (fr':=(.ptr x 0::uu 2 (.ptr S.length 0::uu 1 (.mp (S.length+1)::uu 1 (.ptr (S.length+2) 0::uu 10 (.sl 3 (gs.map pF)::.i .i64 gs.length::.i .i64 pre.length::uu 12 (.own r g0::.i .i64 (f2 g.1).length::.i .i64 ([]:List (Int×Int)).length::uu 72 []))))))) (by repeat' constructor) ((f2 g.1).length+1) (KY x pK B3 _ g (Dh g (by rw[he];simp)) r g0 gs pre.length (f2 g.1) (Rm _) (rq _) hr rfl ?_ (f2 g.1) [] O m rfl hO (by omega) ?_)⟩
   ·intro O';have h:=cj (bj O') (l:=[.box 182 (pF g)]) (by simp[pF,LW]);simpa using h
   ·simp only[JE];intros;simp only[VV,seval];simp only[hw];refine hR _ (b5 [_,_] [_] nQ (by repeat' constructor) (by simp[LW];omega) ih')
end Go.Proofs.Tryz
set_option maxRecDepth 4000
set_option maxHeartbeats 1000000
namespace Go.Proofs.Tryz
open Go Go.Pm Go.Bt
theorem KW{S:ae}{K:Exit→St→Prop}(x:Nat)(hx:x<S.length)(B3 IT:Ob)(k:TK)(c:Int)(hc:0≤c)(r g0:Nat)(ps:List (Int×Int))(lq:∀ p∈ps,0≤p.2)(hlen:ps.length<2^30)(hr:S[r]?=some (gU 190 g0 ps))(bj:∀ O:List mU,bG (S++[B3,.map 3 160 (emap dX mh O),IT,.box 150 [.i .i64 k.1,.s k.2,.i .i64 0]])):∀ (rest pre:List (Int×Int)) (O:List mU) (m:Int),ps=pre++rest→OB m O→m+iq (l3 k c rest)≤2^40 →
  ((fh (.ptr x 0) (fj 2 (fh (.ptr S.length 0) (fj 1 (fh (.mp (S.length+1)) (fj 54 (fh (.it (S.length+2)) (fj 47 fo)))))))) fun ZZ=>K (.exit 6) ⟨ZZ,S++[B3,.map 3 160 (emap dX mh (cZ O (l3 k c rest))),IT,.box 150 [.i .i64 k.1,.s k.2,.i .i64 0]]⟩) →
  fp S.length prog uR K (rest.length+1) ⟨(.ptr x 0::uu 2 (.ptr S.length 0::uu 1 (.mp (S.length+1)::uu 5 (.ptr (S.length+3) 0::.i .i64 c::uu 47 (.it (S.length+2)::uu 10 (.own r g0::.i .i64 ps.length::.i .i64 pre.length::uu 34 [])))))),S++[B3,.map 3 160 (emap dX mh O),IT,.box 150 [.i .i64 k.1,.s k.2,.i .i64 0]]⟩:=by
 have rI:=(ab.1 hr).1;have s6:∀ l,(S++l)[r]?=some (.row 190 2 16 g0 false (ps.map Co)):=fun l=>by rw[ah rI];exact hr
 intro rest
 induction rest with
 | nil =>
  intro pre O m he hO hm h1;have he:ps=pre:=by simpa using he
  subst he;refine aB fun R hR=>?_;simp only[uR,VV,seval];exact⟨fun h=>by simp at h,fun _=>h1 ..⟩
 | cons p rest ih =>
  intro pre O m he hO hm h1;have Fo:ps.length=pre.length+1+rest.length:=by rw[he];simp;omega
  have hw:IntKind.i64.wrap ((pre.length:Int)+1)=(((pre++[p]).length:Nat):Int):=by
   rw[bd (by omega)];simp
  have eA:(ps.map Co).getD pre.length []=Co p:=by rw[he];simp[an]
  have hd:decide ((pre.length:Int)<(ps.length:Int))=true:=by simp;omega
  have Rj:∀ a b:Int,(if b<a then b else a)=mn a b:=fun _ _=>rfl;refine aB fun R hR=>?_;simp only[Co]at eA;have Gn:=lq p (by rw[he];simp);have UK:0≤mn p.2 c:=by unfold mn;split<;>omega
  have hwt:0≤weight ⟨k.1,k.2,0⟩∧weight ⟨k.1,k.2,0⟩≤4:=by unfold weight;(repeat' split)<;>omega
  have hmul:0≤mn p.2 c*weight ⟨k.1,k.2,0⟩:=s3 UK hwt.1;let z:Sm:=if jS k then⟨0,0,mn p.2 c⟩else⟨0,mn p.2 c*weight ⟨k.1,k.2,0⟩,0⟩
  have hz:z=if jS k then⟨0,0,mn p.2 c⟩else⟨0,mn p.2 c*weight ⟨k.1,k.2,0⟩,0⟩:=rfl
  have Ol:l3 k c (p::rest)=(p.1,z)::l3 k c rest:=rfl
  have V2:∀ q:Int×Int,0≤q.2→(if jS k then(⟨0,0,mn q.2 c⟩:Sm)else⟨0,mn q.2 c*weight ⟨k.1,k.2,0⟩,0⟩).nn:=fun q hq=>by
   have h0:0≤mn q.2 c:=by unfold mn;split<;>omega
   split
   ·exact⟨cy _,cy _,h0⟩
   ·exact⟨cy _,s3 h0 hwt.1,cy _⟩
  have PI:Mb (l3 k c rest):=fun i hi=>by
   simp only[l3,bH]at hi;obtain⟨q,hq,rfl⟩:=hi;exact V2 q (lq q (by rw[he];simp[hq]))
  have hsn:=re PI;rw[Ol,uI]at hm;have hO2:=hO.add (i:=(p.1,z)) (V2 p Gn);have gW:=hO.getD p.1;have hO0:=hO.1;have ih':=ih (pre++[p]) (rL O (p.1,z)) (m+z.size) (by rw[he];simp) hO2 (by simp only at hm;omega) (by rw[Ol]at h1;exact h1);have nQ:=bj (rL O (p.1,z));have PK:∃ b:Sm,(bS p.1 O).getD rP=b:=⟨_,rfl⟩;obtain⟨⟨bp,bw,bt⟩,hb⟩:=PK;rw[hb]at gW;obtain⟨⟨o1,o2⟩,⟨o3,o4⟩,o5,o6⟩:=gW;simp only at o1 o2 o3 o4 o5 o6;have e2:rL O (p.1,z)=eO O p.1 ((⟨bp,bw,bt⟩:Sm).add z):=by simp only[rL,hb]
  rw[e2]at ih' nQ;rcases iB (ve:=mh) C9 O p.1 with⟨g1,g2,g3⟩ | ⟨i,b,g1,g2,g3⟩
  ·simp only[dX]at g2 g3;rw[g1]at hb;cases hb;have g4:=g3 ((⟨0,0,0⟩:Sm).add z);simp only[uR,s6,eA,hd,Rj,cN,g2,aD,ag,cX,V.iL,V.cell,VV,seval];have ht:bW ⟨k.1,k.2,0⟩=jS k:=rfl;refine⟨⟨by omega,by omega⟩,rfl,?_⟩;refine az (o9 ⟨k.1,k.2,0⟩ _) rfl ?_;simp only[ht,VV,seval];refine⟨fun hT=>?_,fun hT=>?_⟩
   ·have Me:z=⟨0,0,mn p.2 c⟩:=by rw[hz,bf hT]
    have hs:z.size=mn p.2 c:=by rw[Me];simp[Sm.size]
    have hu:IntKind.i64.wrap (0+mn p.2 c)=0+mn p.2 c:=IntWalk.i64_in _ (by simp only[hs]at hm;omega);have e:mh ((⟨0,0,0⟩:Sm).add z)=.agg [.i .i64 0,.i .i64 0,.i .i64 (0+mn p.2 c)]:=by simp[mh,Bf,rP,Sm.add,Me]
    rw[e]at g4;simp only[Rj,hu,cN,g2,cX,V.iL,V.cell,mh,Bf,VV,seval];simp only[hw,g4];exact⟨rfl,hR _ (b5 [_,_,_,_] [_,_] nQ (by repeat' constructor) (by simp[LW];omega) ih')⟩
   ·have Me:z=⟨0,mn p.2 c*weight ⟨k.1,k.2,0⟩,0⟩:=by rw[hz,aI (by simp[hT])]
    have hs:z.size=mn p.2 c*weight ⟨k.1,k.2,0⟩:=by rw[Me];simp[Sm.size]
    have hu1:IntKind.i64.wrap (mn p.2 c*weight ⟨k.1,k.2,0⟩)=mn p.2 c*weight ⟨k.1,k.2,0⟩:=IntWalk.i64_in _ (by simp only[hs]at hm;omega);have hu:IntKind.i64.wrap (0+mn p.2 c*weight ⟨k.1,k.2,0⟩)=0+mn p.2 c*weight ⟨k.1,k.2,0⟩:=IntWalk.i64_in _ (by simp only[hs]at hm;omega);have e:mh ((⟨0,0,0⟩:Sm).add z)=.agg [.i .i64 0,.i .i64 (0+mn p.2 c*weight ⟨k.1,k.2,0⟩),.i .i64 0]:=by simp[mh,Bf,rP,Sm.add,Me]
    rw[e]at g4;refine az (jY ⟨k.1,k.2,0⟩ _) rfl ?_;simp only[Rj,hu1,hu,cN,g2,cX,V.iL,V.cell,mh,Bf,VV,seval];simp only[hw,g4];exact⟨rfl,hR _ (b5 [_,_,_,_] [_,_] nQ (by repeat' constructor) (by simp[LW];omega) ih')⟩
  ·simp only[dX]at g2 g3;rw[g1]at hb;cases hb;have g4:=g3 ((⟨bp,bw,bt⟩:Sm).add z);simp only[uR,s6,eA,hd,Rj,cN,g2,mh,Bf,aD,ag,cX,V.iL,V.cell,VV,seval];have ht:bW ⟨k.1,k.2,0⟩=jS k:=rfl;refine⟨⟨by omega,by omega⟩,rfl,?_⟩;refine az (o9 ⟨k.1,k.2,0⟩ _) rfl ?_;simp only[ht,VV,seval];refine⟨fun hT=>?_,fun hT=>?_⟩
   ·have Me:z=⟨0,0,mn p.2 c⟩:=by rw[hz,bf hT]
    have hs:z.size=mn p.2 c:=by rw[Me];simp[Sm.size]
    have hu:IntKind.i64.wrap (bt+mn p.2 c)=bt+mn p.2 c:=IntWalk.i64_in _ (by simp only[hs]at hm;omega);have e:mh ((⟨bp,bw,bt⟩:Sm).add z)=.agg [.i .i64 bp,.i .i64 bw,.i .i64 (bt+mn p.2 c)]:=by simp[mh,Bf,rP,Sm.add,Me]
    rw[e]at g4;simp only[Rj,hu,cN,g2,cX,V.iL,V.cell,mh,Bf,VV,seval];simp only[hw,g4];exact⟨rfl,hR _ (b5 [_,_,_,_] [_,_] nQ (by repeat' constructor) (by simp[LW];omega) ih')⟩
   ·have Me:z=⟨0,mn p.2 c*weight ⟨k.1,k.2,0⟩,0⟩:=by rw[hz,aI (by simp[hT])]
    have hs:z.size=mn p.2 c*weight ⟨k.1,k.2,0⟩:=by rw[Me];simp[Sm.size]
    have hu1:IntKind.i64.wrap (mn p.2 c*weight ⟨k.1,k.2,0⟩)=mn p.2 c*weight ⟨k.1,k.2,0⟩:=IntWalk.i64_in _ (by simp only[hs]at hm;omega);have hu:IntKind.i64.wrap (bw+mn p.2 c*weight ⟨k.1,k.2,0⟩)=bw+mn p.2 c*weight ⟨k.1,k.2,0⟩:=IntWalk.i64_in _ (by simp only[hs]at hm;omega);have e:mh ((⟨bp,bw,bt⟩:Sm).add z)=.agg [.i .i64 bp,.i .i64 (bw+mn p.2 c*weight ⟨k.1,k.2,0⟩),.i .i64 bt]:=by simp[mh,Bf,rP,Sm.add,Me]
    rw[e]at g4;refine az (jY ⟨k.1,k.2,0⟩ _) rfl ?_;simp only[Rj,hu1,hu,cN,g2,cX,V.iL,V.cell,mh,Bf,VV,seval];simp only[hw,g4];exact⟨rfl,hR _ (b5 [_,_,_,_] [_,_] nQ (by repeat' constructor) (by simp[LW];omega) ih')⟩
theorem KV{S:ae}{K:Exit→St→Prop}(x m1 m2 m3 mq:Nat)(hx:S[x]?=some (.box 170 [.mp m1,.mp m2,.mp m3]))(B3:Ob)(G3:List (TK×(Nat×Nat)))(f3:TK→List (Int×Int))(h3:S[m3]?=some (.map 150 185 (emap ij nK G3)))
  (cq:∀ k r g,bS k G3=some (r,g)→S[r]?=some (gU 190 g (f3 k))) (Oe:∀ k,bS k G3=none→f3 k=[]) (Rm:∀ k,∀ p∈f3 k,0≤p.2) (rq:∀ k,(f3 k).length<2^30) (C:List (TK×Int)) (hq:S[mq]?=some (.map 150 3 (emap ij dX C))) (Js:∀ p∈C,0≤p.2)
  (bj:∀ (O:List mU) ps cur,bG (S++[B3,.map 3 160 (emap dX mh O),.iter false mq 3 (emap ij dX C).length ps cur])):∀ (N:Nat) (ps:List Nat) (cur:Option Nat) (O:List mU) (m:Int),ps.length≤N→ps.Nodup→(∀ p∈ps,p<C.length)→OB m O→m+iq ((ps.map fun i=>C.getD i ((0,[]),0)).flatMap fun k=>l3 k.1 k.2 (f3 k.1))≤2^40 →
  (∀ (D:List (TK×Int)) (ps':List Nat) (cur':Option Nat),D.Perm (ps.map fun i=>C.getD i ((0,[]),0))→((fj 5 (fh (.mp (S.length+1)) (fj 102 fo))) fun ZZ=>K (.exit 4) ⟨ZZ,S++[B3,.map 3 160 (emap dX mh (cZ O (D.flatMap fun k=>l3 k.1 k.2 (f3 k.1)))),.iter false mq 3 (emap ij dX C).length ps' cur']⟩)) →
  fp S.length prog CS K (N+1) ⟨(.ptr x 0::uu 2 (.ptr S.length 0::uu 1 (.mp (S.length+1)::uu 54 (.it (S.length+2)::uu 47 [])))),S++[B3,.map 3 160 (emap dX mh O),.iter false mq 3 (emap ij dX C).length ps cur]⟩:=by
 have pK:=(ab.1 hx).1;have Jg:∀ l,(S++l)[x]?=some (.box 170 [.mp m1,.mp m2,.mp m3]):=fun l=>by rw[ah pK];exact hx
 have h3l:=(ab.1 h3).1;have h32:∀ l,(S++l)[m3]?=some (.map 150 185 (emap ij nK G3)):=fun l=>by rw[ah h3l];exact h3
 have abE:=(ab.1 hq).1;have N4:∀ l,(S++l)[mq]?=some (.map 150 3 (emap ij dX C)):=fun l=>by rw[ah abE];exact hq
 intro N
 induction N with
 | zero =>
  intro ps cur O m hl nz hp hO hm h1;have lq:ps=[]:=aG (by omega);subst lq;refine aB fun R hR=>?_;simp only[CS,N4,VV,seval];exact h1 [] _ _ (.refl _) ..
 | succ N ih =>
  intro ps cur O m hl nz hp hO hm h1;refine aB fun R hR=>?_;simp only[CS,N4,VV,seval];refine⟨fun lq=>?_,fun q hq=>?_⟩
  ·subst lq;exact h1 [] _ _ (.refl _) ..
  ·have BE:=hp q hq;have eA:=uc (ke:=ij) (ve:=dX) C ((0,[]),0) BE;have UG:=nC nz hq;have agl:=mH hq;have tT:=tW (d:=(((0,[]),0):TK×Int)) BE;generalize ZW:C.getD q ((0,[]),0)=kc at eA tT;have PH:=UG.map fun i=>C.getD i ((0,[]),0);simp only[ay,ZW]at PH;rw[pZ _ PH,dD,od]at hm;obtain⟨k,c⟩:=kc;have zb:=Js _ tT;simp only at hm zb;have PI:=xD (k:=k) zb (Rm k);have hOa:=hO.apply _ PI
   have ih':=ih (ps.filter fun i=>i != q) (some q) _ _ (by omega) (nz.filter _) (fun p h=>hp p (cW.1 h).1) hOa (by omega) (fun D ps' cur' hD=>by
    have h:=h1 ((k,c)::D) ps' cur' ((hD.cons _).trans PH.symm);rw[dD,H2]at h;exact h)
   have S0:0≤iq (((ps.filter fun i=>i != q).map fun i=>C.getD i ((0,[]),0)).flatMap fun k=>l3 k.1 k.2 (f3 k.1)):=re fun i hi=>by
    obtain⟨y,hy,hi⟩:=ir.1 hi;obtain⟨j,hj,rfl⟩:=bH.1 hy;exact xD (Js _ (tW (hp j (cW.1 hj).1))) (Rm _) i hi
   have nQ:=bj (cZ O (l3 k c (f3 k))) (ps.filter fun i=>i != q) (some q);simp only[eA,dX,ij,VV,seval];rcases iB (ve:=nK) xU G3 k with⟨g1,g2,g3⟩ | ⟨i,b,g1,g2,g3⟩
   ·simp only[ij]at g2 g3;simp only[Jg,h32,cN,g2,aD,cX,V.iL,V.cell,VV,seval];have hf:=Oe _ g1;rw[hf]at ih' nQ;simp only[l3,bo,cZ,DF]at ih' nQ;refine b6.vP 1 (aB fun R' hR'=>?_);simp only[uR,rM,aF,false_implies,gk,VV,seval];exact hR _ (b5 [_,_,_] [_] nQ (by repeat' constructor) (by simp[LW];omega) ih')
   ·simp only[ij]at g2 g3;obtain⟨r,g0⟩:=b;have hr:=cq _ _ _ g1;have s6:∀ l,(S++l)[r]?=some (gU 190 g0 (f3 k)):=fun l=>by rw[ah (ab.1 hr).1];exact hr
    simp only[gU]at s6;simp only[nK]at g2 g3;simp only[Jg,h32,cN,g2,s6,aD,ag,cX,V.iL,V.cell,VV,seval];refine b6.aZ (fr':=(.ptr x 0::uu 2 (.ptr S.length 0::uu 1 (.mp (S.length+1)::uu 5 (.ptr (S.length+3) 0::.i .i64 c::uu 47 (.it (S.length+2)::uu 10 (.own r g0::.i .i64 (f3 k).length::.i .i64 ([]:List (Int×Int)).length::uu 34 []))))))) (by repeat' constructor) ((f3 k).length+1) (KW x pK B3 _ k c zb r g0 (f3 k) (Rm _) (rq _) hr ?_ (f3 k) [] O m rfl hO (by omega) ?_)
    ·intro O';have h:=cj (bj O' (ps.filter fun i=>i != q) (some q)) (l:=[.box 150 [.i .i64 k.1,.s k.2,.i .i64 0]]) (by simp[LW]);simpa using h
    ·simp only[JE];intros;simp only[VV,seval];refine hR _ (b5 [_,_,_] [_] nQ (by repeat' constructor) (by simp[LW];omega) ih')
end Go.Proofs.Tryz
set_option maxRecDepth 4000
set_option maxHeartbeats 1000000
namespace Go.Proofs.Tryz
open Go Go.Pm Go.Bt
def oz(f2:GK→List (Int×Int))(gs:List Gr):List mU:=gs.flatMap fun g=>iU g.2 (f2 g.1)
def oA(f3:TK→List (Int×Int))(D:List (TK×Int)):List mU:=D.flatMap fun k=>l3 k.1 k.2 (f3 k.1)
theorem x9(n:Nat)(O:List mU):eI n ((emap dX mh O).map (·.2)):=mO fun y hy=>by
 obtain⟨e,he,rfl⟩:=bH.1 hy;simp[mh,Bf,LW]
theorem J7{S:ae}(x m1 m2 m3 mq:Nat)(hx:S[x]?=some (.box 170 [.mp m1,.mp m2,.mp m3]))(G2:List (GK×(Nat×Nat)))(f2:GK→List (Int×Int))(h2:S[m2]?=some (.map 184 185 (emap oC nK G2)))
  (N2:∀ k r g,bS k G2=some (r,g)→S[r]?=some (gU 190 g (f2 k))) (Hv:∀ k,bS k G2=none→f2 k=[]) (Fu:∀ k,∀ p∈f2 k,0≤p.2) (UQ:∀ k,(f2 k).length<2^30)
  (G3:List (TK×(Nat×Nat))) (f3:TK→List (Int×Int)) (h3:S[m3]?=some (.map 150 185 (emap ij nK G3)))
  (N1:∀ k r g,bS k G3=some (r,g)→S[r]?=some (gU 190 g (f3 k))) (Hu:∀ k,bS k G3=none→f3 k=[]) (UR:∀ k,∀ p∈f3 k,0≤p.2) (UP:∀ k,(f3 k).length<2^30)
  (l:List It) (hl:l.length<2^27) (hq:S[mq]?=some (.map 150 3 (emap ij dX (jH [] l)))) (Dh:∀ g∈cg (aP l),0≤g.2) (Js:∀ p∈jH [] l,0≤p.2)
  (hm:iq (oz f2 (cg (aP l)))+iq (oA f3 (jH [] l))≤2^40) :
  PC prog 119 [.ptr x 0,.agg (qY l mq)] S (fun r S'=>∃ D ps cur,D.Perm (jH [] l)∧r=.mp (S.length+1)∧S'=S++[.box 162 (qY l mq),.map 3 160 (emap dX mh (cZ (cZ [] (oz f2 (cg (aP l)))) (oA f3 D))),.iter false mq 3 (emap ij dX (jH [] l)).length ps cur]):=by
 refine PC.intro func119 adG fun bj dx=>ax ?_;have hmq:=(ab.1 hq).1;have VZ:=mm l;have Z1:=sL (aP l);have hb:∀ n,S.length<n→eI n (qY l mq):=fun n hn=>by simp[qY,xC,LW];omega
 have Fx:∀ O:List mU,bG (S++[.box 162 (qY l mq),.map 3 160 (emap dX mh O)]):=fun O=>cj bj (by
  intro o ho;simp only[bJ,eL,DB]at ho;rcases ho with rfl | rfl
  ·exact hb _ (by simp)
  ·exact x9 _ O)
 have Lq:∀ (O:List mU) ps cur,bG (S++[.box 162 (qY l mq),.map 3 160 (emap dX mh O),.iter false mq 3 (emap ij dX (jH [] l)).length ps cur]):=fun O ps cur=>cj bj (by
  intro o ho;simp only[bJ,eL,DB]at ho;rcases ho with rfl | rfl | rfl
  ·exact hb _ (by simp)
  ·exact x9 _ O
  ·simp only[ai,aC];omega)
 have N4:∀ l',(S++l')[mq]?=some (.map 150 3 (emap ij dX (jH [] l))):=fun l=>by rw[ah hmq];exact hq
 simp only[XX,qY,xC,SS,seval];simp only[ag,VV,seval]
 have Fq:Mb (oz f2 (cg (aP l))):=fun i hi=>by
  obtain⟨g,hg,hi⟩:=ir.1 hi;exact Jd (Dh g hg) (Fu _) i hi
 have V2:Mb (oA f3 (jH [] l)):=fun i hi=>by
  obtain⟨g,hg,hi⟩:=ir.1 hi;exact xD (Js g hg) (UR _) i hi
 have Jh:=re Fq;have hs3:=re V2;have hO:=OB.nil.apply _ Fq;refine b6.aZ (fr':=(.ptr x 0::uu 2 (.ptr S.length 0::uu 1 (.mp (S.length+1)::uu 12 (.sl 3 ((cg (aP l)).map pF)::.i .i64 (cg (aP l)).length::.i .i64 ([]:List Gr).length::uu 87 []))))) (by repeat' constructor) ((cg (aP l)).length+1) (KX x m1 m2 m3 hx (.box 162 (qY l mq)) G2 f2 h2 N2 Hv Fu UQ (cg (aP l)) Dh (by omega) Fx (cg (aP l)) [] [] 0 rfl OB.nil (by show 0+iq (oz f2 (cg (aP l)))≤2^40;omega) ?_);simp only[JE];intros;simp only[ag,qY,xC,N4,VV,seval];refine b6.aZ (fr':=(.ptr x 0::uu 2 (.ptr S.length 0::uu 1 (.mp (S.length+1)::uu 54 (.it (S.length+2)::uu 47 []))))) (by repeat' constructor) ((emap ij dX (jH [] l)).length+1) (KV x m1 m2 m3 mq hx (.box 162 (qY l mq)) G3 f3 h3 N1 Hu UR UP (jH [] l) hq Js Lq _ (List.range (emap ij dX (jH [] l)).length) none (cZ [] (oz f2 (cg (aP l)))) _ (by simp) lK (by simp[emap]) hO (by rw[oF,mz];show 0+iq (oz f2 (cg (aP l)))+iq (oA f3 (jH [] l))≤2^40;omega) ?_);intro D ps' cur' hD;rw[oF,mz]at hD;simp only[JE];intros;simp only[VV,seval];exact eP (.inr rfl) (by simp only[RS,seval];rfl) (Wk.refl _ _) rfl ⟨D,ps',cur',hD,rfl,rfl⟩
end Go.Proofs.Tryz
set_option maxRecDepth 4000
set_option maxHeartbeats 1000000
namespace Go.Proofs.Tryz
open Go Go.Pm Go.Bt
def rW(q:List It)(O:List mU)(p:Int)(e:LE):Bool:=decide (qM (gQ q) (gQ e.2.1) ((bS e.1 O).getD rP)≤kA (mx (fI q) (fI e.2.1)) p)
def JL(n:Nat)(T:ae)(ji:Nat)(D:List Int)(v:V):Prop:=(D=[]∧v=.nil)∨∃ j g,v=.own (n+j) g∧j≠ji∧T[j]?=some (.row 3 1 8 g false (D.map bR))
theorem Ul{S:ae}{n0:Nat}{K:Exit→St→Prop}(m1 y z mq:Nat)(L:List LE)(hLn:L.length<2^20)(h1:S[m1]?=some (.map 3 162 (emap dX AH L)))(q:List It)(h7:S[y]?=some (.box 162 (qY q mq)))(O:List mU)(hO:OB (2^40) O)(h8:S[z]?=some (.map 3 160 (emap dX mh O)))(p:Int)(hp : -(2^40)≤p∧p≤2^40)
  (hq:(gQ q).ok (2^40)∧0≤fI q∧fI q≤2^40) (hL:∀ e∈L,(gQ e.2.1).ok (2^40)∧0≤fI e.2.1∧fI e.2.1≤2^40) (ji:Nat):∀ (N:Nat) (ps:List Nat) (cur:Option Nat) (D:List Int) (v:V) (T:ae),ps.length≤N→ps.Nodup→(∀ p∈ps,p<L.length)→D.length+ps.length≤L.length →
  T[ji]?=some (.iter false m1 162 (emap dX AH L).length ps cur)→JL S.length T ji D v →
  (∀ (E:List LE) v' T',E.Perm (ps.map fun i=>L.getD i (0,([],0)))→JL S.length T' ji (D++(E.filter (rW q O p)).map (·.1)) v'→((fj 9 (fh (v') (fj 40 fo))) fun ZZ=>K (.exit 0) ⟨ZZ,S++T'⟩)) →
  fp n0 prog EM K (N+1) ⟨(uu 2 (.i .i64 p::uu 4 (.ptr y 0::.mp z::v::uu 11 (.it (S.length+ji)::uu 28 [])))),S++T⟩:=by
 have PN:∀ l,(S++l)[m1]?=some (.map 3 162 (emap dX AH L)):=fun l=>by rw[ah (ab.1 h1).1];exact h1
 have h72:∀ l,(S++l)[y]?=some (.box 162 (qY q mq)):=fun l=>by rw[ah (ab.1 h7).1];exact h7
 have h82:∀ l,(S++l)[z]?=some (.map 3 160 (emap dX mh O)):=fun l=>by rw[ah (ab.1 h8).1];exact h8
 intro N
 induction N with
 | zero =>
  intro ps cur D v T hl nz hb hn hi hR0 hk;have lq:ps=[]:=aG (by omega);subst lq;refine aB fun R hR=>?_;simp only[EM,PN,hi,VV,seval];exact hk [] v T (.refl _) (by simpa using hR0) ..
 | succ N ih =>
  intro ps cur D v T hl nz hb hn hi hR0 hk;have pE:=(ab.1 hi).1;have Fl:∀ o,(T.set ji o)[ji]?=some o:=fun o=>ar pE;refine aB fun R hR=>?_;simp only[EM,PN,hi,Fl,VV,seval];refine⟨fun lq=>?_,fun i hi'=>?_⟩
  ·subst lq;exact hk [] v T (.refl _) (by simpa using hR0) ..
  ·have BE:=hb i hi';have eA:=uc (ke:=dX) (ve:=AH) L (0,([],0)) BE;have UG:=nC nz hi';have rq:=mH hi';have tT:=tW (d:=((0,([],0)):LE)) BE;generalize ZW:L.getD i (0,([],0))=e at eA tT;have PH:=UG.map fun i=>L.getD i (0,([],0));simp only[ay,ZW]at PH;obtain⟨id,l,m⟩:=e;obtain⟨hs,ht⟩:=hL _ tT;have rn:=Fl (.iter false m1 162 (emap dX AH L).length (ps.filter fun j=>j != i) (some i));have Zh:(T.set ji (.iter false m1 162 (emap dX AH L).length (ps.filter fun j=>j != i) (some i))).length=T.length:=Aj
   have Jq:JL S.length (T.set ji (.iter false m1 162 (emap dX AH L).length (ps.filter fun j=>j != i) (some i))) ji D v:=by
    rcases hR0 with h | ⟨j,g,e1,e2,e3⟩
    ·exact .inl h
    ·exact .inr ⟨j,g,e1,e2,by rw[aJ (Tq e2)];exact e3⟩
   simp only[eA,dX,AH,VV,seval];generalize T.set ji (.iter false m1 162 (emap dX AH L).length (ps.filter fun j=>j != i) (some i))=T1 at rn Jq Zh ⊢;have Z3:=hO.getD id
   have xf:∀ (D':List Int) (v':V) (T':ae),D'=D++(if rW q O p (id,(l,m))then[id]else[])→T'[ji]?=some (.iter false m1 162 (emap dX AH L).length (ps.filter fun j=>j != i) (some i))→JL S.length T' ji D' v'→fp n0 prog EM K (N+1) ⟨(uu 2 (.i .i64 p::uu 4 (.ptr y 0::.mp z::v'::uu 11 (.it (S.length+ji)::uu 28 [])))),S++T'⟩:=fun D' v' T' hD' hi'' hR' =>
    ih (ps.filter fun j=>j != i) (some i) D' v' T' (by omega) (nz.filter _) (fun p h=>hb p (cW.1 h).1) (by subst hD';split<;>simp<;>omega) hi'' hR' (fun E v'' T'' hE Lr=>hk ((id,(l,m))::E) v'' T'' ((hE.cons _).trans PH.symm) (by
     subst hD';rw[eM];split at Lr
     ·rename_i hx;rw[bf hx];simpa using Lr
     ·rename_i hx;rw[aI hx];simpa using Lr))
   have hDl:D.length<2^21:=by omega
   have Ln:ji<T1.length:=by omega
   have hm:∀ a b:Int,(if a<b then b else a)=mx a b:=fun _ _=>rfl;have Ll:0≤mx (fI q) (fI l)∧mx (fI q) (fI l)≤2^40:=by simp only at ht;unfold mx;split<;>omega
   simp only at hs ht;rcases iB (ve:=mh) C9 O id with⟨g1,g2,g3⟩ | ⟨i',b,g1,g2,g3⟩
   ·simp only[dX]at g2;have Yx:(bS id O).getD rP=rP:=by rw[g1];rfl
    rw[Yx]at Z3;simp only[qY,xC,mh,Bf,h72,h82,cN,g2,VV,seval];refine⟨rfl,?_⟩;refine az (F7 (gQ q) (gQ l) rP hq.1 hs Z3 _) rfl ?_;simp only[qY,xC,h72,hm,VV,seval];refine az (zT (mx (fI q) (fI l)) p Ll hp _) rfl ?_;simp only[VV,seval];have gv:rW q O p (id,(l,m))=decide (qM (gQ q) (gQ l) rP≤kA (mx (fI q) (fI l)) p):=by simp only[rW,Yx]
    rw[← gv];refine⟨fun hd=>?_,fun hd=>?_⟩
    ·rcases Jq with⟨rfl,rfl⟩ | ⟨j,g,rfl,e2,e3⟩
     ·simp only[VV,seval];refine⟨by decide,hR _ (aZ (by repeat' constructor) (xf [id] (.own (S.length+(T1.length+1)) 0) _ (by rw[hd];rfl) (by rw[ah Ln];exact rn) (.inr ⟨T1.length+1,0,rfl,by omega,by simp[bR]⟩)))⟩
     ·have kI:=(ab.1 e3).1;have UY:∀ l,(T1++l)[j]?=some (.row 3 1 8 g false (D.map bR)):=fun l=>by rw[ah kI];exact e3
      have UX:∀ l o,(T1++l).set j o=T1.set j o++l:=fun l o=>gz _ _ kI;simp only[UY,UX,VV,seval];refine⟨⟨by simp only[ag];omega,by simp only[ag,maxLen];omega⟩,hR _ (aZ (by repeat' constructor) (xf (D++[id]) (.own (S.length+j) (g+1)) _ (by rw[hd];rfl) (by rw[ah (by simpa using Ln),aJ e2];exact rn) (.inr ⟨j,g+1,rfl,e2,by rw[ah (by simpa using kI),ar kI];simp[bR]⟩)))⟩
    ·exact hR _ (aZ (by repeat' constructor) (xf D v _ (by rw[hd];simp) (by rw[ah Ln];exact rn) (by
      rcases Jq with h | ⟨j,g,e1,e2,e3⟩
      ·exact .inl h
      ·exact .inr ⟨j,g,e1,e2,by rw[ah (ab.1 e3).1];exact e3⟩)))
   ·simp only[dX]at g2;have Yx:(bS id O).getD rP=b:=by rw[g1];rfl
    rw[Yx]at Z3;simp only[qY,xC,mh,Bf,h72,h82,cN,g2,VV,seval];refine⟨rfl,?_⟩;refine az (F7 (gQ q) (gQ l) b hq.1 hs Z3 _) rfl ?_;simp only[qY,xC,h72,hm,VV,seval];refine az (zT (mx (fI q) (fI l)) p Ll hp _) rfl ?_;simp only[VV,seval];have gv:rW q O p (id,(l,m))=decide (qM (gQ q) (gQ l) b≤kA (mx (fI q) (fI l)) p):=by simp only[rW,Yx]
    rw[← gv];refine⟨fun hd=>?_,fun hd=>?_⟩
    ·rcases Jq with⟨rfl,rfl⟩ | ⟨j,g,rfl,e2,e3⟩
     ·simp only[VV,seval];refine⟨by decide,hR _ (aZ (by repeat' constructor) (xf [id] (.own (S.length+(T1.length+1)) 0) _ (by rw[hd];rfl) (by rw[ah Ln];exact rn) (.inr ⟨T1.length+1,0,rfl,by omega,by simp[bR]⟩)))⟩
     ·have kI:=(ab.1 e3).1;have UY:∀ l,(T1++l)[j]?=some (.row 3 1 8 g false (D.map bR)):=fun l=>by rw[ah kI];exact e3
      have UX:∀ l o,(T1++l).set j o=T1.set j o++l:=fun l o=>gz _ _ kI;simp only[UY,UX,VV,seval];refine⟨⟨by simp only[ag];omega,by simp only[ag,maxLen];omega⟩,hR _ (aZ (by repeat' constructor) (xf (D++[id]) (.own (S.length+j) (g+1)) _ (by rw[hd];rfl) (by rw[ah (by simpa using Ln),aJ e2];exact rn) (.inr ⟨j,g+1,rfl,e2,by rw[ah (by simpa using kI),ar kI];simp[bR]⟩)))⟩
    ·exact hR _ (aZ (by repeat' constructor) (xf D v _ (by rw[hd];simp) (by rw[ah Ln];exact rn) (by
      rcases Jq with h | ⟨j,g,e1,e2,e3⟩
      ·exact .inl h
      ·exact .inr ⟨j,g,e1,e2,by rw[ah (ab.1 e3).1];exact e3⟩)))
end Go.Proofs.Tryz
set_option maxRecDepth 4000
set_option maxHeartbeats 1000000
namespace Go.Proofs.Tryz
open Go Go.Pm Go.Bt
theorem Ld(J:ae):PC prog 65 [] J (fun r J'=>r=.ptr (J.length+3) 0∧J'=J++[.map 3 162 [],.map 184 185 [],.map 150 185 [],Fc J.length]):=by
 refine PC.intro func65 c65 fun bj dx=>ax ?_;simp only[p65,SS,seval];simp only[VV,seval];exact eP (.inr rfl) (by simp only[RS,seval];rfl) (Wk.refl _ _) rfl ⟨rfl,rfl⟩
def PO(n:Nat)(v:V)(next:Int):Ob:=.box 105 [.ptr (n+3) 0,v,.i .i64 next]
theorem DL.nil(n:Nat):DL n [] [] [] [] :=
 ⟨iE,fun e he=>by simp at he,fun e he=>by simp at he,⟨iE,fun k r g h=>by simp[bS,dH]at h,fun k h=>rfl,fun k k' r g g' h=>by simp[bS,dH]at h⟩,
  ⟨iE,fun k r g h=>by simp[bS,dH]at h,fun k h=>rfl,fun k k' r g g' h=>by simp[bS,dH]at h⟩,fun k r g k' r' g' h=>by simp[bS,dH]at h⟩
end Go.Proofs.Tryz

/- A part of a proof; the claim's last text says of what. -/
import Derived.Test.YtlakkaamfadipaaGreatDoorL4
import Derived.Test.YtlakkaamfadipaaGreatDoorL29
import Derived.Test.YtlakkaamfadipaaGreatDoorL34
set_option linter.all false

namespace Go.Proofs.Tryz
open Go Go.Pm Go.Bt Go.Sort Go.Shelf
theorem HO{J:ae}{K:Exit→St→Prop}(ws:List (List UInt8))(bz:bG J)(hlen:ws.length<2^38):∀ (rest pre:List (List UInt8)) (C:List (GK×Int)) (last:List UInt8) (n:Nat),ws=pre++rest→CN n C→n+rest.length<2^39 →
  (∀ C' last',dn C last rest=bump C' (last',[]) 1→CN (n+rest.length) C'→((fj 3 (fh (.mp J.length) (fh (.s last') (fj 48 fo)))) fun ZZ=>K (.exit 0) ⟨ZZ,J++[.map 246 3 (emap mj dq C')]⟩)) →
  gw J.length prog Ah K (rest.length+1) ⟨(uu 3 (.mp J.length::.s last::uu 6 (.sl 1 (ws.map xU)::.i .i64 ws.length::.i .i64 pre.length::uu 39 []))),J++[.map 246 3 (emap mj dq C)]⟩:=by
 intro rest
 induction rest with
 | nil =>
  intro pre C last n he hC hn h1;have he:ws=pre:=by simpa using he
  subst he;refine aH fun R hR=>?_;simp only[Ah,VV,seval];exact⟨fun h=>by simp at h,fun _=>h1 C last rfl hC ..⟩
 | cons w rest ih =>
  intro pre C last n he hC hn h1;subst he;have hlen':pre.length+1+rest.length<2^38:=by simp at hlen;omega
  have hw:IntKind.i64.wrap ((pre.length:Int)+1)=(((pre++[w]).length:Nat):Int):=by
   rw[br (by omega)];simp
  simp only[ai]at hn;have hg:=hC.getD (last,w);have fK:∀ C,bG (J++[.map 246 3 (emap mj dq C)]):=fun C=>ck bz (by simp[jC]);have hB:=hC.bump (last,w)
  have Vw:∀ {C':List (GK×Int)},CN (n+1+rest.length) C'→CN (n+(w::rest).length) C':=fun h3=>by
   have e:n+(w::rest).length=n+1+rest.length:=by simp;omega
   rw[e];exact h3
  have ih':=ih (pre++[w]) (bump C (last,w) 1) w (n+1) (by simp) hB (by omega) (fun C' l' h2 h3=>h1 C' l' h2 (Vw h3));refine aH fun R hR=>?_;simp only[Ah,xU,VV,seval];refine⟨fun _=>⟨by simp;omega,?_⟩,fun h=>by simp at h;omega⟩;rcases o8 tf C (last,w)with⟨g1,g2,g3,g4,g5⟩ | ⟨i,b,g1,g2,g3,g4⟩
  ·have hz:IntKind.i64.wrap (0+1)=1:=by decide
   have tc:bump C (last,w) 1=ee C (last,w) 1:=by simp[bump,g1]
   rw[tc]at ih';simp only[mj]at g2 g3 g4 g5;simp only[bX,g2,g3,g4,g5,hz,cz,V.gx,V.cell,VV,seval];have QM:IntKind.i64.wrap 1=1:=by decide
   simp only[hw,QM];refine hR _ (bR [_] [_] (fK _) (by repeat' constructor) (by simp[LW]) ih')
  ·have hz:IntKind.i64.wrap (b+1)=b+1:=IntWalk.i64_in _ (by rw[g1]at hg;simp at hg;omega);have tc:bump C (last,w) 1=ee C (last,w) (b+1):=by simp[bump,g1]
   rw[tc]at ih';simp only[mj]at g2 g3 g4;simp only[bX,g2,g3,g4,hz,cz,V.gx,V.cell,VV,seval];simp only[hw];refine hR _ (bR [_] [_] (fK _) (by repeat' constructor) (by simp[LW]) ih')
theorem HN{J:ae}{K:Exit→St→Prop}(C:List (GK×Int))(k i0:Nat)(bz:bG J)(hm:C.length<2^39):∀ (N:Nat) (ps:List Nat) (cur:Option Nat) (out:List Gr) (g:Nat),ps.length≤N→ps.Nodup→(∀ p∈ps,p<C.length)→out.length≤C.length →
  (out++ps.map fun i=>C.getD i (([],[]),0)).Perm C →
  (∀ ps cur g (out':List Gr),out'.Perm C→((fj 7 (fh (.own (J.length+3) g) (fj 45 fo))) fun ZZ=>K (.exit 2) ⟨ZZ,J++[.map 246 3 (emap mj dq C),.iter true J.length 3 k [] (some i0),.iter false J.length 3 (emap mj dq C).length ps cur,.row 182 3 40 g false (out'.map ni)]⟩)) →
  gw J.length prog v7 K (N+1) ⟨(uu 7 (.own (J.length+3) g::uu 27 (.it (J.length+2)::uu 17 []))),J++[.map 246 3 (emap mj dq C),.iter true J.length 3 k [] (some i0),.iter false J.length 3 (emap mj dq C).length ps cur,.row 182 3 40 g false (out.map ni)]⟩:=by
 intro N
 induction N with
 | zero =>
  intro ps cur out g hl lM hp ho hs h1;have jV:ps=[]:=aD (by omega);subst jV;refine aH fun R hR=>?_;simp only[v7,VV,seval];exact h1 _ _ _ _ (by simpa using hs) ..
 | succ N ih =>
  intro ps cur out g hl lM hp ho hs h1;refine aH fun R hR=>?_;simp only[v7,VV,seval];refine⟨fun jV=>?_,fun q hq=>?_⟩
  ·subst jV;exact h1 _ _ _ _ (by simpa using hs) ..
  ·have u4:=hp q hq;have eJ:=pJ (ke:=mj) (ve:=dq) C (([],[]),0) u4;have Mg:=hs.length_eq;have NQ:=kX lM hq;have si:=kr hq;have EB:0<ps.length:=List.length_pos_of_mem hq;simp only[al,aj]at Mg;simp only[eJ,dq,mj,VV,seval];have e:out.map ni++[[.s (C.getD q (([],[]),0)).1.1,.s (C.getD q (([],[]),0)).1.2,.i .i64 (C.getD q (([],[]),0)).2]]=(out++[C.getD q (([],[]),0)]).map ni:=by simp[ni]
   rw[e];have fK:∀ C I o,bG (J++[.map 246 3 (emap mj dq C),.iter true J.length 3 k [] (some i0),.iter false J.length 3 (emap mj dq C).length (ps.filter fun i=>i != q) I,.row 182 3 40 (g+1) false o]):=fun C I o=>ck bz (by simp[jC]);refine⟨by simp only[aj,maxLen];omega,hR _ (bR [_,_,_,_] [_] (fK _ _ _) (by repeat' constructor) (by simp[LW]) (ih (ps.filter fun i=>i != q) (some q) (out++[C.getD q (([],[]),0)]) (g+1) (by omega) (lM.filter _) (fun p h=>hp p (cc.1 h).1) (by simp;omega) ?_ h1))⟩;refine List.Perm.trans ?_ hs;rw[aM];refine jU _ ?_;exact((NQ.map fun i=>C.getD i (([],[]),0)).symm)
theorem C0(a b:Gr)(J:ae):PC prog 223 [.agg (ni a),.agg (ni b)] J (fun r J'=>r=.i .i64 (ue a b)∧J'=J):=by
 refine PC.intro func223 Zk fun bz er=>aB ?_;simp only[Ts,SS,seval];simp only[ni,VV,seval];refine aA (A5 a.1.1 b.1.1 _) rfl ?_;simp only[VV,seval];refine aA (A5 a.1.2 b.1.2 _) rfl ?_;simp only[VV,seval];refine Ba (zs:=[.sl 1 ([eB a.1.1 b.1.1,eB a.1.2 b.1.2].map cq)]) (.cons (.lit _ _) .nil) (Qg _ _) ?_;simp only[VV,seval];exact bu bz (.inr rfl) rfl (by simp[LW]) ⟨rfl,rfl⟩
theorem Jq{α:Type}{c:α→α→Int}(h:iE c)(l:List α):SWO (ltOf fun(i j:Fin l.length)=>c l[i] l[j]):=by
 refine⟨fun x=>?_,fun x y z h1 h2=>?_,fun x y z h1 h2=>?_⟩
 ·simp only[ltOf,dx,h.self];omega
 ·simp only[ltOf,a8]at *;have k1:=h.ku l[x] l[y];have k2:=h.ku l[y] l[z];have k3:=h.ku l[x] l[z];have:=h.gt (a:=l[z]) (b:=l[y]) (d:=l[x]) (by omega) (by omega);omega
 ·simp only[ltOf,dx]at *;have:=h.trans l[x] l[y] l[z] (by omega) (by omega);omega
theorem G8(ws:List (List UInt8))(l:List Gr)(hp:l.Perm (dn [] [] ws))(hl:l.length<2^30)(id g:Nat)(J:ae)(h1:J[id]?=some (.row 182 3 40 g false (l.map ni))):
  PC prog 222 [.own id g,.fn 223 []] J (fun r J'=>r=.fa []∧J'=J.set id (.row 182 3 40 g false ((bK ws).map ni))):=by
 refine PC.mono (PC.Jy Tryz.SZ (k:=3) Tryz.isAgg182 Tryz.sizeOf182 ni (fun x=>by simp[ni]) (by omega) ue (enters_of func223 (by kernel_rfl) rfl) l (fun x hx y hy=>(C0 x y _).mono fun r J' h=>h.1) (Jq jx l) hl h1) ?_;rintro r J' ⟨l',uC,hs,rfl,rfl⟩;exact⟨rfl,by rw[yh (uC.trans hp) hs];rfl⟩
theorem MC:Ti prog 182 3 40:=nD (by kernel_rfl)
theorem K9(ws:List (List UInt8))(hlen:ws.length<2^29)(J:ae):PC prog 179 [.sl 1 (ws.map xU)] J (fun r J'=>r=.sl 3 ((bK ws).map ni)∧J'=J):=by
 refine PC.intro func179 ZG fun bz er=>aB ?_;simp only[TP,SS,seval];simp only[aj,VV,seval];refine cE.bk (fr':=(uu 3 (.mp J.length::.s []::uu 6 (.sl 1 (ws.map xU)::.i .i64 ws.length::.i .i64 ([]:List (List UInt8)).length::uu 39 [])))) (by repeat' constructor) (ws.length+1) (HO ws bz (by omega) ws [] [] [] 0 rfl CN.nil (by omega) fun C' last' hb hC=>?_);simp only[JE];intros;have hB:=hC.bump (last',[]);have hg:=hC.getD (last',[]);have fK:∀ C a b,bG (J++[.map 246 3 (emap mj dq C),.iter true J.length 3 a [] (some b)]):=fun C a b=>ck bz (by simp[jC])
 have fin:∀ (C:List (GK×Int)) (k i0:Nat),C=dn [] [] ws→CN (0+ws.length+1) C→cE J.length prog v7.loop
  (ym 2 (JF (xH J.length prog ((bE.ax [] [{ d:=some 50,g:=[],i:=I.bg (O.t 7) },{ d:=some 51,g:=[],i:=I.call 222 [O.t 50,O.c (V.fn 223 [])] }]).seq
      ((bE.ax [] [{ d:=some 52,g:=[],i:=I.bg (O.t 7) },{ d:=some 2,g:=[],i:=I.bg (O.t 52) }]).seq bE.ret))
     (sI prog J.length [Rs.t 2] fun r J'=>r=V.sl 3 (List.map ni (bK ws))∧J'=J))
    (sI prog J.length [Rs.t 2] fun r J'=>r=V.sl 3 (List.map ni (bK ws))∧J'=J)))
   ⟨(uu 7 (.nil::uu 27 (.it (J.length+2)::uu 17 []))),J++[.map 246 3 (emap mj dq C),.iter true J.length 3 k [] (some i0),.iter false J.length 3 (emap mj dq C).length (List.range (emap mj dq C).length) none]⟩:=by
  intro C k i0 hC hN;have hl:(emap mj dq C).length=C.length:=lY C;have hlC:=hN.1;refine cE.wk ((Wk.lT (P:=prog) (k:=7) [_,_,_] MC rfl).trans (Wk.kP ?_)) (cE.BX (C.length+1) (HN C k i0 bz (by omega) C.length (List.range (emap mj dq C).length) none [] 0 (by simp[hl]) lf (fun p hp=>by simpa[hl]using hp) (by simp) (by rw[hl,bh,kn]) ?_))
  ·simp only[VV,seval]
   repeat' constructor
  ·intro ps cur g out' hp;simp only[JE];intros;simp only[VV,seval];refine aA (G8 ws out' (by rw[← hC];exact hp) (by rw[hp.length_eq];omega) _ g _ (by simp only[VV,seval])) rfl ?_;simp only[VV,seval];refine sH 3 bz (.inr rfl) (by simp only[RS,seval];rfl) rfl ?_ ?_
   ·simp only[az,dj,Pm.fz,wU,oC,aR,LW]
   ·simp only[az,dj,Pm.fz,wU,oC,aR];exact⟨rfl,trivial⟩
 rcases o8 tf C' (last',[])with⟨g1,g2,g3,g4,g5⟩ | ⟨i,b,g1,g2,g3,g4⟩
 ·have hz:IntKind.i64.wrap (0+1)=1:=by decide
  have QM:IntKind.i64.wrap 1=1:=by decide
  have tc:bump C' (last',[]) 1=ee C' (last',[]) 1:=by simp[bump,g1]
  simp only[mj]at g2 g3 g4 g5;simp only[bX,g2,g3,g4,g5,hz,QM,cz,V.gx,V.cell,VV,seval];exact cE.wk (Wk.kP (by repeat' constructor)) (fin _ _ _ (by rw[hb,tc]) (tc▸hB))
 ·have hz:IntKind.i64.wrap (b+1)=b+1:=IntWalk.i64_in _ (by rw[g1]at hg;simp at hg;omega);have tc:bump C' (last',[]) 1=ee C' (last',[]) (b+1):=by simp[bump,g1]
  simp only[mj]at g2 g3 g4;simp only[bX,g2,g3,g4,hz,cz,V.gx,V.cell,VV,seval];exact cE.wk (Wk.kP (by repeat' constructor)) (fin _ _ _ (by rw[hb,tc]) (tc▸hB))
end Go.Proofs.Tryz
namespace Go.Proofs.Tryz
open Go Go.Pm Go.Bt
theorem D4(x:It)(J:ae):PC prog 225 [.agg x.aen] J (fun r J'=>r=.b (b5 x)∧J'=J):=by
 refine PC.intro func225 Zi fun bz er=>aB ?_;simp only[Tq,It.aen,SS,seval];simp only[VV,seval];exact ou bz (by simp only[RS,seval];rfl) (by simp only[LW])
theorem nL(x:It)(J:ae):PC prog 183 [.agg x.aen] J (fun r J'=>r=.b (b5 x)∧J'=J):=by
 refine PC.intro func183 ZC fun bz er=>aB ?_;simp only[TL,It.aen,SS,seval];simp only[VV,seval];exact ou bz (by simp only[RS,seval];rfl) (by simp only[LW])
theorem LJ(x:It)(J:ae):PC prog 182 [.agg x.aen] J (fun r J'=>r=.fa [.agg (bM x).1.aen,.b (bM x).2]∧J'=J):=by
 refine PC.intro func182 ZD fun bz er=>aB ?_;simp only[TM,It.aen,SS,seval];rcases IV (x.aep=6∨x.aep=7∨x.aep=8∨x.aep=9∨x.aep=5)with hk | hk
 ·have hc:bM x=(⟨x.aep,dE x,0⟩,true):=by simp only[bM,aQ hk]
  have e6:(x.aep==6)=false∨(x.aep==6)=true:=by cases(x.aep==6)<;>simp
  have e7:(x.aep==7)=false∨(x.aep==7)=true:=by cases(x.aep==7)<;>simp
  have e8:(x.aep==8)=false∨(x.aep==8)=true:=by cases(x.aep==8)<;>simp
  have e9:(x.aep==9)=false∨(x.aep==9)=true:=by cases(x.aep==9)<;>simp
  have e5:(x.aep==5)=false∨(x.aep==5)=true:=by cases(x.aep==5)<;>simp
  rcases e6 with e6 | e6<;>rcases e7 with e7 | e7<;>rcases e8 with e8 | e8<;>rcases e9 with e9 | e9<;>rcases e5 with e5 | e5<;>first | (exfalso;simp at e6 e7 e8 e9 e5;omega) | skip
  all_goals
   simp only[e6,e7,e8,e9,e5,↓IT,VV,seval];refine aA (pr x _) rfl ?_;simp only[VV,seval];exact bu bz (.inr rfl) (by simp only[RS,seval];rfl) (by simp only[LW]) ⟨by rw[hc];rfl,rfl⟩
 ·have hc:bM x=(⟨x.aep,x.aer,0⟩,b5 x):=by simp only[bM,aC hk]
  have e6:(x.aep==6)=false:=by simp;omega
  have e7:(x.aep==7)=false:=by simp;omega
  have e8:(x.aep==8)=false:=by simp;omega
  have e9:(x.aep==9)=false:=by simp;omega
  have e5:(x.aep==5)=false:=by simp;omega
  simp only[e6,e7,e8,e9,e5,↓IT,VV,seval];refine aA (D4 x _) rfl ?_;simp only[VV,seval];exact bu bz (.inr rfl) (by simp only[RS,seval];rfl) (by simp only[LW]) ⟨by rw[hc];rfl,rfl⟩
def sV(gs:List Gr)(m:Nat)(p w t total:Int):List V:=[.sl 3 (gs.map ni),.mp m,.i .i64 p,.i .i64 w,.i .i64 t,.i .i64 total]
theorem kp{J:ae}{A:Ob}(hA:bG (J++[A]))(C:List (TK×Int))(gs:List Gr)(p w t tot:Int):bG (J++[A,.map 150 3 (emap fw dq C),.box 162 (sV gs (J.length+1) p w t tot)]):=by
 have:=ck hA (l:=[.map 150 3 (emap fw dq C),.box 162 (sV gs (J.length+1) p w t tot)]) (by simp[jC,sV,LW]);simpa using this
theorem HX{J:ae}{K:Exit→St→Prop}(A:Ob)(l:List It)(gs:List Gr)(tot:Int)(hA:bG (J++[A]))(hlen:gs.length<2^30)(xN:∀ g∈gs,0≤g.2∧g.2≤2^30):∀ (rest pre:List Gr) (n:Int),gs=pre++rest→0≤n∧n≤2^30*(pre.length:Int) →
  ((fh (.sl 3 (l.map It.aen)) (fj 1 (fh (.ptr J.length 0) (fh (.ptr (J.length+2) 0) (fj 67 fo))))) fun ZZ=>K (.exit 0) ⟨ZZ,J++[A,.map 150 3 [],.box 162 (sV gs (J.length+1) (zY n rest) 0 0 tot)]⟩) →
  gw J.length prog As K (rest.length+1) ⟨(.sl 3 (l.map It.aen)::uu 1 (.ptr J.length 0::.ptr (J.length+2) 0::uu 14 (.sl 3 (gs.map ni)::.i .i64 gs.length::.i .i64 pre.length::uu 50 []))),J++[A,.map 150 3 [],.box 162 (sV gs (J.length+1) n 0 0 tot)]⟩:=by
 intro rest
 induction rest with
 | nil =>
  intro pre n he hn h1;have he:gs=pre:=by simpa using he
  subst he;refine aH fun R hR=>?_;simp only[As,VV,seval];exact⟨fun h=>by simp at h,fun _=>h1 ..⟩
 | cons g rest ih =>
  intro pre n he hn h1;subst he;have hlen':pre.length+1+rest.length<2^30:=by simp at hlen;omega
  have hg:=xN g (by simp)
  have hw:IntKind.i64.wrap ((pre.length:Int)+1)=(((pre++[g]).length:Nat):Int):=by
   rw[br (by omega)];simp
  have Bn:IntKind.i64.wrap (n+g.2)=n+g.2:=IntWalk.i64_in _ (by omega);have hb:0≤n+g.2∧n+g.2≤2^30*(((pre++[g]).length:Nat):Int):=by simp;omega
  refine aH fun R hR=>?_;simp only[As,sV,ni,VV,seval];refine⟨fun _=>⟨by simp;omega,?_⟩,fun h=>by simp at h;omega⟩;simp only[hw,Bn,VV,seval];exact hR _ (bR [_,_,_] [_] (kp hA [] (pre++g::rest) (n+g.2) 0 0 tot) (by repeat' constructor) (by simp[LW]) (ih (pre++[g]) (n+g.2) (by simp) hb (by simpa[zY]using h1)))
theorem HW{J:ae}{K:Exit→St→Prop}(A:Ob)(l:List It)(gs:List Gr)(tot p:Int)(hA:bG (J++[A]))(hlen:l.length<2^30):∀ (rest pre:List It) (C:List (TK×Int)) (w t:Int),l=pre++rest→CN pre.length C→0≤w∧w≤4*(pre.length:Int)→0≤t∧t≤(pre.length:Int) →
  ((fj 2 (fh (.ptr J.length 0) (fh (.ptr (J.length+2) 0) (fj 67 fo)))) fun ZZ=>K (.exit 2) ⟨ZZ,J++[A,.map 150 3 (emap fw dq (gV C rest)),.box 162 (sV gs (J.length+1) p (yv w rest) (yB t rest) tot)]⟩) →
  gw J.length prog Ar K (rest.length+1) ⟨(uu 2 (.ptr J.length 0::.ptr (J.length+2) 0::uu 29 (.sl 3 (l.map It.aen)::.i .i64 l.length::.i .i64 pre.length::uu 35 []))),J++[A,.map 150 3 (emap fw dq C),.box 162 (sV gs (J.length+1) p w t tot)]⟩:=by
 intro rest
 induction rest with
 | nil =>
  intro pre C w t he hC hw ht h1;have he:l=pre:=by simpa using he
  subst he;refine aH fun R hR=>?_;simp only[Ar,VV,seval];exact⟨fun h=>by simp at h,fun _=>h1 ..⟩
 | cons x rest ih =>
  intro pre C w t he hC hw ht h1;subst he;have hlen':pre.length+1+rest.length<2^30:=by simp at hlen;omega
  have Gi:IntKind.i64.wrap ((pre.length:Int)+1)=(((pre++[x]).length:Nat):Int):=by
   rw[br (by omega)];simp
  have EB:(((pre++[x]).length:Nat):Int)=(pre.length:Int)+1:=by simp
  have hxw:=lK (bM x).1;have Bn:IntKind.i64.wrap (w+weight (bM x).1)=w+weight (bM x).1:=IntWalk.i64_in _ (by omega);have Pu:IntKind.i64.wrap (t+1)=t+1:=IntWalk.i64_in _ (by omega);have hg:=hC.getD (cY (bM x).1);have hB:=hC.bump (cY (bM x).1);have hid:(bM x).1.id=0:=by unfold bM;split<;>rfl
  have QZ:(pre++[x]).length=pre.length+1:=by simp
  refine aH fun R hR=>?_;simp only[Ar,sV,It.aen,VV,seval];refine⟨fun _=>⟨by simp;omega,?_⟩,fun h=>by simp at h;omega⟩;refine aA (LJ x _) rfl ?_;simp only[Gi,It.aen,hid,VV,seval];refine⟨fun h2=>?_,fun h2=>?_⟩
  ·have h3:(bM x).2=false:=by simpa using h2
   have ih':=ih (pre++[x]) C w t (by simp) (by rw[QZ];exact⟨by have:=hC.1;omega,hC.2.1,fun k v hv=>by have:=hC.2.2 k v hv;omega⟩) (by omega) (by omega) (by simpa only[gV,yv,yB,h3,gU,aG,aO]using h1);exact hR _ (bR [_,_,_] [_,_] (kp hA _ _ _ _ _ _) (by repeat' constructor) (by simp[LW]) ih')
  ·have h3:(bM x).2=true:=by simpa using h2
   rcases o8 qo C (cY (bM x).1)with⟨g1,g2,g3,g4,g5⟩ | ⟨i,b,g1,g2,g3,g4⟩
   ·have hz:IntKind.i64.wrap (0+1)=1:=by decide
    have QM:IntKind.i64.wrap 1=1:=by decide
    have tc:bump C (cY (bM x).1) 1=ee C (cY (bM x).1) 1:=by simp[bump,g1]
    simp only[fw,cY]at g2 g3 g4 g5;simp only[bX,g2,g3,g4,g5,hz,QM,cz,V.gx,V.cell,VV,seval];refine aA (nL (bM x).1 _) (by simp only[It.aen,hid,VV,seval]) ?_;simp only[VV,seval];have VG:CN (pre++[x]).length (bump C (cY (bM x).1) 1):=by rw[QZ];exact hB
    refine⟨fun h4=>?_,fun h4=>?_⟩
    ·simp only[Gi,Pu,VV,seval];have ih':=ih (pre++[x]) (bump C (cY (bM x).1) 1) w (t+1) (by simp) VG (by omega) (by omega) (by simpa only[gV,yv,yB,h3,h4,ed,V9,gE,aG,aR,aO]using h1);rw[tc]at ih';exact hR _ (bR [_,_,_] [_,_,_] (kp hA _ gs p w (t+1) tot) (by repeat' constructor) (by simp[LW]) ih')
    ·refine aA (jv (bM x).1 _) (by simp only[It.aen,hid,VV,seval]) ?_;simp only[Gi,Bn,VV,seval];have ih':=ih (pre++[x]) (bump C (cY (bM x).1) 1) (w+weight (bM x).1) t (by simp) VG (by omega) (by omega) (by simpa only[gV,yv,yB,h3,h4,ed,oy,qS,kH,aG,aR,aO]using h1);rw[tc]at ih';exact hR _ (bR [_,_,_] [_,_,_] (kp hA _ gs p (w+weight (bM x).1) t tot) (by repeat' constructor) (by simp[LW]) ih')
   ·have hz:IntKind.i64.wrap (b+1)=b+1:=IntWalk.i64_in _ (by rw[g1]at hg;simp at hg;omega);have tc:bump C (cY (bM x).1) 1=ee C (cY (bM x).1) (b+1):=by simp[bump,g1]
    simp only[fw,cY]at g2 g3 g4;simp only[bX,g2,g3,g4,hz,cz,V.gx,V.cell,VV,seval];refine aA (nL (bM x).1 _) (by simp only[It.aen,hid,VV,seval]) ?_;simp only[VV,seval];have VG:CN (pre++[x]).length (bump C (cY (bM x).1) 1):=by rw[QZ];exact hB
    refine⟨fun h4=>?_,fun h4=>?_⟩
    ·simp only[Gi,Pu,VV,seval];have ih':=ih (pre++[x]) (bump C (cY (bM x).1) 1) w (t+1) (by simp) VG (by omega) (by omega) (by simpa only[gV,yv,yB,h3,h4,ed,V9,gE,aG,aR,aO]using h1);rw[tc]at ih';exact hR _ (bR [_,_,_] [_,_,_] (kp hA _ gs p w (t+1) tot) (by repeat' constructor) (by simp[LW]) ih')
    ·refine aA (jv (bM x).1 _) (by simp only[It.aen,hid,VV,seval]) ?_;simp only[Gi,Bn,VV,seval];have ih':=ih (pre++[x]) (bump C (cY (bM x).1) 1) (w+weight (bM x).1) t (by simp) VG (by omega) (by omega) (by simpa only[gV,yv,yB,h3,h4,ed,oy,qS,kH,aG,aR,aO]using h1);rw[tc]at ih';exact hR _ (bR [_,_,_] [_,_,_] (kp hA _ gs p (w+weight (bM x).1) t tot) (by repeat' constructor) (by simp[LW]) ih')
def oo(l:List It)(m:Nat):List V:=sV (bK (aI l)) m (gp l).dH (gp l).weight (gp l).tags (fV l)
def Qd(l:List It)(n:Nat):ae:=[.box 162 (oo l (n+1)),.map 150 3 (emap fw dq (gV [] l)),.box 162 (oo l (n+1))]
theorem yD(l:List It)(hlen:l.length<2^27)(J:ae):PC prog 118 [.sl 3 (l.map It.aen)] J (fun r J'=>r=.agg (oo l (J.length+1))∧J'=J++Qd l J.length):=by
 refine PC.intro func118 aaa fun bz er=>aB ?_;simp only[Uo,SS,seval];have UM:=kh l;have Vj:=nQ (aI l);have hgv:=wQ (aI l);simp only[VV,seval];refine aA (Jf l (by omega) _) rfl ?_;simp only[VV,seval];refine aA (K9 (aI l) (by omega) _) rfl ?_;simp only[VV,seval];refine aA (vq l (by omega) _) rfl ?_;simp only[aj,VV,seval];have hA:bG (J++[.box 162 [.nil,.cV,.i .i64 0,.i .i64 0,.i .i64 0,.i .i64 0]]):=ck bz (by simp[LW]);refine cE.bk (fr':=(.sl 3 (l.map It.aen)::uu 1 (.ptr J.length 0::.ptr (J.length+2) 0::uu 14 (.sl 3 ((bK (aI l)).map ni)::.i .i64 (bK (aI l)).length::.i .i64 ([]:List Gr).length::uu 50 [])))) (by repeat' constructor) ((bK (aI l)).length+1) (HX _ l (bK (aI l)) (fV l) hA (by omega) (fun g hg=>by have:=hgv g hg;omega) (bK (aI l)) [] 0 rfl (by simp) ?_);simp only[JE];intros;simp only[sV,aj,VV,seval];refine cE.bk (fr':=(uu 2 (.ptr J.length 0::.ptr (J.length+2) 0::uu 29 (.sl 3 (l.map It.aen)::.i .i64 l.length::.i .i64 ([]:List It).length::uu 35 [])))) (by repeat' constructor) (l.length+1) (HW _ l (bK (aI l)) (fV l) (zY 0 (bK (aI l))) hA (by omega) l [] [] 0 0 rfl CN.nil (by simp) (by simp) ?_);simp only[JE];intros;simp only[sV,VV,seval];exact fO (.inr rfl) (by simp only[RS,seval];rfl) (Wk.refl _ _) rfl ⟨rfl,rfl⟩
end Go.Proofs.Tryz
set_option maxRecDepth 4000
set_option maxHeartbeats 1000000
namespace Go.Proofs.Tryz
open Go Go.Pm Go.Bt
def qT(n:Nat):Ob:=.box 170 [.mp n,.mp (n+1),.mp (n+2)]
theorem J8{eb:Nat}{J:ae}{n0:Nat}{K:Exit→St→Prop}(M1 M3 FB:Ob)(H:List (TK×(Nat×Nat)))(f3:TK→List (Int×Int))(id:Int)(gs:List Gr)(hlen:gs.length<2^30)(j9:Nat):∀ (rest pre:List Gr) (T:ae) (G:List (GK×(Nat×Nat))) (f:GK→List (Int×Int)),gs=pre++rest→Bt.fB 190 (J.length+5) T G f→Bt.fB 190 (J.length+5) T H f3→xP G H→(∀ k,(f k).length+rest.length<2^30) →
  (∀ T' G',Bt.fB 190 (J.length+5) T' G' (ie f id rest)→Bt.fB 190 (J.length+5) T' H f3→xP G' H→jR T T'→((fh (.ptr (J.length+3) 0) (fh (.i .i64 id) (fj 7 (fh (.ptr j9 0) (fj 79 fo))))) fun ZZ=>K (.exit 0) ⟨ZZ,J++(M1::.map 184 eb (emap mj ko G')::M3::qT J.length::FB::T')⟩)) →
  gw n0 prog FP K (rest.length+1) ⟨(.ptr (J.length+3) 0::.i .i64 id::uu 7 (.ptr j9 0::uu 32 (.sl 3 (gs.map ni)::.i .i64 gs.length::.i .i64 pre.length::uu 44 []))),J++(M1::.map 184 eb (emap mj ko G)::M3::qT J.length::FB::T)⟩:=by
 intro rest
 induction rest with
 | nil =>
  intro pre T G f he hP hH hD hf h1;have he:gs=pre:=by simpa using he
  subst he;refine aH fun R hR=>?_;simp only[FP,VV,seval];exact⟨fun h=>by simp at h,fun _=>h1 T G hP hH hD (jR.refl T) ..⟩
 | cons g rest ih =>
  intro pre T G f he hP hH hD hf h1;subst he;have hlen':pre.length+1+rest.length<2^30:=by simp at hlen;omega
  have hw:IntKind.i64.wrap ((pre.length:Int)+1)=(((pre++[g]).length:Nat):Int):=by
   rw[br (by omega)];simp
  refine aH fun R hR=>?_;simp only[FP,ni,qT,VV,seval];refine⟨fun _=>⟨by simp;omega,?_⟩,fun h=>by simp at h;omega⟩;rcases nq (ve:=ko) tf G g.1 with⟨g1,g2,g3,g4,g5⟩ | ⟨i,b,g1,g2,g3,g4⟩
  ·simp only[mj]at g2 g3 g4 g5;simp only[bX,g2,g3,g4,g5,cz,V.gx,V.cell,VV,seval];have YX:(T++[Ob.box 182 [V.s g.1.1,V.s g.1.2,V.i .i64 g.2],Ob.box 184 [V.s g.1.1,V.s g.1.2],Ob.iter true (J.length+1) eb ((emap mj ko G).length+1) [] (some (emap mj ko G).length)]).length=T.length+3:=by simp
   have ik:=(hP.app [Ob.box 182 [V.s g.1.1,V.s g.1.2,V.i .i64 g.2],Ob.box 184 [V.s g.1.1,V.s g.1.2],Ob.iter true (J.length+1) eb ((emap mj ko G).length+1) [] (some (emap mj ko G).length)]).new g1 (id,g.2);rw[YX]at ik;have hv:V.own (J.length+(T.length+3+1+1+1+1+1)) 0=ko (J.length+5+(T.length+3),0):=by simp only[ko];congr 1;omega
   simp only[hv,g5,hw];have k:=ih (pre++[g]) _ _ _ (by simp) ik ((hH.app _).app _) (hD.new hH _ _ (by omega)) (fun k=>by have:=hf k;simp only[nX,ai]at *;split<;>simp<;>omega) (fun T' G' hp hh hd hg=>h1 T' G' hp hh hd ((jR.app _ _).trans ((jR.app _ _).trans hg)));simp only[fM,oA,aM,bq,bh,az,dj,qT]at k;exact⟨by decide,hR _ (bk (by repeat' constructor) k)⟩
  ·simp only[mj]at g2 g3 g4;obtain⟨r,g0⟩:=b;obtain⟨j,rfl,hj⟩:=hP.row _ _ _ g1;have jr:=(ab.1 hj).1;have ej:J.length+5+j=J.length+(j+5):=by omega
   have K6:∀ l,(T++l)[j]?=some (.row 190 2 16 g0 false ((f g.1).map oA)):=fun l=>by rw[ag jr];exact hj
   have K5:∀ l o,(T++l).set j o=T.set j o++l:=fun l o=>dD _ _ jr;have Mk:∀ o l k,(T.set j o++l)[T.length+k]?=l[k]?:=fun o l k=>by rw[aw (by simp)];simp
   have si:=hf g.1;simp only[ko,ej]at g2 g3;simp only[bX,g2,g3,g4,K6,K5,Mk,cz,V.gx,V.cell,VV,seval];have N3:=(hP.add g1 (id,g.2)).app [Ob.box 182 [V.s g.1.1,V.s g.1.2,V.i .i64 g.2],Ob.box 184 [V.s g.1.1,V.s g.1.2],Ob.iter true (J.length+1) eb (emap mj ko G).length [] (some i)];have N5:=(hH.other (fM 190 (g0+1) (f g.1++[(id,g.2)])) (fun k r g' hk=>fun e=>hD _ _ _ _ _ _ g1 hk e.symm)).app [Ob.box 182 [V.s g.1.1,V.s g.1.2,V.i .i64 g.2],Ob.box 184 [V.s g.1.1,V.s g.1.2],Ob.iter true (J.length+1) eb (emap mj ko G).length [] (some i)];have hv:V.own (J.length+(j+5)) (g0+1)=ko (J.length+5+j,g0+1):=by simp only[ko];congr 1;omega
   have hr:(f g.1).map oA++[[V.i .i64 id,V.i .i64 g.2]]=(f g.1++[(id,g.2)]).map oA:=by simp[oA]
   simp only[hv,g4,hr,hw];have k:=ih (pre++[g]) _ _ _ (by simp) N3 N5 (hD.add g1 _) (fun k=>by have:=hf k;simp only[nX,ai]at *;split<;>simp<;>omega) (fun T' G' hp hh hd hg=>h1 T' G' hp hh hd (((jR.setRow hj _).trans (jR.app _ _)).trans hg));simp only[fM,aM,bq,bh,qT]at k;exact⟨by simp only[aj,maxLen,ai]at *;omega,hR _ (bk (by repeat' constructor) k)⟩
end Go.Proofs.Tryz
set_option maxRecDepth 4000
set_option maxHeartbeats 1000000
namespace Go.Proofs.Tryz
open Go Go.Pm Go.Bt
theorem J7{mc:Nat}{J:ae}{n0:Nat}{K:Exit→St→Prop}(M1 M2 FB:Ob)(H:List (GK×(Nat×Nat)))(f3:GK→List (Int×Int))(id:Int)(C:List (TK×Int))(hK:gH C)(hC:C.length<2^29)(jc ji:Nat)(f0:TK→List (Int×Int))(Gn:∀ k,(f0 k).length<2^29):∀ (N:Nat) (ps:List Nat) (cur:Option Nat) (D:List (TK×Int)) (T:ae) (G:List (TK×(Nat×Nat))),ps.length≤N→ps.Nodup→(∀ p∈ps,p<C.length)→(D++ps.map fun i=>C.getD i ((0,[]),0)).Perm C →
  Bt.fB 190 (J.length+5) T G (ie f0 id D)→Bt.fB 190 (J.length+5) T H f3→xP G H→T[jc]?=some (.map 150 3 (emap fw dq C))→T[ji]?=some (.iter false (J.length+5+jc) 3 (emap fw dq C).length ps cur) →
  (∀ T' G' D',D'.Perm C→Bt.fB 190 (J.length+5) T' G' (ie f0 id D')→Bt.fB 190 (J.length+5) T' H f3→xP G' H→jR T T'→((fh (.ptr (J.length+3) 0) (fj 88 fo)) fun ZZ=>K (.exit 2) ⟨ZZ,J++(M1::M2::.map 150 mc (emap fw ko G')::qT J.length::FB::T')⟩)) →
  gw n0 prog FO K (N+1) ⟨(.ptr (J.length+3) 0::.i .i64 id::uu 68 (.it (J.length+(ji+5))::uu 18 [])),J++(M1::M2::.map 150 mc (emap fw ko G)::qT J.length::FB::T)⟩:=by
 intro N
 induction N with
 | zero =>
  intro ps cur D T G hl lM hp hs hP hH hD hc hi h1;have jV:ps=[]:=aD (by omega);subst jV;have ec:J.length+5+jc=J.length+(jc+5):=by omega
  rw[ec]at hi;refine aH fun R hR=>?_;simp only[FO,qT,hc,hi,VV,seval];exact h1 _ _ D (by simpa using hs) hP hH hD (jR.refl T) ..
 | succ N ih =>
  intro ps cur D T G hl lM hp hs hP hH hD hc hi h1;have ec:J.length+5+jc=J.length+(jc+5):=by omega
  rw[ec]at hi;have nz:=(ab.1 hi).1;have gr:ji≠jc:=fun e=>by subst e;rw[hc]at hi;simp at hi
  have yf:∀ o,(T.set ji o)[ji]?=some o:=fun o=>ak nz;have DF:∀ o,(T.set ji o)[jc]?=some (.map 150 3 (emap fw dq C)):=fun o=>by rw[ay gr];exact hc
  refine aH fun R hR=>?_;simp only[FO,qT,hc,hi,yf,DF,VV,seval];refine⟨fun jV=>?_,fun q hq=>?_⟩
  ·subst jV;exact h1 _ _ D (by simpa using hs) hP hH hD (jR.refl T) ..
  ·have u4:=hp q hq;have eJ:=pJ (ke:=fw) (ve:=dq) C ((0,[]),0) u4;have NQ:=kX lM hq;have si:=kr hq
   have nrow:∀ {α:Type} [DecidableEq α] {G:List (α×(Nat×Nat))} {f:α→List (Int×Int)},Bt.fB 190 (J.length+5) T G f→∀ k r g,bo k G=some (r,g)→r≠J.length+5+ji:=fun h k r g hk e=>by
    obtain⟨j,e1,e2⟩:=h.row k r g hk;have:j=ji:=by omega
    subst this;rw[hi]at e2;simp[fM]at e2
   have VE:=fun o=>hP.other o (nrow hP);have VF:=fun o=>hH.other o (nrow hH);have xN:=fun o=>jR.set hi rfl o
   have qb:((D++[C.getD q ((0,[]),0)])++(ps.filter fun i=>i != q).map fun i=>C.getD i ((0,[]),0)).Perm C:=by
    refine List.Perm.trans ?_ hs;rw[aM];refine jU _ ?_;exact((NQ.map fun i=>C.getD i ((0,[]),0)).symm)
   have hdl:D.length<2^29:=by have:=hs.length_eq;simp at this;omega
   generalize Vd:C.getD q ((0,[]),0)=kc at eJ qb;obtain⟨k,c⟩:=kc;have N3:nX (ie f0 id D) k (id,c)=ie f0 id (D++[(k,c)]):=(Fh f0 id D (k,c)).symm;have Vm:∀ k,(ie f0 id D k).length+1<2^30:=fun k=>by have:=zA id k D f0;have:=Gn k;omega
   simp only[eJ,dq,fw,VV,seval];have nN:=yf (.iter false (J.length+(jc+5)) 3 (emap fw dq C).length (ps.filter fun i=>i != q) (some q));have Pw:=DF (.iter false (J.length+(jc+5)) 3 (emap fw dq C).length (ps.filter fun i=>i != q) (some q));have N4:=VE (.iter false (J.length+(jc+5)) 3 (emap fw dq C).length (ps.filter fun i=>i != q) (some q));have Re:=VF (.iter false (J.length+(jc+5)) 3 (emap fw dq C).length (ps.filter fun i=>i != q) (some q));have Q2:=xN (.iter false (J.length+(jc+5)) 3 (emap fw dq C).length (ps.filter fun i=>i != q) (some q));generalize T.set ji (.iter false (J.length+(jc+5)) 3 (emap fw dq C).length (ps.filter fun i=>i != q) (some q))=T1 at nN Pw N4 Re Q2 ⊢;clear yf DF VE VF xN hi hc hP hH nrow;rcases nq (ve:=ko) qo G k with⟨g1,g2,g3,g4,g5⟩ | ⟨i,b,g1,g2,g3,g4⟩
   ·simp only[fw]at g2 g3 g4 g5;simp only[bX,g2,g3,g4,g5,cz,V.gx,V.cell,VV,seval];have YX:(T1++[Ob.box 150 [V.i .i64 k.1,V.s k.2,V.i .i64 0],Ob.iter true (J.length+2) mc ((emap fw ko G).length+1) [] (some (emap fw ko G).length)]).length=T1.length+2:=by simp
    have ik:=(N4.app [Ob.box 150 [V.i .i64 k.1,V.s k.2,V.i .i64 0],Ob.iter true (J.length+2) mc ((emap fw ko G).length+1) [] (some (emap fw ko G).length)]).new g1 (id,c);rw[YX,N3]at ik;have hv:V.own (J.length+(T1.length+2+1+1+1+1+1)) 0=ko (J.length+5+(T1.length+2),0):=by simp only[ko];congr 1;omega
    simp only[hv,g5]
    have kk:=ih (ps.filter fun i=>i != q) (some q) (D++[(k,c)]) _ _ (by omega) (lM.filter _) (fun p h=>hp p (cc.1 h).1) qb ik ((Re.app _).app _) (hD.new Re _ _ (by omega)) (((jR.app _ _).trans (jR.app _ _)).2 _ _ Pw rfl) (by rw[ec,aM,ag (ab.1 nN).1];exact nN)
     (fun T' G' D' hp hq hh hd hg=>h1 T' G' D' hp hq hh hd (Q2.trans (((jR.app _ _).trans (jR.app _ _)).trans hg)))
    simp only[fM,oA,aM,bq,bh,az,dj,qT]at kk;exact⟨by decide,hR _ (bk (by repeat' constructor) kk)⟩
   ·obtain⟨r,g0⟩:=b;obtain⟨j,rfl,hj⟩:=N4.row _ _ _ g1;have jr:=(ab.1 hj).1;have ej:J.length+5+j=J.length+(j+5):=by omega
    have K6:∀ l,(T1++l)[j]?=some (.row 190 2 16 g0 false ((ie f0 id D k).map oA)):=fun l=>by rw[ag jr];exact hj
    have K5:∀ l o,(T1++l).set j o=T1.set j o++l:=fun l o=>dD _ _ jr;have Mk:∀ o l k,(T1.set j o++l)[T1.length+k]?=l[k]?:=fun o l k=>by rw[aw (by simp)];simp
    have si:=Vm k;simp only[ko,fw,ej]at g2 g3;simp only[fw]at g4;simp only[bX,g2,g3,g4,K6,K5,Mk,cz,V.gx,V.cell,VV,seval];have PK:=(N4.add g1 (id,c)).app [Ob.box 150 [V.i .i64 k.1,V.s k.2,V.i .i64 0],Ob.iter true (J.length+2) mc (emap fw ko G).length [] (some i)];rw[N3]at PK;have N5:=(Re.other (fM 190 (g0+1) (ie f0 id D k++[(id,c)])) (fun k r g' hk=>fun e=>hD _ _ _ _ _ _ g1 hk e.symm)).app [Ob.box 150 [V.i .i64 k.1,V.s k.2,V.i .i64 0],Ob.iter true (J.length+2) mc (emap fw ko G).length [] (some i)];have hv:V.own (J.length+(j+5)) (g0+1)=ko (J.length+5+j,g0+1):=by simp only[ko];congr 1;omega
    have hr:(ie f0 id D k).map oA++[[V.i .i64 id,V.i .i64 c]]=(ie f0 id D k++[(id,c)]).map oA:=by simp[oA]
    simp only[hv,g4,hr];have CW:jR T1 (T1.set j (fM 190 (g0+1) (ie f0 id D k++[(id,c)]))++[Ob.box 150 [V.i .i64 k.1,V.s k.2,V.i .i64 0],Ob.iter true (J.length+2) mc (emap fw ko G).length [] (some i)]):=(jR.setRow hj _).trans (jR.app _ _);have Yg:j≠ji:=fun e=>by subst e;rw[nN]at hj;simp[fM]at hj
    have kk:=ih (ps.filter fun i=>i != q) (some q) (D++[(k,c)]) _ _ (by omega) (lM.filter _) (fun p h=>hp p (cc.1 h).1) qb PK N5 (hD.add g1 _) (CW.2 _ _ Pw rfl) (by rw[ec,ag (by rw[cJ];exact(ab.1 nN).1),ay Yg];exact nN)
     (fun T' G' D' hp hq hh hd hg=>h1 T' G' D' hp hq hh hd (Q2.trans (CW.trans hg)))
    simp only[fM,aM,bq,bh,qT]at kk;exact⟨by simp only[aj,maxLen];omega,hR _ (bk (by repeat' constructor) kk)⟩
end Go.Proofs.Tryz
set_option maxRecDepth 4000
set_option maxHeartbeats 1000000
namespace Go.Proofs.Tryz
open Go Go.Pm Go.Bt
abbrev LE:=Int×(List It×Nat)
def wv(e:List It×Nat):V:=.agg (oo e.1 e.2)
def xb(L:List LE)(k:GK):List (Int×Int):=L.filterMap fun e=>(bo k (dn [] [] (aI e.2.1))).map fun c=>(e.1,c)
def uI(L:List LE)(k:TK):List (Int×Int):=L.filterMap fun e=>(bo k (gV [] e.2.1)).map fun c=>(e.1,c)
structure yo (n:Nat) (T:ae) (L:List LE) (G2:List (GK×(Nat×Nat))) (G3:List (TK×(Nat×Nat))):Prop where
 keys:(L.map (·.1)).Nodup
 aew:∀ e∈L,e.2.1.length<2^27
 cls:∀ e∈L,∃ j,e.2.2=n+5+j∧T[j]?=some (.map 150 3 (emap fw dq (gV [] e.2.1)))
 p2:Bt.fB 190 (n+5) T G2 (xb L)
 p3:Bt.fB 190 (n+5) T G3 (uI L)
 Y4:xP G2 G3
def mg(E:Nat×Nat×Nat)(J:ae)(L:List LE)(G2:List (GK×(Nat×Nat)))(G3:List (TK×(Nat×Nat)))(FB:Ob)(T:ae):ae :=
 J++(.map 3 E.1 (emap dq wv L)::.map 184 E.2.1 (emap mj ko G2)::.map 150 E.2.2 (emap fw ko G3)::qT J.length::FB::T)
theorem wA(a b:Int):bI 0 (dq a) (dq b)=some (decide (a=b)):=Eu a b
theorem Lv(L:List LE)(id:Int)(l:List It)(m:Nat):ie (xb L) id (bK (aI l))=xb (L++[(id,(l,m))]):=by
 funext k;have hK:=(fS (aI l) [] [] 0 CN.nil).2.1;have hp:=fc (aI l);have Ra:gH (bK (aI l)):=(hp.map _).nodup_iff.2 hK;rw[xA id k _ _ Ra,nj hK hp];simp only[xb,List.filterMap_append,lp,List.filterMap_nil];cases bo k (dn [] [] (aI l))<;>simp
theorem Ls(L:List LE)(id:Int)(l:List It)(m:Nat){D:List (TK×Int)}(hp:D.Perm (gV [] l)):ie (uI L) id D=uI (L++[(id,(l,m))]):=by
 funext k;have hK:=(qF l [] 0 CN.nil).2.1;have Ra:gH D:=(hp.map _).nodup_iff.2 hK;rw[xA id k _ _ Ra,nj hK hp];simp only[uI,List.filterMap_append,lp,List.filterMap_nil];cases bo k (gV [] l)<;>simp
theorem yo.snoc{n:Nat}{T T':ae}{L:List LE}{G2 G2':List (GK×(Nat×Nat))}{G3 G3':List (TK×(Nat×Nat))}(h:yo n T L G2 G3)(hg:jR T T'){id:Int}(hid:bo id L=none){l:List It}(hl:l.length<2^27){j:Nat}
  (hc:T'[j]?=some (.map 150 3 (emap fw dq (gV [] l)))) {D:List (TK×Int)} (hD:D.Perm (gV [] l)) (p2:Bt.fB 190 (n+5) T' G2' (ie (xb L) id (bK (aI l)))) (p3:Bt.fB 190 (n+5) T' G3' (ie (uI L) id D)) (hd:xP G2' G3') :
  yo n T' (L++[(id,(l,n+5+j))]) G2' G3':=by
 refine⟨?_,fun e he=>?_,fun e he=>?_,?_,?_,hd⟩
 ·rw[cQ,fu];refine⟨h.keys,by simp,fun x hx y hy e=>?_⟩;simp only[az,dj,cR]at hy;subst hy;subst e;have:=(fE x L).1 hx;rw[hid]at this;cases this
 ·rcases bQ.1 he with h1 | h1
  ·exact h.aew e h1
  ·simp only[cR]at h1;subst h1;exact hl
 ·rcases bQ.1 he with h1 | h1
  ·obtain⟨i,e1,e2⟩:=h.cls e h1;exact⟨i,e1,hg.2 _ _ e2 rfl⟩
  ·simp only[cR]at h1;subst h1;exact⟨j,rfl,hc⟩
 ·rw[← Lv];exact p2
 ·rw[← Ls L id l _ hD];exact p3
theorem ze{E:Nat×Nat×Nat}(FB:Ob)(T:ae)(L:List LE)(G2:List (GK×(Nat×Nat)))(G3:List (TK×(Nat×Nat)))(J:ae)(hI:yo J.length T L G2 G3)(id:Int)(hid:bo id L=none)(hL:L.length<1024)(l:List It)(hl:l.length<2^27):
  PC prog 72 [.ptr (J.length+3) 0,.i .i64 id,.sl 3 (l.map It.aen)] (mg E J L G2 G3 FB T) (fun r S'=>r=.b true∧∃ T' m G2' G3',S'=mg E J (L++[(id,(l,m))]) G2' G3' FB T'∧yo J.length T' (L++[(id,(l,m))]) G2' G3'∧jR T T'):=by
 refine PC.intro func72 c72 fun bz er=>aB ?_;simp only[p72,SS,seval];rcases nq (ve:=wv) wA L id with⟨g1,g2,g3,g4,g5⟩ | ⟨i,b,g1,g2,g3,g4⟩
 ·simp only[dq]at g2 g3 g4 g5;have hlen:(emap dq wv L).length=L.length:=by simp[emap]
  have hd:decide ((1024:Int)≤(L.length:Int))=false:=by simp;omega
  simp only[mg,qT,bX,g2,hlen,hd,VV,seval];refine⟨rfl,?_⟩;refine aA (yD l hl _) rfl ?_;simp only[Qd,oo,sV,bX,g2,cz,V.gx,V.cell,VV,seval];refine⟨rfl,?_⟩;have e7:J.length+(T.length+1+1+1+1+1+1)+1=J.length+(T.length+2+5):=by omega
  have e9:J.length+(T.length+4+1+1+1+1+1)=J.length+(T.length+4+5):=by omega
  simp only[e7,e9,aj];have UM:=kh l;have Vj:=nQ (aI l);have WJ:=qF l [] 0 CN.nil;generalize I6:T++[_,_,_,_,_]=T1;have Q9:T1.length=T.length+5:=by rw[← I6];simp
  have uC:Bt.fB 190 (J.length+5) T1 G2 (xb L):=by rw[← I6];exact hI.p2.app _
  have Ye:Bt.fB 190 (J.length+5) T1 G3 (uI L):=by rw[← I6];exact hI.p3.app _
  have CW:jR T T1:=by rw[← I6];exact jR.app _ _
  have Sx:T1[T.length+2]?=some (.map 150 3 (emap fw dq (gV [] l))):=by rw[← I6];simp
  have Br:T1[T.length+4]?=some (.box 162 (oo l (J.length+(T.length+2+5)))):=by rw[← I6];simp[oo,sV]
  have AS:∀ k,(xb L k).length+(bK (aI l)).length<2^30:=fun k=>by
   have:(xb L k).length≤L.length:=eN _ _;omega
  have NX:∀ k,(uI L k).length<2^29:=fun k=>by
   have:(uI L k).length≤L.length:=eN _ _;omega
  refine cE.bk (fr':=(.ptr (J.length+3) 0::.i .i64 id::uu 7 (.ptr (J.length+(T.length+4+5)) 0::uu 32 (.sl 3 ((bK (aI l)).map ni)::.i .i64 (bK (aI l)).length::.i .i64 ([]:List Gr).length::uu 44 [])))) (by repeat' constructor) ((bK (aI l)).length+1) (J8 _ _ FB G3 (uI L) id (bK (aI l)) (by omega) (J.length+(T.length+4+5)) (bK (aI l)) [] T1 G2 (xb L) rfl uC Ye hI.Y4 AS ?_);intro T2 G2' CL Yb Sw DK;simp only[JE];intros;have DL:=DK.2 _ _ Sx rfl;have iX:=DK.2 _ _ Br rfl;simp only[oo,sV]at iX;simp only[qT,iX,DL,VV,seval];have ej:J.length+5+(T.length+2)=J.length+(T.length+2+5):=by omega
  have Q0:(emap fw dq (gV [] l)).length=(gV [] l).length:=lY _;refine cE.bk (fr':=(.ptr (J.length+3) 0::.i .i64 id::uu 68 (.it (J.length+(T2.length+5))::uu 18 []))) (by repeat' constructor) ((gV [] l).length+1) (J7 _ _ FB G2' _ id (gV [] l) WJ.2.1 (by have:=WJ.1;omega) (T.length+2) T2.length (uI L) NX (gV [] l).length (List.range (emap fw dq (gV [] l)).length) none [] (T2++[_]) G3 (by simp[Q0]) lf (fun p hp=>by simpa[Q0]using hp) (by rw[Q0,bh,kn]) (Yb.app _) (CL.app _) Sw.symm ((jR.app _ _).2 _ _ DL rfl) (by rw[ej];simp) ?_);intro T3 G3' D' hD X6 ox YG Vk;simp only[JE];intros;simp only[VV,seval];refine fO (.inr rfl) rfl (Wk.refl _ _) rfl ⟨rfl,T3,J.length+5+(T.length+2),G2',G3',?_,?_,?_⟩
  ·have:emap dq wv (L++[(id,(l,J.length+5+(T.length+2)))])=emap dq wv L++[(V.i .i64 id,V.agg (oo l (J.length+(T.length+2+5))))]:=by rw[← ej];simp[emap,dq,wv]
   rw[this];rfl
  ·exact hI.snoc (CW.trans (DK.trans ((jR.app _ _).trans Vk))) hid hl (Vk.2 _ _ ((jR.app _ _).2 _ _ DL rfl) rfl) hD ox X6 YG.symm
  ·exact CW.trans (DK.trans ((jR.app _ _).trans Vk))
 ·rw[hid]at g1;cases g1
theorem Dr(a b c:Sm)(ha:a.ok (2^40))(hb:b.ok (2^40))(hc:c.ok (2^40))(J:ae):PC prog 120 [.agg (yJ a),.agg (yJ b),.agg (yJ c)] J (fun r J'=>r=.i .i64 (pe a b c)∧J'=J):=by
 refine PC.intro func120 Fb fun bz er=>aB ?_;obtain⟨a1,a2,a3⟩:=ha;obtain⟨b1,b2,b3⟩:=hb;obtain⟨c1,c2,c3⟩:=hc;simp only[Um,yJ,SS,seval];have m1:∀ x y:Int,(if x<y then y else x)=mx x y:=fun _ _=>rfl;have hmw:0≤mx a.weight b.weight∧mx a.weight b.weight≤2^40:=by unfold mx;split<;>omega
 have hmp:0≤mx a.dH b.dH∧mx a.dH b.dH≤2^40:=by unfold mx;split<;>omega
 have w1:IntKind.i64.wrap (mx a.weight b.weight - c.weight)=mx a.weight b.weight - c.weight:=IntWalk.i64_in _ (by omega);have w2:IntKind.i64.wrap (a.tags+b.tags)=a.tags+b.tags:=IntWalk.i64_in _ (by omega);have w3:IntKind.i64.wrap (2*c.tags)=2*c.tags:=IntWalk.i64_in _ (by omega);have w4:IntKind.i64.wrap (a.tags+b.tags - 2*c.tags)=a.tags+b.tags - 2*c.tags:=IntWalk.i64_in _ (by omega);have w5:IntKind.i64.wrap (3*(a.tags+b.tags - 2*c.tags))=3*(a.tags+b.tags - 2*c.tags):=IntWalk.i64_in _ (by omega);have w6:IntKind.i64.wrap (mx a.weight b.weight - c.weight+3*(a.tags+b.tags - 2*c.tags))=mx a.weight b.weight - c.weight+3*(a.tags+b.tags - 2*c.tags):=IntWalk.i64_in _ (by omega);have w7:IntKind.i64.wrap (mx a.dH b.dH - c.dH)=mx a.dH b.dH - c.dH:=IntWalk.i64_in _ (by omega);have w8:IntKind.i64.wrap (mx a.dH b.dH - c.dH+1)=mx a.dH b.dH - c.dH+1:=IntWalk.i64_in _ (by omega);have hq:=FA (mx a.dH b.dH - c.dH+1) (2^41) 2 (by omega) (by omega);have w9:IntKind.i64.wrap ((mx a.dH b.dH - c.dH+1).tdiv 2)=(mx a.dH b.dH - c.dH+1).tdiv 2:=IntWalk.i64_in _ (by omega);have w10:IntKind.i64.wrap (4*(mx a.dH b.dH - c.dH+1).tdiv 2)=4*(mx a.dH b.dH - c.dH+1).tdiv 2:=IntWalk.i64_in _ (by omega);simp only[m1,w1,w2,w3,w4,w5,w6,w7,w8,w9,w10,VV,seval];exact ou bz (by simp only[RS,seval];rfl) (by simp only[LW])
theorem xy(t p:Int)(ht:0≤t∧t≤2^40)(hp : -(2^40)≤p∧p≤2^40)(J:ae):PC prog 121 [.i .i64 t,.i .i64 p] J (fun r J'=>r=.i .i64 (jQ t p)∧J'=J):=by
 refine PC.intro func121 Z8 fun bz er=>aB ?_;simp only[Ul,SS,seval];simp only[VV,seval];refine⟨fun h=>?_,fun h=>⟨fun h2=>?_,fun h2=>?_⟩⟩
 ·have h1:100<p:=by simpa using h
  exact a6 (.inr rfl) rfl ⟨by simp only[jQ,aQ h1,one];rfl,rfl⟩
 ·have h1:¬ 100<p:=by simpa using h
  have h3:p<1∨t<1:=by simpa using h2
  exact a6 (.inr rfl) rfl ⟨by simp only[jQ,aC h1,aQ h3,one];rfl,rfl⟩
 ·have h1:¬ 100<p:=by simpa using h
  have h3:¬ (p<1∨t<1):=by simp only[kG,dx]at h2;omega
  have hm:0≤(if 1073741824<t then 1073741824 else t)∧(if 1073741824<t then 1073741824 else t)≤1073741824:=by split<;>omega
  have w1:IntKind.i64.wrap (100 - p)=100 - p:=IntWalk.i64_in _ (by omega);have DG:(if 1073741824<t then 1073741824 else t)*(100 - p)≤1073741824*100:=Sf hm.2 (by omega) (by omega) (by omega);have Bo:0≤(if 1073741824<t then 1073741824 else t)*(100 - p):=qR hm.1 (by omega);have w2:IntKind.i64.wrap ((if 1073741824<t then 1073741824 else t)*(100 - p))=(if 1073741824<t then 1073741824 else t)*(100 - p):=IntWalk.i64_in _ (by omega);have hq:=FA ((if 1073741824<t then 1073741824 else t)*(100 - p)) (1073741824*100) 100 (by omega) (by omega);have w3:IntKind.i64.wrap (((if 1073741824<t then 1073741824 else t)*(100 - p)).tdiv 100)=((if 1073741824<t then 1073741824 else t)*(100 - p)).tdiv 100:=IntWalk.i64_in _ (by omega);simp only[w1,w2,w3];exact a6 (.inr rfl) rfl ⟨by simp only[jQ,aC h1,aC h3,one];rfl,rfl⟩
end Go.Proofs.Tryz
set_option maxRecDepth 4000
set_option maxHeartbeats 1000000
namespace Go.Proofs.Tryz
open Go Go.Pm Go.Bt
theorem HV{S:ae}{K:Exit→St→Prop}(x:Nat)(hx:x<S.length)(B3 B7:Ob)(g:Gr)(hg:0≤g.2)(r g0:Nat)(gs:List Gr)(Si:Nat)(ps:List (Int×Int))(jV:∀ p∈ps,0≤p.2)(hlen:ps.length<2^30)(hr:S[r]?=some (fM 190 g0 ps))(hB7:B7=.box 182 (ni g))(bz:∀ O:List mf,bG (S++[B3,.map 3 160 (emap dq lL O),B7])):∀ (rest pre:List (Int×Int)) (O:List mf) (m:Int),ps=pre++rest→OB m O→m+gF (iu g.2 rest)≤2^40 →
  ((fh (.ptr x 0) (fj 2 (fh (.ptr S.length 0) (fj 1 (fh (.mp (S.length+1)) (fj 1 (fh (.ptr (S.length+2) 0) (fj 10 (fh (.sl 3 (gs.map ni)) (fh (.i .i64 gs.length) (fh (.i .i64 Si) (fj 87 fo)))))))))))) fun ZZ=>K (.exit 2) ⟨ZZ,S++[B3,.map 3 160 (emap dq lL (cI O (iu g.2 rest))),B7]⟩) →
  gw S.length prog sN K (rest.length+1) ⟨(.ptr x 0::uu 2 (.ptr S.length 0::uu 1 (.mp (S.length+1)::uu 1 (.ptr (S.length+2) 0::uu 10 (.sl 3 (gs.map ni)::.i .i64 gs.length::.i .i64 Si::uu 12 (.own r g0::.i .i64 ps.length::.i .i64 pre.length::uu 72 [])))))),S++[B3,.map 3 160 (emap dq lL O),B7]⟩:=by
 have kV:=(ab.1 hr).1;have ox:∀ l,(S++l)[r]?=some (.row 190 2 16 g0 false (ps.map oA)):=fun l=>by rw[ag kV];exact hr
 intro rest
 induction rest with
 | nil =>
  intro pre O m he hO hm h1;have he:ps=pre:=by simpa using he
  subst he;refine aH fun R hR=>?_;simp only[sN,VV,seval];exact⟨fun h=>by simp at h,fun _=>h1 ..⟩
 | cons p rest ih =>
  intro pre O m he hO hm h1;have EB:ps.length=pre.length+1+rest.length:=by rw[he];simp;omega
  have hw:IntKind.i64.wrap ((pre.length:Int)+1)=(((pre++[p]).length:Nat):Int):=by
   rw[br (by omega)];simp
  have eJ:(ps.map oA).getD pre.length []=oA p:=by rw[he];simp[ar]
  have hd:decide ((pre.length:Int)<(ps.length:Int))=true:=by simp;omega
  have NT:∀ a b:Int,(if b<a then b else a)=mn a b:=fun _ _=>rfl;subst hB7;refine aH fun R hR=>?_;simp only[oA]at eJ;have Bo:=jV p (by rw[he];simp);have QY:0≤mn p.2 g.2:=by unfold mn;split<;>omega
  have KT:iu g.2 (p::rest)=(p.1,(⟨mn p.2 g.2,0,0⟩:Sm))::iu g.2 rest:=rfl
  have Mf:IX (iu g.2 rest):=fun i hi=>by
   simp only[iu,aT]at hi;obtain⟨q,hq,rfl⟩:=hi;have:=jV q (by rw[he];simp[hq]);exact⟨by simp only[mn];split<;>omega,bY _,bY _⟩
  have hsn:=pv Mf;rw[KT,sC]at hm;have eI:(⟨mn p.2 g.2,0,0⟩:Sm).size=mn p.2 g.2:=by simp[Sm.size]
  have WI:=hO.add (i:=(p.1,(⟨mn p.2 g.2,0,0⟩:Sm))) ⟨QY,bY _,bY _⟩;have fQ:=hO.getD p.1;have hO0:=hO.1;simp only[eI]at hm WI;have ih':=ih (pre++[p]) (pT O (p.1,⟨mn p.2 g.2,0,0⟩)) (m+mn p.2 g.2) (by rw[he];simp) WI (by omega) (by rw[KT]at h1;exact h1);have mL:=bz (pT O (p.1,⟨mn p.2 g.2,0,0⟩));simp only[ni]at ih' mL;rcases gP (ve:=lL) wA O p.1 with⟨g1,g2,g3⟩ | ⟨i,b,g1,g2,g3⟩
  ·simp only[dq]at g2 g3;have hz:IntKind.i64.wrap (0+mn p.2 g.2)=0+mn p.2 g.2:=IntWalk.i64_in _ (by omega);have e:lL ((pV).add ⟨mn p.2 g.2,0,0⟩)=.agg [.i .i64 (0+mn p.2 g.2),.i .i64 0,.i .i64 0]:=by simp[lL,yJ,pV,Sm.add]
   have e2:pT O (p.1,⟨mn p.2 g.2,0,0⟩)=ee O p.1 ((pV).add ⟨mn p.2 g.2,0,0⟩):=by simp[pT,g1]
   have g4:=g3 ((pV).add ⟨mn p.2 g.2,0,0⟩);rw[e]at g4;rw[e2]at ih' mL;simp only[sN,ni,ox,eJ,hd,NT,bX,g2,hz,aX,aj,cz,V.gx,V.cell,VV,seval];simp only[hw,g4];exact⟨⟨by omega,by omega⟩,rfl,rfl,hR _ (bR [_,_,_] [_,_] mL (by repeat' constructor) (by simp[LW];omega) ih')⟩
  ·simp only[dq]at g2 g3;obtain⟨bp,bw,bt⟩:=b;rw[g1]at fQ;simp only[eW]at fQ;obtain⟨⟨o1,o2⟩,⟨o3,o4⟩,o5,o6⟩:=fQ;simp only at o1 o2 o3 o4 o5 o6;have hz:IntKind.i64.wrap (bp+mn p.2 g.2)=bp+mn p.2 g.2:=IntWalk.i64_in _ (by omega);have e:lL ((⟨bp,bw,bt⟩:Sm).add ⟨mn p.2 g.2,0,0⟩)=.agg [.i .i64 (bp+mn p.2 g.2),.i .i64 bw,.i .i64 bt]:=by simp[lL,yJ,Sm.add]
   have e2:pT O (p.1,⟨mn p.2 g.2,0,0⟩)=ee O p.1 ((⟨bp,bw,bt⟩:Sm).add ⟨mn p.2 g.2,0,0⟩):=by simp[pT,g1]
   have g4:=g3 ((⟨bp,bw,bt⟩:Sm).add ⟨mn p.2 g.2,0,0⟩);rw[e]at g4;rw[e2]at ih' mL;simp only[sN,ni,ox,eJ,hd,NT,bX,g2,hz,lL,yJ,aX,aj,cz,V.gx,V.cell,VV,seval];simp only[hw,g4];exact⟨⟨by omega,by omega⟩,rfl,rfl,hR _ (bR [_,_,_] [_,_] mL (by repeat' constructor) (by simp[LW];omega) ih')⟩
theorem HU{eb:Nat}{S:ae}{K:Exit→St→Prop}(x m1 m2 m3:Nat)(hx:S[x]?=some (.box 170 [.mp m1,.mp m2,.mp m3]))(B3:Ob)(G2:List (GK×(Nat×Nat)))(f2:GK→List (Int×Int))(h2:S[m2]?=some (.map 184 eb (emap mj ko G2)))
  (bT:∀ k r g,bo k G2=some (r,g)→S[r]?=some (fM 190 g (f2 k))) (KO:∀ k,bo k G2=none→f2 k=[]) (Gn:∀ k,∀ p∈f2 k,0≤p.2) (si:∀ k,(f2 k).length<2^30) (gs:List Gr) (xN:∀ g∈gs,0≤g.2) (hlen:gs.length<2^30) (bz:∀ O:List mf,bG (S++[B3,.map 3 160 (emap dq lL O)])):∀ (rest pre:List Gr) (O:List mf) (m:Int),gs=pre++rest→OB m O→m+gF (rest.flatMap fun g=>iu g.2 (f2 g.1))≤2^40 →
  ((fh (.ptr x 0) (fj 2 (fh (.ptr S.length 0) (fj 1 (fh (.mp (S.length+1)) (fj 102 fo)))))) fun ZZ=>K (.exit 0) ⟨ZZ,S++[B3,.map 3 160 (emap dq lL (cI O (rest.flatMap fun g=>iu g.2 (f2 g.1))))]⟩) →
  gw S.length prog wg K (rest.length+1) ⟨(.ptr x 0::uu 2 (.ptr S.length 0::uu 1 (.mp (S.length+1)::uu 12 (.sl 3 (gs.map ni)::.i .i64 gs.length::.i .i64 pre.length::uu 87 [])))),S++[B3,.map 3 160 (emap dq lL O)]⟩:=by
 have qU:=(ab.1 hx).1;have ub:∀ l,(S++l)[x]?=some (.box 170 [.mp m1,.mp m2,.mp m3]):=fun l=>by rw[ag qU];exact hx
 have h2l:=(ab.1 h2).1;have h22:∀ l,(S++l)[m2]?=some (.map 184 eb (emap mj ko G2)):=fun l=>by rw[ag h2l];exact h2
 intro rest
 induction rest with
 | nil =>
  intro pre O m he hO hm h1;have he:gs=pre:=by simpa using he
  subst he;refine aH fun R hR=>?_;simp only[wg,VV,seval];exact⟨fun h=>by simp at h,fun _=>h1 ..⟩
 | cons g rest ih =>
  intro pre O m he hO hm h1;have EB:gs.length=pre.length+1+rest.length:=by rw[he];simp;omega
  have hw:IntKind.i64.wrap ((pre.length:Int)+1)=(((pre++[g]).length:Nat):Int):=by
   rw[br (by omega)];simp
  have eJ:(gs.map ni).getD pre.length []=ni g:=by rw[he];simp[ar]
  have hd:decide ((pre.length:Int)<(gs.length:Int))=true:=by simp;omega
  have hI:(g::rest).flatMap (fun g=>iu g.2 (f2 g.1))=iu g.2 (f2 g.1)++rest.flatMap fun g=>iu g.2 (f2 g.1):=by simp
  rw[hI,mU]at hm;rw[hI]at h1;have hA:cI O (iu g.2 (f2 g.1)++rest.flatMap fun g=>iu g.2 (f2 g.1))=cI (cI O (iu g.2 (f2 g.1))) (rest.flatMap fun g=>iu g.2 (f2 g.1)):=by simp[cI]
  rw[hA]at h1
  have Mf:IX (iu g.2 (f2 g.1)):=fun i hi=>by
   simp only[iu,aT]at hi;obtain⟨q,hq,rfl⟩:=hi;have:=Gn _ q hq;have:=xN g (by rw[he];simp);exact⟨by simp only[mn];split<;>omega,bY _,bY _⟩
  have hnr:IX (rest.flatMap fun g=>iu g.2 (f2 g.1)):=fun i hi=>by
   simp only[iu,gJ,aT]at hi;obtain⟨g',hg',q,hq,rfl⟩:=hi;have:=Gn _ q hq;have:=xN g' (by rw[he];simp[hg']);exact⟨by simp only[mn];split<;>omega,bY _,bY _⟩
  have ih':=ih (pre++[g]) (cI O (iu g.2 (f2 g.1))) (m+gF (iu g.2 (f2 g.1))) (by rw[he];simp) (hO.apply _ Mf) (by omega) h1;have hsr:=pv hnr;have mL:=bz (cI O (iu g.2 (f2 g.1)));refine aH fun R hR=>?_;simp only[ni]at eJ;rcases gP (ve:=ko) tf G2 g.1 with⟨g1,g2,g3⟩ | ⟨i,b,g1,g2,g3⟩
  ·simp only[mj]at g2 g3;simp only[wg,ni,ub,h22,eJ,hd,bX,g2,aX,aj,cz,V.gx,V.cell,VV,seval];have hf:=KO _ g1;rw[hf]at ih' mL;simp only[iu,dj,cI,Bi]at ih' mL;refine⟨⟨by omega,by omega⟩,cE.BX 1 (aH fun R' hR'=>?_)⟩;simp only[sN,hw,xF,aG,false_implies,jD,VV,seval];exact hR _ (bR [_,_] [_] mL (by repeat' constructor) (by simp[LW];omega) ih')
  ·simp only[mj]at g2 g3;obtain⟨r,g0⟩:=b;have hr:=bT _ _ _ g1;have ox:∀ l,(S++l)[r]?=some (fM 190 g0 (f2 g.1)):=fun l=>by rw[ag (ab.1 hr).1];exact hr
   simp only[fM]at ox;simp only[ko]at g2 g3;simp only[wg,ni,ub,h22,eJ,hd,bX,g2,ox,aX,aj,cz,V.gx,V.cell,VV,seval];refine⟨⟨by omega,by omega⟩,cE.bk (fr':=(.ptr x 0::uu 2 (.ptr S.length 0::uu 1 (.mp (S.length+1)::uu 1 (.ptr (S.length+2) 0::uu 10 (.sl 3 (gs.map ni)::.i .i64 gs.length::.i .i64 pre.length::uu 12 (.own r g0::.i .i64 (f2 g.1).length::.i .i64 ([]:List (Int×Int)).length::uu 72 []))))))) (by repeat' constructor) ((f2 g.1).length+1) (HV x qU B3 _ g (xN g (by rw[he];simp)) r g0 gs pre.length (f2 g.1) (Gn _) (si _) hr rfl ?_ (f2 g.1) [] O m rfl hO (by omega) ?_)⟩
   ·intro O';have h:=ck (bz O') (l:=[.box 182 (ni g)]) (by simp[ni,LW]);simpa using h
   ·simp only[JE];intros;simp only[VV,seval];simp only[hw];refine hR _ (bR [_,_] [_] mL (by repeat' constructor) (by simp[LW];omega) ih')
end Go.Proofs.Tryz
set_option maxRecDepth 4000
set_option maxHeartbeats 1000000
namespace Go.Proofs.Tryz
open Go Go.Pm Go.Bt
theorem HT{S:ae}{K:Exit→St→Prop}(x:Nat)(hx:x<S.length)(B3 IT:Ob)(k:TK)(c:Int)(hc:0≤c)(r g0:Nat)(ps:List (Int×Int))(jV:∀ p∈ps,0≤p.2)(hlen:ps.length<2^30)(hr:S[r]?=some (fM 190 g0 ps))(bz:∀ O:List mf,bG (S++[B3,.map 3 160 (emap dq lL O),IT,.box 150 [.i .i64 k.1,.s k.2,.i .i64 0]])):∀ (rest pre:List (Int×Int)) (O:List mf) (m:Int),ps=pre++rest→OB m O→m+gF (lC k c rest)≤2^40 →
  ((fh (.ptr x 0) (fj 2 (fh (.ptr S.length 0) (fj 1 (fh (.mp (S.length+1)) (fj 54 (fh (.it (S.length+2)) (fj 47 fo)))))))) fun ZZ=>K (.exit 6) ⟨ZZ,S++[B3,.map 3 160 (emap dq lL (cI O (lC k c rest))),IT,.box 150 [.i .i64 k.1,.s k.2,.i .i64 0]]⟩) →
  gw S.length prog sM K (rest.length+1) ⟨(.ptr x 0::uu 2 (.ptr S.length 0::uu 1 (.mp (S.length+1)::uu 5 (.ptr (S.length+3) 0::.i .i64 c::uu 47 (.it (S.length+2)::uu 10 (.own r g0::.i .i64 ps.length::.i .i64 pre.length::uu 34 [])))))),S++[B3,.map 3 160 (emap dq lL O),IT,.box 150 [.i .i64 k.1,.s k.2,.i .i64 0]]⟩:=by
 have kV:=(ab.1 hr).1;have ox:∀ l,(S++l)[r]?=some (.row 190 2 16 g0 false (ps.map oA)):=fun l=>by rw[ag kV];exact hr
 intro rest
 induction rest with
 | nil =>
  intro pre O m he hO hm h1;have he:ps=pre:=by simpa using he
  subst he;refine aH fun R hR=>?_;simp only[sM,VV,seval];exact⟨fun h=>by simp at h,fun _=>h1 ..⟩
 | cons p rest ih =>
  intro pre O m he hO hm h1;have EB:ps.length=pre.length+1+rest.length:=by rw[he];simp;omega
  have hw:IntKind.i64.wrap ((pre.length:Int)+1)=(((pre++[p]).length:Nat):Int):=by
   rw[br (by omega)];simp
  have eJ:(ps.map oA).getD pre.length []=oA p:=by rw[he];simp[ar]
  have hd:decide ((pre.length:Int)<(ps.length:Int))=true:=by simp;omega
  have NT:∀ a b:Int,(if b<a then b else a)=mn a b:=fun _ _=>rfl;refine aH fun R hR=>?_;simp only[oA]at eJ;have Bo:=jV p (by rw[he];simp);have QY:0≤mn p.2 c:=by unfold mn;split<;>omega
  have hwt:0≤weight ⟨k.1,k.2,0⟩∧weight ⟨k.1,k.2,0⟩≤4:=by unfold weight;(repeat' split)<;>omega
  have hmul:0≤mn p.2 c*weight ⟨k.1,k.2,0⟩:=qR QY hwt.1;let z:Sm:=if jm k then⟨0,0,mn p.2 c⟩else⟨0,mn p.2 c*weight ⟨k.1,k.2,0⟩,0⟩
  have hz:z=if jm k then⟨0,0,mn p.2 c⟩else⟨0,mn p.2 c*weight ⟨k.1,k.2,0⟩,0⟩:=rfl
  have KT:lC k c (p::rest)=(p.1,z)::lC k c rest:=rfl
  have Sq:∀ q:Int×Int,0≤q.2→(if jm k then(⟨0,0,mn q.2 c⟩:Sm)else⟨0,mn q.2 c*weight ⟨k.1,k.2,0⟩,0⟩).nn:=fun q hq=>by
   have h0:0≤mn q.2 c:=by unfold mn;split<;>omega
   split
   ·exact⟨bY _,bY _,h0⟩
   ·exact⟨bY _,qR h0 hwt.1,bY _⟩
  have Mf:IX (lC k c rest):=fun i hi=>by
   simp only[lC,aT]at hi;obtain⟨q,hq,rfl⟩:=hi;exact Sq q (jV q (by rw[he];simp[hq]))
  have hsn:=pv Mf;rw[KT,sC]at hm;have WI:=hO.add (i:=(p.1,z)) (Sq p Bo);have fQ:=hO.getD p.1;have hO0:=hO.1;have ih':=ih (pre++[p]) (pT O (p.1,z)) (m+z.size) (by rw[he];simp) WI (by simp only at hm;omega) (by rw[KT]at h1;exact h1);have mL:=bz (pT O (p.1,z));have Mh:∃ b:Sm,(bo p.1 O).getD pV=b:=⟨_,rfl⟩;obtain⟨⟨bp,bw,bt⟩,hb⟩:=Mh;rw[hb]at fQ;obtain⟨⟨o1,o2⟩,⟨o3,o4⟩,o5,o6⟩:=fQ;simp only at o1 o2 o3 o4 o5 o6;have e2:pT O (p.1,z)=ee O p.1 ((⟨bp,bw,bt⟩:Sm).add z):=by simp only[pT,hb]
  rw[e2]at ih' mL;rcases gP (ve:=lL) wA O p.1 with⟨g1,g2,g3⟩ | ⟨i,b,g1,g2,g3⟩
  ·simp only[dq]at g2 g3;rw[g1]at hb;cases hb;have g4:=g3 ((⟨0,0,0⟩:Sm).add z);simp only[sM,ox,eJ,hd,NT,bX,g2,aX,aj,cz,V.gx,V.cell,VV,seval];have ht:b5 ⟨k.1,k.2,0⟩=jm k:=rfl;refine⟨⟨by omega,by omega⟩,rfl,?_⟩;refine aA (nL ⟨k.1,k.2,0⟩ _) rfl ?_;simp only[ht,VV,seval];refine⟨fun hT=>?_,fun hT=>?_⟩
   ·have IY:z=⟨0,0,mn p.2 c⟩:=by rw[hz,aQ hT]
    have hs:z.size=mn p.2 c:=by rw[IY];simp[Sm.size]
    have hu:IntKind.i64.wrap (0+mn p.2 c)=0+mn p.2 c:=IntWalk.i64_in _ (by simp only[hs]at hm;omega);have e:lL ((⟨0,0,0⟩:Sm).add z)=.agg [.i .i64 0,.i .i64 0,.i .i64 (0+mn p.2 c)]:=by simp[lL,yJ,pV,Sm.add,IY]
    rw[e]at g4;simp only[NT,hu,bX,g2,cz,V.gx,V.cell,lL,yJ,VV,seval];simp only[hw,g4];exact⟨rfl,hR _ (bR [_,_,_,_] [_,_] mL (by repeat' constructor) (by simp[LW];omega) ih')⟩
   ·have IY:z=⟨0,mn p.2 c*weight ⟨k.1,k.2,0⟩,0⟩:=by rw[hz,aC (by simp[hT])]
    have hs:z.size=mn p.2 c*weight ⟨k.1,k.2,0⟩:=by rw[IY];simp[Sm.size]
    have XS:IntKind.i64.wrap (mn p.2 c*weight ⟨k.1,k.2,0⟩)=mn p.2 c*weight ⟨k.1,k.2,0⟩:=IntWalk.i64_in _ (by simp only[hs]at hm;omega);have hu:IntKind.i64.wrap (0+mn p.2 c*weight ⟨k.1,k.2,0⟩)=0+mn p.2 c*weight ⟨k.1,k.2,0⟩:=IntWalk.i64_in _ (by simp only[hs]at hm;omega);have e:lL ((⟨0,0,0⟩:Sm).add z)=.agg [.i .i64 0,.i .i64 (0+mn p.2 c*weight ⟨k.1,k.2,0⟩),.i .i64 0]:=by simp[lL,yJ,pV,Sm.add,IY]
    rw[e]at g4;refine aA (jv ⟨k.1,k.2,0⟩ _) rfl ?_;simp only[NT,XS,hu,bX,g2,cz,V.gx,V.cell,lL,yJ,VV,seval];simp only[hw,g4];exact⟨rfl,hR _ (bR [_,_,_,_] [_,_] mL (by repeat' constructor) (by simp[LW];omega) ih')⟩
  ·simp only[dq]at g2 g3;rw[g1]at hb;cases hb;have g4:=g3 ((⟨bp,bw,bt⟩:Sm).add z);simp only[sM,ox,eJ,hd,NT,bX,g2,lL,yJ,aX,aj,cz,V.gx,V.cell,VV,seval];have ht:b5 ⟨k.1,k.2,0⟩=jm k:=rfl;refine⟨⟨by omega,by omega⟩,rfl,?_⟩;refine aA (nL ⟨k.1,k.2,0⟩ _) rfl ?_;simp only[ht,VV,seval];refine⟨fun hT=>?_,fun hT=>?_⟩
   ·have IY:z=⟨0,0,mn p.2 c⟩:=by rw[hz,aQ hT]
    have hs:z.size=mn p.2 c:=by rw[IY];simp[Sm.size]
    have hu:IntKind.i64.wrap (bt+mn p.2 c)=bt+mn p.2 c:=IntWalk.i64_in _ (by simp only[hs]at hm;omega);have e:lL ((⟨bp,bw,bt⟩:Sm).add z)=.agg [.i .i64 bp,.i .i64 bw,.i .i64 (bt+mn p.2 c)]:=by simp[lL,yJ,pV,Sm.add,IY]
    rw[e]at g4;simp only[NT,hu,bX,g2,cz,V.gx,V.cell,lL,yJ,VV,seval];simp only[hw,g4];exact⟨rfl,hR _ (bR [_,_,_,_] [_,_] mL (by repeat' constructor) (by simp[LW];omega) ih')⟩
   ·have IY:z=⟨0,mn p.2 c*weight ⟨k.1,k.2,0⟩,0⟩:=by rw[hz,aC (by simp[hT])]
    have hs:z.size=mn p.2 c*weight ⟨k.1,k.2,0⟩:=by rw[IY];simp[Sm.size]
    have XS:IntKind.i64.wrap (mn p.2 c*weight ⟨k.1,k.2,0⟩)=mn p.2 c*weight ⟨k.1,k.2,0⟩:=IntWalk.i64_in _ (by simp only[hs]at hm;omega);have hu:IntKind.i64.wrap (bw+mn p.2 c*weight ⟨k.1,k.2,0⟩)=bw+mn p.2 c*weight ⟨k.1,k.2,0⟩:=IntWalk.i64_in _ (by simp only[hs]at hm;omega);have e:lL ((⟨bp,bw,bt⟩:Sm).add z)=.agg [.i .i64 bp,.i .i64 (bw+mn p.2 c*weight ⟨k.1,k.2,0⟩),.i .i64 bt]:=by simp[lL,yJ,pV,Sm.add,IY]
    rw[e]at g4;refine aA (jv ⟨k.1,k.2,0⟩ _) rfl ?_;simp only[NT,XS,hu,bX,g2,cz,V.gx,V.cell,lL,yJ,VV,seval];simp only[hw,g4];exact⟨rfl,hR _ (bR [_,_,_,_] [_,_] mL (by repeat' constructor) (by simp[LW];omega) ih')⟩
theorem HS{ec:Nat}{S:ae}{K:Exit→St→Prop}(x m1 m2 m3 mq:Nat)(hx:S[x]?=some (.box 170 [.mp m1,.mp m2,.mp m3]))(B3:Ob)(G3:List (TK×(Nat×Nat)))(f3:TK→List (Int×Int))(h3:S[m3]?=some (.map 150 ec (emap fw ko G3)))
  (bT:∀ k r g,bo k G3=some (r,g)→S[r]?=some (fM 190 g (f3 k))) (KO:∀ k,bo k G3=none→f3 k=[]) (Gn:∀ k,∀ p∈f3 k,0≤p.2) (si:∀ k,(f3 k).length<2^30) (C:List (TK×Int)) (hq:S[mq]?=some (.map 150 3 (emap fw dq C))) (Gs:∀ p∈C,0≤p.2)
  (bz:∀ (O:List mf) ps cur,bG (S++[B3,.map 3 160 (emap dq lL O),.iter false mq 3 (emap fw dq C).length ps cur])):∀ (N:Nat) (ps:List Nat) (cur:Option Nat) (O:List mf) (m:Int),ps.length≤N→ps.Nodup→(∀ p∈ps,p<C.length)→OB m O→m+gF ((ps.map fun i=>C.getD i ((0,[]),0)).flatMap fun k=>lC k.1 k.2 (f3 k.1))≤2^40 →
  (∀ (D:List (TK×Int)) (ps':List Nat) (cur':Option Nat),D.Perm (ps.map fun i=>C.getD i ((0,[]),0))→((fj 5 (fh (.mp (S.length+1)) (fj 102 fo))) fun ZZ=>K (.exit 4) ⟨ZZ,S++[B3,.map 3 160 (emap dq lL (cI O (D.flatMap fun k=>lC k.1 k.2 (f3 k.1)))),.iter false mq 3 (emap fw dq C).length ps' cur']⟩)) →
  gw S.length prog Aq K (N+1) ⟨(.ptr x 0::uu 2 (.ptr S.length 0::uu 1 (.mp (S.length+1)::uu 54 (.it (S.length+2)::uu 47 [])))),S++[B3,.map 3 160 (emap dq lL O),.iter false mq 3 (emap fw dq C).length ps cur]⟩:=by
 have qU:=(ab.1 hx).1;have ub:∀ l,(S++l)[x]?=some (.box 170 [.mp m1,.mp m2,.mp m3]):=fun l=>by rw[ag qU];exact hx
 have h3l:=(ab.1 h3).1;have h32:∀ l,(S++l)[m3]?=some (.map 150 ec (emap fw ko G3)):=fun l=>by rw[ag h3l];exact h3
 have X9:=(ab.1 hq).1;have CL:∀ l,(S++l)[mq]?=some (.map 150 3 (emap fw dq C)):=fun l=>by rw[ag X9];exact hq
 intro N
 induction N with
 | zero =>
  intro ps cur O m hl lM hp hO hm h1;have jV:ps=[]:=aD (by omega);subst jV;refine aH fun R hR=>?_;simp only[Aq,CL,VV,seval];exact h1 [] _ _ (.refl _) ..
 | succ N ih =>
  intro ps cur O m hl lM hp hO hm h1;refine aH fun R hR=>?_;simp only[Aq,CL,VV,seval];refine⟨fun jV=>?_,fun q hq=>?_⟩
  ·subst jV;exact h1 [] _ _ (.refl _) ..
  ·have u4:=hp q hq;have eJ:=pJ (ke:=fw) (ve:=dq) C ((0,[]),0) u4;have NQ:=kX lM hq;have acz:=kr hq;have nO:=rP (d:=(((0,[]),0):TK×Int)) u4;generalize Vd:C.getD q ((0,[]),0)=kc at eJ nO;have Me:=NQ.map fun i=>C.getD i ((0,[]),0);simp only[az,Vd]at Me;rw[oH _ Me,dm,mU]at hm;obtain⟨k,c⟩:=kc;have Sy:=Gs _ nO;simp only at hm Sy;have Mf:=uZ (k:=k) Sy (Gn k);have hOa:=hO.apply _ Mf
   have ih':=ih (ps.filter fun i=>i != q) (some q) _ _ (by omega) (lM.filter _) (fun p h=>hp p (cc.1 h).1) hOa (by omega) (fun D ps' cur' hD=>by
    have h:=h1 ((k,c)::D) ps' cur' ((hD.cons _).trans Me.symm);rw[dm,Fe]at h;exact h)
   have Py:0≤gF (((ps.filter fun i=>i != q).map fun i=>C.getD i ((0,[]),0)).flatMap fun k=>lC k.1 k.2 (f3 k.1)):=pv fun i hi=>by
    obtain⟨y,hy,hi⟩:=gJ.1 hi;obtain⟨j,hj,rfl⟩:=aT.1 hy;exact uZ (Gs _ (rP (hp j (cc.1 hj).1))) (Gn _) i hi
   have mL:=bz (cI O (lC k c (f3 k))) (ps.filter fun i=>i != q) (some q);simp only[eJ,dq,fw,VV,seval];rcases gP (ve:=ko) qo G3 k with⟨g1,g2,g3⟩ | ⟨i,b,g1,g2,g3⟩
   ·simp only[fw]at g2 g3;simp only[ub,h32,bX,g2,aX,cz,V.gx,V.cell,VV,seval];have hf:=KO _ g1;rw[hf]at ih' mL;simp only[lC,dj,cI,Bi]at ih' mL;refine cE.BX 1 (aH fun R' hR'=>?_);simp only[sM,xF,aG,false_implies,jD,VV,seval];exact hR _ (bR [_,_,_] [_] mL (by repeat' constructor) (by simp[LW];omega) ih')
   ·simp only[fw]at g2 g3;obtain⟨r,g0⟩:=b;have hr:=bT _ _ _ g1;have ox:∀ l,(S++l)[r]?=some (fM 190 g0 (f3 k)):=fun l=>by rw[ag (ab.1 hr).1];exact hr
    simp only[fM]at ox;simp only[ko]at g2 g3;simp only[ub,h32,bX,g2,ox,aX,aj,cz,V.gx,V.cell,VV,seval];refine cE.bk (fr':=(.ptr x 0::uu 2 (.ptr S.length 0::uu 1 (.mp (S.length+1)::uu 5 (.ptr (S.length+3) 0::.i .i64 c::uu 47 (.it (S.length+2)::uu 10 (.own r g0::.i .i64 (f3 k).length::.i .i64 ([]:List (Int×Int)).length::uu 34 []))))))) (by repeat' constructor) ((f3 k).length+1) (HT x qU B3 _ k c Sy r g0 (f3 k) (Gn _) (si _) hr ?_ (f3 k) [] O m rfl hO (by omega) ?_)
    ·intro O';have h:=ck (bz O' (ps.filter fun i=>i != q) (some q)) (l:=[.box 150 [.i .i64 k.1,.s k.2,.i .i64 0]]) (by simp[LW]);simpa using h
    ·simp only[JE];intros;simp only[VV,seval];refine hR _ (bR [_,_,_] [_] mL (by repeat' constructor) (by simp[LW];omega) ih')
end Go.Proofs.Tryz
set_option maxRecDepth 4000
set_option maxHeartbeats 1000000
namespace Go.Proofs.Tryz
open Go Go.Pm Go.Bt
def nf(f2:GK→List (Int×Int))(gs:List Gr):List mf:=gs.flatMap fun g=>iu g.2 (f2 g.1)
def ng(f3:TK→List (Int×Int))(D:List (TK×Int)):List mf:=D.flatMap fun k=>lC k.1 k.2 (f3 k.1)
theorem vC(n:Nat)(O:List mf):eF n ((emap dq lL O).map (·.2)):=l9 fun y hy=>by
 obtain⟨e,he,rfl⟩:=aT.1 hy;simp[lL,yJ,LW]
theorem G9{eb ec:Nat}{S:ae}(x m1 m2 m3 mq:Nat)(hx:S[x]?=some (.box 170 [.mp m1,.mp m2,.mp m3]))(G2:List (GK×(Nat×Nat)))(f2:GK→List (Int×Int))(h2:S[m2]?=some (.map 184 eb (emap mj ko G2)))
  (zg:∀ k r g,bo k G2=some (r,g)→S[r]?=some (fM 190 g (f2 k))) (EE:∀ k,bo k G2=none→f2 k=[]) (AS:∀ k,∀ p∈f2 k,0≤p.2) (Q4:∀ k,(f2 k).length<2^30)
  (G3:List (TK×(Nat×Nat))) (f3:TK→List (Int×Int)) (h3:S[m3]?=some (.map 150 ec (emap fw ko G3)))
  (KD:∀ k r g,bo k G3=some (r,g)→S[r]?=some (fM 190 g (f3 k))) (ED:∀ k,bo k G3=none→f3 k=[]) (NX:∀ k,∀ p∈f3 k,0≤p.2) (Q3:∀ k,(f3 k).length<2^30)
  (l:List It) (hl:l.length<2^27) (hq:S[mq]?=some (.map 150 3 (emap fw dq (gV [] l)))) (xN:∀ g∈bK (aI l),0≤g.2) (Gs:∀ p∈gV [] l,0≤p.2)
  (hm:gF (nf f2 (bK (aI l)))+gF (ng f3 (gV [] l))≤2^40) :
  PC prog 119 [.ptr x 0,.agg (oo l mq)] S (fun r S'=>∃ D ps cur,D.Perm (gV [] l)∧r=.mp (S.length+1)∧S'=S++[.box 162 (oo l mq),.map 3 160 (emap dq lL (cI (cI [] (nf f2 (bK (aI l)))) (ng f3 D))),.iter false mq 3 (emap fw dq (gV [] l)).length ps cur]):=by
 refine PC.intro func119 Z9 fun bz er=>aB ?_;have Yl:=(ab.1 hq).1;have UM:=kh l;have Vj:=nQ (aI l);have hb:∀ n,S.length<n→eF n (oo l mq):=fun n hn=>by simp[oo,sV,LW];omega
 have Sx:∀ O:List mf,bG (S++[.box 162 (oo l mq),.map 3 160 (emap dq lL O)]):=fun O=>ck bz (by
  intro o ho;simp only[bn,eZ,IP]at ho;rcases ho with rfl | rfl
  ·exact hb _ (by simp)
  ·exact vC _ O)
 have DL:∀ (O:List mf) ps cur,bG (S++[.box 162 (oo l mq),.map 3 160 (emap dq lL O),.iter false mq 3 (emap fw dq (gV [] l)).length ps cur]):=fun O ps cur=>ck bz (by
  intro o ho;simp only[bn,eZ,IP]at ho;rcases ho with rfl | rfl | rfl
  ·exact hb _ (by simp)
  ·exact vC _ O
  ·simp only[ai,aK];omega)
 have CL:∀ l',(S++l')[mq]?=some (.map 150 3 (emap fw dq (gV [] l))):=fun l=>by rw[ag Yl];exact hq
 simp only[Un,oo,sV,SS,seval];simp only[aj,VV,seval]
 have CS:IX (nf f2 (bK (aI l))):=fun i hi=>by
  obtain⟨g,hg,hi⟩:=gJ.1 hi;exact Ge (xN g hg) (AS _) i hi
 have Sq:IX (ng f3 (gV [] l)):=fun i hi=>by
  obtain⟨g,hg,hi⟩:=gJ.1 hi;exact uZ (Gs g hg) (NX _) i hi
 have DF:=pv CS;have hs3:=pv Sq;have hO:=OB.nil.apply _ CS;refine cE.bk (fr':=(.ptr x 0::uu 2 (.ptr S.length 0::uu 1 (.mp (S.length+1)::uu 12 (.sl 3 ((bK (aI l)).map ni)::.i .i64 (bK (aI l)).length::.i .i64 ([]:List Gr).length::uu 87 []))))) (by repeat' constructor) ((bK (aI l)).length+1) (HU x m1 m2 m3 hx (.box 162 (oo l mq)) G2 f2 h2 zg EE AS Q4 (bK (aI l)) xN (by omega) Sx (bK (aI l)) [] [] 0 rfl OB.nil (by show 0+gF (nf f2 (bK (aI l)))≤2^40;omega) ?_);simp only[JE];intros;simp only[aj,oo,sV,CL,VV,seval];refine cE.bk (fr':=(.ptr x 0::uu 2 (.ptr S.length 0::uu 1 (.mp (S.length+1)::uu 54 (.it (S.length+2)::uu 47 []))))) (by repeat' constructor) ((emap fw dq (gV [] l)).length+1) (HS x m1 m2 m3 mq hx (.box 162 (oo l mq)) G3 f3 h3 KD ED NX Q3 (gV [] l) hq Gs DL _ (List.range (emap fw dq (gV [] l)).length) none (cI [] (nf f2 (bK (aI l)))) _ (by simp) lf (by simp[emap]) hO (by rw[lY,kn];show 0+gF (nf f2 (bK (aI l)))+gF (ng f3 (gV [] l))≤2^40;omega) ?_);intro D ps' cur' hD;rw[lY,kn]at hD;simp only[JE];intros;simp only[VV,seval];exact fO (.inr rfl) (by simp only[RS,seval];rfl) (Wk.refl _ _) rfl ⟨D,ps',cur',hD,rfl,rfl⟩
end Go.Proofs.Tryz
set_option maxRecDepth 4000
set_option maxHeartbeats 1000000
namespace Go.Proofs.Tryz
open Go Go.Pm Go.Bt
def p8(q:List It)(O:List mf)(p:Int)(e:LE):Bool:=decide (pe (gp q) (gp e.2.1) ((bo e.1 O).getD pV)≤jQ (mx (fV q) (fV e.2.1)) p)
def GN(n:Nat)(T:ae)(ji:Nat)(D:List Int)(v:V):Prop:=(D=[]∧v=.nil)∨∃ j g,v=.own (n+j) g∧j≠ji∧T[j]?=some (.row 3 1 8 g false (D.map cq))
theorem QB{ea:Nat}{S:ae}{n0:Nat}{K:Exit→St→Prop}(m1 y z mq:Nat)(L:List LE)(hLn:L.length<2^20)(h1:S[m1]?=some (.map 3 ea (emap dq wv L)))(q:List It)(h7:S[y]?=some (.box 162 (oo q mq)))(O:List mf)(hO:OB (2^40) O)(h8:S[z]?=some (.map 3 160 (emap dq lL O)))(p:Int)(hp : -(2^40)≤p∧p≤2^40)
  (hq:(gp q).ok (2^40)∧0≤fV q∧fV q≤2^40) (hL:∀ e∈L,(gp e.2.1).ok (2^40)∧0≤fV e.2.1∧fV e.2.1≤2^40) (ji:Nat):∀ (N:Nat) (ps:List Nat) (cur:Option Nat) (D:List Int) (v:V) (T:ae),ps.length≤N→ps.Nodup→(∀ p∈ps,p<L.length)→D.length+ps.length≤L.length →
  T[ji]?=some (.iter false m1 ea (emap dq wv L).length ps cur)→GN S.length T ji D v →
  (∀ (E:List LE) v' T',E.Perm (ps.map fun i=>L.getD i (0,([],0)))→GN S.length T' ji (D++(E.filter (p8 q O p)).map (·.1)) v'→((fj 9 (fh (v') (fj 40 fo))) fun ZZ=>K (.exit 0) ⟨ZZ,S++T'⟩)) →
  gw n0 prog Cf K (N+1) ⟨(uu 2 (.i .i64 p::uu 4 (.ptr y 0::.mp z::v::uu 11 (.it (S.length+ji)::uu 28 [])))),S++T⟩:=by
 have Mm:∀ l,(S++l)[m1]?=some (.map 3 ea (emap dq wv L)):=fun l=>by rw[ag (ab.1 h1).1];exact h1
 have WL:∀ l,(S++l)[y]?=some (.box 162 (oo q mq)):=fun l=>by rw[ag (ab.1 h7).1];exact h7
 have h82:∀ l,(S++l)[z]?=some (.map 3 160 (emap dq lL O)):=fun l=>by rw[ag (ab.1 h8).1];exact h8
 intro N
 induction N with
 | zero =>
  intro ps cur D v T hl lM hb hn hi WH hk;have jV:ps=[]:=aD (by omega);subst jV;refine aH fun R hR=>?_;simp only[Cf,Mm,hi,VV,seval];exact hk [] v T (.refl _) (by simpa using WH) ..
 | succ N ih =>
  intro ps cur D v T hl lM hb hn hi WH hk;have nz:=(ab.1 hi).1;have yf:∀ o,(T.set ji o)[ji]?=some o:=fun o=>ak nz;refine aH fun R hR=>?_;simp only[Cf,Mm,hi,yf,VV,seval];refine⟨fun jV=>?_,fun i hi'=>?_⟩
  ·subst jV;exact hk [] v T (.refl _) (by simpa using WH) ..
  ·have u4:=hb i hi';have eJ:=pJ (ke:=dq) (ve:=wv) L (0,([],0)) u4;have NQ:=kX lM hi';have si:=kr hi';have nO:=rP (d:=((0,([],0)):LE)) u4;generalize Vd:L.getD i (0,([],0))=e at eJ nO;have Me:=NQ.map fun i=>L.getD i (0,([],0));simp only[az,Vd]at Me;obtain⟨id,l,m⟩:=e;obtain⟨hs,ht⟩:=hL _ nO;have nN:=yf (.iter false m1 ea (emap dq wv L).length (ps.filter fun j=>j != i) (some i));have Q9:(T.set ji (.iter false m1 ea (emap dq wv L).length (ps.filter fun j=>j != i) (some i))).length=T.length:=cJ
   have VD:GN S.length (T.set ji (.iter false m1 ea (emap dq wv L).length (ps.filter fun j=>j != i) (some i))) ji D v:=by
    rcases WH with h | ⟨j,g,e1,e2,e3⟩
    ·exact .inl h
    ·exact .inr ⟨j,g,e1,e2,by rw[ay (PS e2)];exact e3⟩
   simp only[eJ,dq,wv,VV,seval];generalize T.set ji (.iter false m1 ea (emap dq wv L).length (ps.filter fun j=>j != i) (some i))=T1 at nN VD Q9 ⊢;have Ww:=hO.getD id
   have uF:∀ (D':List Int) (v':V) (T':ae),D'=D++(if p8 q O p (id,(l,m))then[id]else[])→T'[ji]?=some (.iter false m1 ea (emap dq wv L).length (ps.filter fun j=>j != i) (some i))→GN S.length T' ji D' v'→gw n0 prog Cf K (N+1) ⟨(uu 2 (.i .i64 p::uu 4 (.ptr y 0::.mp z::v'::uu 11 (.it (S.length+ji)::uu 28 [])))),S++T'⟩:=fun D' v' T' hD' hi'' hR' =>
    ih (ps.filter fun j=>j != i) (some i) D' v' T' (by omega) (lM.filter _) (fun p h=>hb p (cc.1 h).1) (by subst hD';split<;>simp<;>omega) hi'' hR' (fun E v'' T'' hE AV=>hk ((id,(l,m))::E) v'' T'' ((hE.cons _).trans Me.symm) (by
     subst hD';rw[dz];split at AV
     ·rename_i hx;rw[aQ hx];simpa using AV
     ·rename_i hx;rw[aC hx];simpa using AV))
   have hDl:D.length<2^21:=by omega
   have Ik:ji<T1.length:=by omega
   have hm:∀ a b:Int,(if a<b then b else a)=mx a b:=fun _ _=>rfl;have Sr:0≤mx (fV q) (fV l)∧mx (fV q) (fV l)≤2^40:=by simp only at ht;unfold mx;split<;>omega
   simp only at hs ht;rcases gP (ve:=lL) wA O id with⟨g1,g2,g3⟩ | ⟨i',b,g1,g2,g3⟩
   ·simp only[dq]at g2;have Sl:(bo id O).getD pV=pV:=by rw[g1];rfl
    rw[Sl]at Ww;simp only[oo,sV,lL,yJ,WL,h82,bX,g2,VV,seval];refine⟨rfl,?_⟩;refine aA (Dr (gp q) (gp l) pV hq.1 hs Ww _) rfl ?_;simp only[oo,sV,WL,hm,VV,seval];refine aA (xy (mx (fV q) (fV l)) p Sr hp _) rfl ?_;simp only[VV,seval];have gr:p8 q O p (id,(l,m))=decide (pe (gp q) (gp l) pV≤jQ (mx (fV q) (fV l)) p):=by simp only[p8,Sl]
    rw[← gr];refine⟨fun hd=>?_,fun hd=>?_⟩
    ·rcases VD with⟨rfl,rfl⟩ | ⟨j,g,rfl,e2,e3⟩
     ·simp only[VV,seval];refine⟨by decide,hR _ (bk (by repeat' constructor) (uF [id] (.own (S.length+(T1.length+1)) 0) _ (by rw[hd];rfl) (by rw[ag Ik];exact nN) (.inr ⟨T1.length+1,0,rfl,by omega,by simp[cq]⟩)))⟩
     ·have jr:=(ab.1 e3).1;have K6:∀ l,(T1++l)[j]?=some (.row 3 1 8 g false (D.map cq)):=fun l=>by rw[ag jr];exact e3
      have K5:∀ l o,(T1++l).set j o=T1.set j o++l:=fun l o=>dD _ _ jr;simp only[K6,K5,VV,seval];refine⟨⟨by simp only[aj];omega,by simp only[aj,maxLen];omega⟩,hR _ (bk (by repeat' constructor) (uF (D++[id]) (.own (S.length+j) (g+1)) _ (by rw[hd];rfl) (by rw[ag (by simpa using Ik),ay e2];exact nN) (.inr ⟨j,g+1,rfl,e2,by rw[ag (by simpa using jr),ak jr];simp[cq]⟩)))⟩
    ·exact hR _ (bk (by repeat' constructor) (uF D v _ (by rw[hd];simp) (by rw[ag Ik];exact nN) (by
      rcases VD with h | ⟨j,g,e1,e2,e3⟩
      ·exact .inl h
      ·exact .inr ⟨j,g,e1,e2,by rw[ag (ab.1 e3).1];exact e3⟩)))
   ·simp only[dq]at g2;have Sl:(bo id O).getD pV=b:=by rw[g1];rfl
    rw[Sl]at Ww;simp only[oo,sV,lL,yJ,WL,h82,bX,g2,VV,seval];refine⟨rfl,?_⟩;refine aA (Dr (gp q) (gp l) b hq.1 hs Ww _) rfl ?_;simp only[oo,sV,WL,hm,VV,seval];refine aA (xy (mx (fV q) (fV l)) p Sr hp _) rfl ?_;simp only[VV,seval];have gr:p8 q O p (id,(l,m))=decide (pe (gp q) (gp l) b≤jQ (mx (fV q) (fV l)) p):=by simp only[p8,Sl]
    rw[← gr];refine⟨fun hd=>?_,fun hd=>?_⟩
    ·rcases VD with⟨rfl,rfl⟩ | ⟨j,g,rfl,e2,e3⟩
     ·simp only[VV,seval];refine⟨by decide,hR _ (bk (by repeat' constructor) (uF [id] (.own (S.length+(T1.length+1)) 0) _ (by rw[hd];rfl) (by rw[ag Ik];exact nN) (.inr ⟨T1.length+1,0,rfl,by omega,by simp[cq]⟩)))⟩
     ·have jr:=(ab.1 e3).1;have K6:∀ l,(T1++l)[j]?=some (.row 3 1 8 g false (D.map cq)):=fun l=>by rw[ag jr];exact e3
      have K5:∀ l o,(T1++l).set j o=T1.set j o++l:=fun l o=>dD _ _ jr;simp only[K6,K5,VV,seval];refine⟨⟨by simp only[aj];omega,by simp only[aj,maxLen];omega⟩,hR _ (bk (by repeat' constructor) (uF (D++[id]) (.own (S.length+j) (g+1)) _ (by rw[hd];rfl) (by rw[ag (by simpa using Ik),ay e2];exact nN) (.inr ⟨j,g+1,rfl,e2,by rw[ag (by simpa using jr),ak jr];simp[cq]⟩)))⟩
    ·exact hR _ (bk (by repeat' constructor) (uF D v _ (by rw[hd];simp) (by rw[ag Ik];exact nN) (by
      rcases VD with h | ⟨j,g,e1,e2,e3⟩
      ·exact .inl h
      ·exact .inr ⟨j,g,e1,e2,by rw[ag (ab.1 e3).1];exact e3⟩)))
end Go.Proofs.Tryz
set_option maxRecDepth 4000
set_option maxHeartbeats 1000000
namespace Go.Proofs.Tryz
open Go Go.Pm Go.Bt
theorem Ia(J:ae):PC prog 65 [] J (fun r J'=>r=.ptr (J.length+3) 0∧J'=J++[.map 3 162 [],.map 184 185 [],.map 150 185 [],qT J.length]):=by
 refine PC.intro func65 c65 fun bz er=>aB ?_;simp only[p65,SS,seval];simp only[VV,seval];exact fO (.inr rfl) (by simp only[RS,seval];rfl) (Wk.refl _ _) rfl ⟨rfl,rfl⟩
abbrev Wi:Nat×Nat×Nat:=(162,185,185)
def C2(n:Nat)(v:V)(next:Int):Ob:=.box 105 [.ptr (n+3) 0,v,.i .i64 next]
theorem yo.nil(n:Nat):yo n [] [] [] [] :=
 ⟨iU,fun e he=>by simp at he,fun e he=>by simp at he,⟨iU,fun k r g h=>by simp[bo,db]at h,fun k h=>rfl,fun k k' r g g' h=>by simp[bo,db]at h⟩,
  ⟨iU,fun k r g h=>by simp[bo,db]at h,fun k h=>rfl,fun k k' r g g' h=>by simp[bo,db]at h⟩,fun k r g k' r' g' h=>by simp[bo,db]at h⟩
end Go.Proofs.Tryz
set_option maxRecDepth 4000
set_option maxHeartbeats 1000000
namespace Go.Proofs.Tryz
open Go Go.Pm Go.Bt
theorem Pc(p:Int×Int)(id:Int)(b:Nat)(J:ae)(hb:J[b]?=some (.box 3 [.i .i64 id])):PC prog 202 [.agg (oA p),.ptr b 0] J (fun r J'=>r=.b (p.1==id)∧J'=J):=by
 refine PC.intro func202 Zu fun bz er=>aB ?_;have hb':∀ l,(J++l)[b]?=some (.box 3 [.i .i64 id]):=fun l=>by rw[ag (ab.1 hb).1];exact hb
 simp only[TC,SS,seval];simp only[oA,hb',VV,seval];exact bu bz (.inr rfl) rfl (by simp[LW]) ⟨rfl,rfl⟩
theorem Te{l:List (Int×Int)}{i:Nat}{x:Int×Int}(h:l[i]?=some x):(l.map oA).getD i []=oA x:=by
 simp[ar,h]
theorem Qf(l:List (Int×Int))(i:Nat)(x:Int×Int):(l.map oA).set i (oA x)=(l.set i x).map oA:=by
 rw[List.map_set]
def ux(g:Nat)(l:List (Int×Int)):Ob:=.row 190 2 16 g false (l.map oA)
theorem Nb{J:ae}{K:Exit→St→Prop}(r g b:Nat)(id:Int)(hb:J[b]?=some (.box 3 [.i .i64 id]))(l:List (Int×Int))(hl:l.length<2^30)(hr:J[r]?=some (ux g l)):∀ (rest pre:List (Int×Int)),l=pre++rest →
  (fP id rest=rest→((fh (.own r g) (fj 18 fo)) fun ZZ=>K (.exit 0) ⟨ZZ,J⟩)) →
  (∀ (p2:List (Int×Int)) (x:Int×Int) (r2:List (Int×Int)),rest=p2++x::r2→fP id p2=p2→(x.1==id)=true→((fj 4 (fh (.i .i64 (pre++p2).length) (fj 14 fo))) fun ZZ=>K .ret ⟨ZZ,J⟩)) →
  gw J.length prog z6 K (rest.length+1) ⟨(.own r g::.fn 202 [.ptr b 0]::uu 5 (.i .i64 l.length::.i .i64 pre.length::uu 10 [])),J⟩:=by
 intro rest
 induction rest with
 | nil =>
  intro pre he h1 h2;have he:l=pre:=by simpa using he
  subst he;refine aH fun R hR=>?_;simp only[z6,VV,seval];exact⟨fun h=>by simp at h,fun _=>h1 rfl ..⟩
 | cons x rest ih =>
  intro pre he h1 h2;have hlen:l.length=pre.length+(rest.length+1):=by rw[he];simp
  have hw:IntKind.i64.wrap ((pre.length:Int)+1)=(((pre++[x]).length:Nat):Int):=by
   rw[br (by omega)];simp
  have eJ:=Te (l:=l) (i:=pre.length) (x:=x) (by rw[he];simp);have hd:decide ((pre.length:Int)<(l.length:Int))=true:=by simp;omega
  simp only[oA]at eJ;simp only[ux]at hr;refine aH fun R hR=>?_;simp only[z6,hr,eJ,hd,aj,aX,VV,seval];refine⟨⟨by omega,by omega⟩,?_⟩;refine rX rfl (by kernel_rfl) (Pc x id b _ hb) (by simp only[oA,VV,seval]) ?_;simp only[hw,VV,seval];refine⟨fun h=>?_,fun h=>?_⟩
  ·have:=h2 [] x rest rfl rfl h;simp only[bF]at this;exact this ..
  ·refine hR _ (bk ?_ (ih (pre++[x]) (by simp[he]) (fun hh=>h1 (by simp only[fP]at hh ⊢;rw[ga (by simp[h]),hh])) (fun p2 y r2 e1 e2 e3=>?_)))
   ·repeat' constructor
   ·have:=h2 (x::p2) y r2 (by simp[e1]) (by simp only[fP]at e2 ⊢;rw[ga (by simp[h]),e2]) e3;rw[show pre++[x]++p2=pre++x::p2 by simp];exact this
theorem Kw(r g b:Nat)(id:Int)(l:List (Int×Int))(hl:l.length<2^30)(J:ae)(hb:J[b]?=some (.box 3 [.i .i64 id]))(hr:J[r]?=some (ux g l)):
  PC prog 242 [.own r g,.fn 202 [.ptr b 0]] J (fun v J'=>J'=J∧((fP id l=l∧v=.i .i64 (-1))∨∃ p x q,l=p++x::q∧fP id p=p∧(x.1==id)=true∧v=.i .i64 p.length)):=by
 refine PC.intro func242 Zf fun bz er=>aB ?_;simp only[Tn,SS,seval];have ox:=hr;simp only[ux]at ox;simp only[ox,aj,VV,seval];refine cE.bk (fr':=(.own r g::.fn 202 [.ptr b 0]::uu 5 (.i .i64 l.length::.i .i64 (([]:List (Int×Int)).length:Nat)::uu 10 []))) (by repeat' constructor) (l.length+1) (Nb r g b id hb l hl hr l [] rfl ?_ ?_)
 ·intro h;simp only[JE];intros;simp only[VV,seval];exact a6 (.inr rfl) rfl ⟨rfl,.inl ⟨h,rfl⟩⟩
 ·intro p2 x r2 e1 e2 e3;simp only[JE];intros;simp only[bh,VV,seval];exact a6 (.inr rfl) rfl ⟨rfl,.inr ⟨p2,x,r2,e1,e2,e3,rfl⟩⟩
theorem qj{J:ae}(h:bG J)(r E sz by' g:Nat)(m:Bool)(os:List (List V)):bG (J.set r (.row E sz by' g m os)):=by
 intro id o hid j x hx;rw[cJ]
 by_cases e:r=id
 ·subst e;rw[uQ]at hid;cases hs:J[r]? with
  | none=>rw[hs]at hid;cases hid
  | some y=>rw[hs]at hid;cases hid;simp[Ob.refs]at hx
 ·rw[ay e]at hid;exact h id o hid j x hx
theorem Ng{J:ae}{K:Exit→St→Prop}(r g b:Nat)(id:Int)(kV:r<J.length)(bz:bG J)(hb:J[b]?=some (.box 3 [.i .i64 id]))(X5:r≠b)(n:Nat)(hn:n<2^30):∀ (rest out junk:List (Int×Int)) (z:Int×Int),out.length+(junk.length+1)+rest.length=n →
  (∀ junk':List (Int×Int),(out++fP id rest).length+junk'.length=n→((fh (.own r g) (fj 4 (fh (.i .i64 (out++fP id rest).length) (fj 36 fo)))) fun ZZ=>K (.exit 0) ⟨ZZ,J.set r (ux g ((out++fP id rest)++junk'))⟩)) →
  gw J.length prog sL K (rest.length+1) ⟨(.own r g::.fn 202 [.ptr b 0]::uu 3 (.i .i64 out.length::.i .i64 (out.length+(junk.length+1):Nat)::uu 35 [])),J.set r (ux g (out++z::(junk++rest)))⟩:=by
 have g1:∀ K X,(J.set r K++X)[r]?=some K:=fun K X=>by rw[ag (by rw[cJ];exact kV)];exact ak kV
 have g0:∀ K:Ob,(J.set r K)[r]?=some K:=fun K=>ak kV;have gb:∀ K X,(J.set r K++X)[b]?=some (.box 3 [.i .i64 id]):=fun K X=>by rw[ag (by rw[cJ];exact(ab.1 hb).1),ay X5];exact hb
 have gs:∀ K K' X,(J.set r K++X).set r K'=J.set r K'++X:=fun K K' X=>by rw[dD _ _ (by rw[cJ];exact kV),List.set_set]
 have gl:∀ K:Ob,(J.set r K).length=J.length:=fun K=>cJ
 have YS:V.Lt J.length (V.fn 202 [V.ptr b 0]):=by
  refine .fn _ _ fun i x hx=>?_;rcases i with _ | i
  ·cases hx;exact .ptr _ _ (ab.1 hb).1
  ·cases hx
 have gk:∀ K X,(J.set r K++X)[J.length]?=X[0]?:=fun K X=>by rw[aw (by rw[cJ];exact aq _),cJ,eQ]
 have gu:∀ K X o,(J.set r K++X).set J.length o=J.set r K++X.set 0 o:=fun K X o=>by rw[bZ _ _ (by rw[cJ];exact aq _),cJ,eQ]
 have back:∀ {N:Nat} {fr fr':List V} (os:List (List V)) {o:Ob},qJ fr fr'→eF (J.length) fr'→gw J.length prog sL K N ⟨fr',J.set r (.row 190 2 16 g false os)⟩→gw J.length prog sL K N ⟨fr,J.set r (.row 190 2 16 g false os)++[o]⟩:=fun os o hc hl k=>by
  have e:=bR (P:=prog) (K:=K) (J:=J.set r (.row 190 2 16 g false os)) [] [o] (by rw[bF];exact qj bz _ _ _ _ _ _ _) hc (by rw[gl];exact hl) (by rw[gl,bF];exact k);rw[gl]at e;exact e
 intro rest
 induction rest with
 | nil =>
  intro out junk z e1 h1;have e0:fP id []=[]:=rfl;rw[e0,bF]at h1;rw[bF];have hd:decide (((out.length+(junk.length+1):Nat):Int)<((out++z::junk).length:Int))=false:=by simp
  refine aH fun R hR=>?_;simp only[sL,ux,g0,hd,aj,VV,seval];exact h1 (z::junk) (by simpa using e1) ..
 | cons y rest ih =>
  intro out junk z e1 h1;simp only[ai]at e1;have hL:(out++z::(junk++y::rest)).length=n:=by simp;omega
  have f1:((out.length+(junk.length+1):Nat):Int)<((out++z::(junk++y::rest)).length:Int):=by rw[hL];omega
  have f2:((out.length:Nat):Int)<((out++z::(junk++y::rest)).length:Int):=by rw[hL];omega
  have hd:decide (((out.length+(junk.length+1):Nat):Int)<((out++z::(junk++y::rest)).length:Int))=true:=Bf f1;have f0:(0:Int)≤((out.length+(junk.length+1):Nat):Int):=by omega
  have eJ:=Te (l:=out++z::(junk++y::rest)) (i:=out.length+(junk.length+1)) (x:=y) (by rw[aw (by omega)];simp);have iS:=Qf (out++z::(junk++y::rest)) out.length y;have XX:(out++z::(junk++y::rest)).set out.length y=(out++[y])++(junk++y::rest):=by rw[bZ _ _ (aq _)];simp
  rw[XX]at iS;have hw:IntKind.i64.wrap ((out.length:Int)+1)=(((out++[y]).length:Nat):Int):=by rw[br (by omega)];simp
  have Bn:IntKind.i64.wrap (((out.length+(junk.length+1):Nat):Int)+1)=((out.length+(junk.length+1)+1:Nat):Int):=by rw[br (by omega)]
  simp only[oA]at eJ iS;refine aH fun R hR=>?_;simp only[sL,ux,g0,g1,gl,gk,gu,f0,f1,eJ,Mq,aj,aX,VV,seval];refine rX rfl (by kernel_rfl) (Pc y id b _ (gb _ _)) (by simp only[oA,VV,seval]) ?_;simp only[g1,gs,gl,gk,gu,hw,Bn,f2,iS,aj,aX,V.pure,VV,seval];refine⟨fun h=>⟨by omega,by rw[hL];omega,?_⟩,fun h=>?_⟩
  ·have EC:fP id (y::rest)=y::fP id rest:=by simp only[fP];rw[ga (by simpa using h)]
   obtain⟨z',junk',ez⟩:∃ z' junk',junk++[y]=z'::junk':=by cases junk<;>exact⟨_,_,rfl⟩
   have ej:junk'.length=junk.length:=by have:=congrArg List.length ez;simpa using this.symm
   have e2:junk++y::rest=z'::(junk'++rest):=by rw[show junk++y::rest=(junk++[y])++rest by simp,ez];rfl
   have e3:((List.map oA (out++z::(junk++y::rest))).set out.length (V.i IntKind.i64 y.fst::V.i IntKind.i64 y.snd::List.drop 2 (oA z)))=(out++[y]++z'::(junk'++rest)).map oA:=by rw[← e2];exact iS
   have e4:out.length+(junk.length+1)+1=(out++[y]).length+(junk'.length+1):=by simp;omega
   rw[e3,e4]
   have k:=ih (out++[y]) junk' z' (by simp;omega) (fun j hj=>by
    have e5:out++[y]++fP id rest=out++fP id (y::rest):=by rw[EC];simp
    rw[e5]at hj ⊢;exact h1 j hj)
   exact hR _ (back _ (by repeat' constructor) (by simp only[LW];exact⟨kV,YS⟩) k)
  ·have EC:fP id (y::rest)=fP id rest:=by simp only[fP];rw[iW (by simpa using h)]
   have e4:out.length+(junk.length+1)+1=out.length+((junk++[y]).length+1):=by simp;omega
   rw[e4]
   have k:=ih out (junk++[y]) z (by simp;omega) (fun j hj=>by
    rw[← EC]at hj ⊢;exact h1 j hj)
   rw[show junk++[y]++rest=junk++y::rest by simp]at k;exact hR _ (back _ (by repeat' constructor) (by simp only[LW];exact⟨kV,YS⟩) k)
theorem RT(r g b:Nat)(id:Int)(X5:r≠b)(l:List (Int×Int))(hl:l.length<2^30)(J:ae)(hb:J[b]?=some (.box 3 [.i .i64 id]))(hr:J[r]?=some (ux g l)):
  PC prog 201 [.own r g,.fn 202 [.ptr b 0]] J (fun v J'=>∃ g',v=.own r g'∧J'=J.set r (ux g' (fP id l))):=by
 have kV:r<J.length:=(ab.1 hr).1;have g1:∀ K:Ob,(J.set r K)[r]?=some K:=fun K=>ak kV;have gl:∀ K:Ob,(J.set r K).length=J.length:=fun K=>cJ;have iS:J.set r (ux g l)=J:=tI hr;refine PC.intro func201 Zv fun bz er=>aB ?_;simp only[TD,SS,seval];simp only[VV,seval];refine fJ (Kw r g b id l hl J hb hr) rfl fun v J' hv=>?_;obtain⟨e0,hv⟩:=hv;rw[e0];rcases hv with⟨e1,rfl⟩ | ⟨p,x,q,e1,e2,e3,rfl⟩
 ·simp only[VV,seval];exact fO (.inr rfl) rfl (Wk.refl _ _) rfl ⟨g,rfl,by rw[e1,iS]⟩
 ·subst e1;have hw:IntKind.i64.wrap (((p.length:Nat):Int)+1)=((p.length+(([]:List (Int×Int)).length+1):Nat):Int):=by rw[br (by simp at hl;omega)];rfl
  have gr:((p.length:Int) == -1)=false:=by simp
  simp only[hw,gr,VV,seval];have k:=fun KK h1=>Ng (K:=KK) r g b id kV bz hb X5 (p++x::q).length hl q p [] x (by simp;omega) h1;rw[bh,iS]at k;refine cE.bk (by repeat' constructor) (q.length+1) (k _ fun junk hj=>?_);simp only[JE];intros;have g2:J.set r (.row 190 2 16 g false (List.map oA (p++fP id q++junk)))=J.set r (ux g (p++fP id q++junk)):=rfl;simp only[ux,g1,aj,aX,List.set_set,VV,seval];refine⟨⟨by omega,by simp;omega,by omega⟩,⟨by omega,by simp;omega⟩,?_⟩;refine fO (.inr rfl) rfl (Wk.SR (g1 _) 0 rfl) rfl ⟨g+1,rfl,?_⟩
  have ef:fP id (p++x::q)=p++fP id q:=by
   simp only[fP]at e2 ⊢;rw[gT,e2,iW (by simp[e3])]
  rw[List.set_set,ef];congr 2;rw[dC (by simp),qP,Nat.min_self,← List.append_assoc,cQ,dC (by simp),ca (by simp)]
theorem vn(r g:Nat)(id:Int)(l:List (Int×Int))(hl:l.length<2^30)(J:ae)(hr:J[r]?=some (ux g l)):
  PC prog 135 [.own r g,.i .i64 id] J (fun v J'=>∃ g',v=.own r g'∧J'=J.set r (ux g' (fP id l))):=by
 have kV:r<J.length:=(ab.1 hr).1;refine PC.intro func135 ZY fun bz er=>aB ?_;simp only[Ub,SS,seval];simp only[VV,seval];refine fJ (RT r g J.length id (by omega) l hl (J++[.box 3 [.i .i64 id]]) (by simp) (by rw[ag kV];exact hr)) rfl fun v J' hv=>?_;obtain⟨g',rfl,rfl⟩:=hv;rw[dD _ _ kV];simp only[VV,seval];exact fO (.inr rfl) rfl (Wk.xc (by simp) (qj bz _ _ _ _ _ _ _) (dN.1 (by simp only[LW];simpa using kV))) rfl ⟨g',rfl,rfl⟩
end Go.Proofs.Tryz

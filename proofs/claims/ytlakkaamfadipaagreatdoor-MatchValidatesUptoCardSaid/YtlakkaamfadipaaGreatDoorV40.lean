/- A part of a proof; the claim's last text says of what. -/
import Derived.Test.YtlakkaamfadipaaGreatDoorV33
import Derived.Test.YtlakkaamfadipaaGreatDoorV36
import Derived.Test.YtlakkaamfadipaaGreatDoorV37
import Derived.Test.YtlakkaamfadipaaGreatDoorV39
set_option linter.all false

set_option maxRecDepth 4000
set_option maxHeartbeats 1000000
namespace Go.Proofs.Tryz
open Go Go.Pm Go.Bt
def mT(J:ae)(L:List LE)(G2:List (GK×(Nat×Nat)))(G3:List (TK×(Nat×Nat)))(next:Int)(g:Nat)(M:List kj)(T:ae):ae :=
 s6 J L G2 G3 (Pe J.length (.own (J.length+5) g) next) (js g M::T)
theorem S6:Ti prog 108 11 176:=nA (by kernel_rfl)
theorem KK(J:ae):PC prog 26 [] J (fun r J'=>r=.ptr (J.length+4) 0∧J'=mT J [] [] [] 0 0 [] []):=by
 refine PC.intro func26 c26 fun bz dH=>aB ?_;simp only[p26,SS,seval];simp only[VV,seval];refine aC (Kl _) rfl ?_;simp only[VV,seval];refine fM (.inr rfl) (by simp only[RS,seval];rfl) (Wk.yy (id:=J.length+4) (j:=1) (cs:=[.ptr (J.length+3) 0,.nil,.i .i64 0]) (T:=105) S6 (by simp) rfl) rfl ⟨rfl,?_⟩;simp[mT,s6,Pe,js,Eg,emap]
theorem Ou(e:En)(h1:e.ahu.length<2^40)(h2:e.ahB.length<2^40)(J:ae):PC prog 69 [.agg e.ahq] J (fun r J'=>r=.agg e.ahq∧J'=J):=by
 refine PC.intro func69 c69 fun bz dH=>aB ?_;simp only[p69,SS,seval];simp only[En.ahq,VV,seval];refine aC (rG e.ahu h1 _) rfl ?_;simp only[VV,seval];refine aC (rG e.ahB h2 _) rfl ?_;simp only[V.pure,VV,seval];exact bk bz (.inr rfl) (by simp only[RS,seval];rfl) (by simp[LW]) ⟨rfl,rfl⟩
theorem Rr(J:ae)(L:List LE)(G2:List (GK×(Nat×Nat)))(G3:List (TK×(Nat×Nat)))(next:Int)(g:Nat)(M:List kj)(T:ae)(hs:y9 M)(hl:M.length<2^30)(k:List UInt8)(X:ae):
  PC prog 68 [.ptr (J.length+4) 0,.s k] (mT J L G2 G3 next g M T++X) (fun r J'=>r=.fu [.i .i64 (lW M k),.b (decide (k∈M.map kj.key))]∧J'=mT J L G2 G3 next g M T++X):=by
 refine PC.intro func68 c68 fun bz dH=>aB ?_;simp only[p68,SS,seval];have hb:(mT J L G2 G3 next g M T++X)[J.length+4]?=some (Pe J.length (.own (J.length+5) g) next):=by simp[mT,s6]
 have hr:(mT J L G2 G3 next g M T++X)[J.length+5]?=some (js g M):=by simp[mT,s6]
 generalize mT J L G2 G3 next g M T++X=S at *
 simp only[Pe]at hb;simp only[hb,VV,seval];refine aC (U7 M hs k (J.length+5) g hl S hr) rfl ?_;simp only[VV,seval];exact fM (.inr rfl) rfl (Wk.refl _ _) rfl ⟨rfl,rfl⟩
theorem Gs(l:List kj)(x:kj)(id g:Nat)(hl:l.length<2^30)(J:ae)(h1:J[id]?=some (js g l)):
  PC prog 71 [.own id g,.i .i64 l.length,.sl 11 [x.ahq]] J (fun r J'=>r=.own id (g+1)∧J'=J.set id (js (g+1) (l++[x]))):=by
 refine PC.intro func71 c71 fun bz dH=>aB ?_;simp only[js]at h1;simp only[p71,SS,seval];simp only[h1,ah,VV,Int.reduceBEq,Int.reduceBNe,Nat.reduceAdd,Nat.reduceSub,Nat.reduceLeDiff,Nat.reduceEqDiff,Int.reduceToNat,reduceIte,reduceCtorEq];refine⟨⟨by omega,by omega⟩,fun h=>by simp at h,fun _=>⟨⟨by omega,by unfold maxLen;omega⟩,?_⟩⟩;exact fM (.inr rfl) rfl (Wk.refl _ _) rfl ⟨rfl,by simp[js]⟩
end Go.Proofs.Tryz
set_option maxRecDepth 8000
set_option maxHeartbeats 4000000
namespace Go.Proofs.Tryz
open Go Go.Pm Go.Bt
theorem Qw(l:List kj)(x:kj)(m id g:Nat)(hm:m=l.length)(hl:l.length<2^30)(J:ae)(h1:J[id]?=some (js g l)):
  PC prog 71 [.own id g,.i .i64 m,.sl 11 [x.ahq]] J (fun r J'=>r=.own id (g+1)∧J'=J.set id (js (g+1) (l.take m++x::l.drop m))):=by
 subst hm;have e:l.take l.length++x::l.drop l.length=l++[x]:=by simp
 rw[e];exact Gs l x id g hl J h1
theorem AL{α:Type}[DecidableEq α]{E n:Nat}{o o':Ob}{T X:ae}{G:List (α×(Nat×Nat))}{f:α→List (Int×Int)}(h:Bt.jM E n (o::T) G f)(ho:∀ g ps,o≠gW E g ps):Bt.jM E n (o'::(T++X)) G f :=
 ⟨h.nodup,fun k r g hk=>by
  obtain⟨j,h1,h2⟩:=h.row k r g hk;cases j with
  | zero=>exact absurd (by simpa using h2) (ho g (f k))
  | succ j =>
   refine⟨j+1,h1,?_⟩;simp only[bF]at h2 ⊢;rw[ai (ab.1 h2).1];exact h2,h.D4,h.inj⟩
theorem C3.swap{n:Nat}{g:Nat}{M:List kj}{o':Ob}{T X:ae}{L:List LE}{G2:List (GK×(Nat×Nat))}{G3:List (TK×(Nat×Nat))}(h:C3 n (js g M::T) L G2 G3):C3 n (o'::(T++X)) L G2 G3 :=
 ⟨h.keys,h.ahE,fun e he=>by
  obtain⟨j,h1,h2⟩:=h.cls e he;cases j with
  | zero=>simp[js]at h2
  | succ j =>
   refine⟨j+1,h1,?_⟩;simp only[bF]at h2 ⊢;rw[ai (ab.1 h2).1];exact h2,
  AL h.p2 (fun g ps hh=>by simp[js,gW]at hh),AL h.p3 (fun g ps hh=>by simp[js,gW]at hh),h.dis⟩
theorem IB(J:ae)(L:List LE)(G2:List (GK×(Nat×Nat)))(G3:List (TK×(Nat×Nat)))(next:Int)(g:Nat)(M:List kj)(T X:ae):mT J L G2 G3 next g M T++X=s6 J L G2 G3 (Pe J.length (.own (J.length+5) g) next) (js g M::(T++X)):=by
 simp[mT,s6]
theorem JA(J:ae)(L:List LE)(G2:List (GK×(Nat×Nat)))(G3:List (TK×(Nat×Nat)))(next:Int)(hn:0≤next∧next<2^60)(g:Nat)(M:List kj)(T:ae)(hI:C3 J.length (js g M::T) L G2 G3)(hid:bS next L=none)(hL:L.length<1024)(hM:M.length<1024)(hs:y9 M)
  (e:En) (he:e.ahE) (h0:fk e=0) (jg:ez e ∉ M.map kj.key) (zU:lW M (ez e)=M.length) (XQ:(dR e.ahu).length<2^27) :
  PC prog 27 [.ptr (J.length+4) 0,.agg e.ahq] (mT J L G2 G3 next g M T) (fun r S'=>r=.i .i64 0∧∃ T' m G2' G3',S'=mT J (L++[(next,(dR e.ahu,m))]) G2' G3' (next+1) (g+1) (M.take (lW M (ez e))++⟨next,ez e,e,dR e.ahu⟩::M.drop (lW M (ez e))) T' ∧
   C3 J.length (js (g+1) (M.take (lW M (ez e))++⟨next,ez e,e,dR e.ahu⟩::M.drop (lW M (ez e)))::T') (L++[(next,(dR e.ahu,m))]) G2' G3'):=by
 refine PC.intro func27 c27 fun bz dH=>aB ?_;have e1:=he.ahu;have e2:=he.wx;have e3:=he.ahB;simp only[p27,SS,seval];simp only[En.ahq,↓IT,VV,seval];refine aC (p7 e he _) (by simp only[En.ahq,VV,seval]) ?_;simp only[h0,↓IT,VV,seval];refine aC (JL e he _) (by simp only[En.ahq,VV,seval]) ?_;simp only[↓IT,VV,seval];refine aC (Rr J L G2 G3 next g M T hs (by omega) (ez e) _) rfl ?_;have hd:decide (ez e∈M.map kj.key)=false:=zp jg;have Yc:decide ((1024:Int)≤(M.length:Int))=false:=by simp;omega
 have hw:IntKind.i64.wrap (next+1)=next+1:=IntWalk.i64_in _ (by omega)
 obtain⟨N,hlen⟩:∃ N,∀ nx g M,(mT J L G2 G3 nx g M T).length=N:=⟨J.length+(T.length+6),fun nx g M=>by simp[mT,s6]⟩;have Zk:∀ nx g M X,(mT J L G2 G3 nx g M T++X)[N]?=X[0]?:=fun nx g M X=>by rw[← hlen nx g M,aH (au _)];simp
 have Zi:∀ nx g M X j,(mT J L G2 G3 nx g M T++X)[N+j]?=X[j]?:=fun nx g M X j=>by rw[← hlen nx g M,aH (by omega)];simp
 have Vp:∀ nx g M X j o,(mT J L G2 G3 nx g M T++X).set (N+j) o=mT J L G2 G3 nx g M T++X.set j o:=fun nx g M X j o=>by rw[← hlen nx g M,cI _ _ (by omega)];simp
 have Vq:∀ nx g M X o,(mT J L G2 G3 nx g M T++X).set N o=mT J L G2 G3 nx g M T++X.set 0 o:=fun nx g M X o=>by rw[← hlen nx g M,cI _ _ (au _)];simp
 have hb:∀ nx g M X,(mT J L G2 G3 nx g M T++X)[J.length+4]?=some (.box 105 [.ptr (J.length+3) 0,.own (J.length+5) g,.i .i64 nx]):=fun nx g M X=>by simp[mT,s6,Pe]
 have hr:∀ nx g M X,(mT J L G2 G3 nx g M T++X)[J.length+5]?=some (.row 108 11 176 g false (M.map kj.ahq)):=fun nx g M X=>by simp[mT,s6,js]
 have mG:∀ nx nx' g M X,(mT J L G2 G3 nx g M T++X).set (J.length+4) (.box 105 [.ptr (J.length+3) 0,.own (J.length+5) g,.i .i64 nx'])=mT J L G2 G3 nx' g M T++X:=fun nx nx' g M X=>by simp[mT,s6,Pe]
 have aaI:∀ nx g g' M M' X,((mT J L G2 G3 nx g M T++X).set (J.length+5) (js g' M')).set (J.length+4) (.box 105 [.ptr (J.length+3) 0,.own (J.length+5) g',.i .i64 nx])=mT J L G2 G3 nx g' M' T++X:=fun nx g g' M M' X=>by simp[mT,s6,Pe]
 generalize hM':M.take (lW M (ez e))++⟨next,ez e,e,dR e.ahu⟩::M.drop (lW M (ez e))=M';simp only[hlen,Zk,Zi,Vq,Vp,hb,hr,hd,Yc,ah,↓IT,VV,seval];intro X;refine aC (Ou e (by omega) (by omega) _) (by simp only[En.ahq,VV,seval]) ?_;simp only[En.ahq,hlen,Zk,Zi,Vq,Vp,hb,hr,↓IT,VV,seval];intro X2;refine aC (qA e.ahu (by omega) (by omega) _) rfl ?_;simp only[En.ahq,hw,mG,hlen,Zk,Zi,Vq,Vp,hb,hr,↓IT,V.pure,VV,seval];refine ly (zs:=[.own (J.length+5) g,.i .i64 (lW M (ez e)),.sl 11 [kj.ahq ⟨next,ez e,e,dR e.ahu⟩]]) (.cons (.refl _) (.cons (.refl _) (.cons (.lit _ _) .nil))) (Qw M ⟨next,ez e,e,dR e.ahu⟩ (lW M (ez e)) (J.length+5) g zU (by omega) _ (hr _ _ _ _)) ?_;rw[hM'];have jA:∀ nx g M X o,((mT J L G2 G3 nx g M T++X).set (J.length+5) o)[J.length+4]?=some (.box 105 [.ptr (J.length+3) 0,.own (J.length+5) g,.i .i64 nx]):=fun nx g M X o=>by rw[aK (by omega)];exact hb ..
 simp only[En.ahq,jA,aaI,hlen,Zk,Zi,Vq,Vp,hb,↓IT,V.pure,VV,seval];refine⟨?_,?_⟩
 ·have dp:J.length+5<(mT J L G2 G3 (next+1) g M T++[Ob.box 37 [.sl 3 (e.ahu.map It.ahq),.sl 3 (e.ahB.map It.ahq),.s e.bM,.s e.next,.s e.cY,.s e.cE,.i .i64 e.ahD,.i .i64 e.ahI],Ob.box 108 [.i .i64 next,.s (ez e),.sl 3 (e.ahu.map It.ahq),.sl 3 (e.ahB.map It.ahq),.s e.bM,.s e.next,.s e.cY,.s e.cE,.i .i64 e.ahD,.i .i64 e.ahI,.sl 3 ((dR e.ahu).map It.ahq)]]).length:=(ab.1 (hr (next+1) g M _)).1;rw[ao dp];simp[js]
 rw[IB];refine db (Km _ _ L G2 G3 J hI.swap next hid hL (dR e.ahu) XQ) rfl ?_;rintro r S' ⟨rfl,T',m,G2',G3',rfl,hI',hG⟩;have Kq:T'[0]?=some (js (g+1) M'):=hG.2 0 _ rfl (by simp[js,still])
 obtain⟨T2,rfl⟩:∃ T2,T'=js (g+1) M'::T2:=by
  cases T' with
  | nil=>simp at Kq
  | cons o T2=>simp only[aq,aa]at Kq;exact⟨T2,by rw[Kq]⟩
 simp only[↓IT,VV,seval];exact fM (.inr rfl) rfl (Wk.refl _ _) rfl ⟨rfl,T2,m,G2',G3',rfl,hI'⟩
end Go.Proofs.Tryz
set_option maxRecDepth 4000
set_option maxHeartbeats 1000000
namespace Go.Proofs.Tryz
open Go Go.Pm Go.Bt
theorem nJ{S:ae}{i:Nat}{o:Ob}(h:S[i]?=some o)(l:ae):(S++l)[i]?=some o:=by
 rw[ai (ab.1 h).1];exact h
theorem RM{S:ae}(x m1 m2 m3:Nat)(hx:S[x]?=some (.box 170 [.mp m1,.mp m2,.mp m3]))(L:List LE)(hLn:L.length<2^20)(h1:S[m1]?=some (.map 3 162 (emap ee zQ L)))(G2:List (GK×(Nat×Nat)))(f2:GK→List (Int×Int))(h2:S[m2]?=some (.map 184 185 (emap oh nC G2)))
  (No:∀ k r g,bS k G2=some (r,g)→S[r]?=some (gW 190 g (f2 k))) (GB:∀ k,bS k G2=none→f2 k=[]) (Eu:∀ k,∀ p∈f2 k,0≤p.2) (Ua:∀ k,(f2 k).length<2^30)
  (G3:List (TK×(Nat×Nat))) (f3:TK→List (Int×Int)) (h3:S[m3]?=some (.map 150 185 (emap ie nC G3)))
  (Nn:∀ k r g,bS k G3=some (r,g)→S[r]?=some (gW 190 g (f3 k))) (GA:∀ k,bS k G3=none→f3 k=[]) (Uc:∀ k,∀ p∈f3 k,0≤p.2) (T9:∀ k,(f3 k).length<2^30)
  (q:List It) (hl:q.length<2^27) (Cz:∀ g∈b9 (aS q),0≤g.2) (Iz:∀ p∈jK [] q,0≤p.2)
  (hm:iq (oc f2 (b9 (aS q)))+iq (od f3 (jK [] q))≤2^40) (p:Int) (hp : -(2^40)≤p∧p≤2^40)
  (hq:(gR q).ok (2^40)∧0≤gH q∧gH q≤2^40) (hL:∀ e∈L,(gR e.2.1).ok (2^40)∧0≤gH e.2.1∧gH e.2.1≤2^40) :
  PC prog 58 [.ptr x 0,.sl 3 (q.map It.ahq),.i .i64 p] S (fun r S'=>∃ (D:List (TK×Int)) (E:List LE),D.Perm (jK [] q)∧E.Perm L∧r=.sl 1 ((((E.filter (ru q (cZ (cZ [] (oc f2 (b9 (aS q)))) (od f3 D)) p)).map (·.1)).mergeSort fun x y=>decide (x≤y)).map b5)∧S'=S):=by
 refine PC.intro func58 c58 fun bz dH=>aB ?_;simp only[p58,SS,seval];simp only[VV,seval];refine aC (Au q hl _) rfl ?_;simp only[S9,qD,wC,VV,seval];generalize hT:[Ob.box 162 _,Ob.map 150 3 _,Ob.box 162 _,Ob.box 162 _]=T4;have hTl:T4.length=4:=by rw[← hT];rfl
 have e3:(S++T4)[S.length+1]?=some (.map 150 3 (emap ie ee (jK [] q))):=by rw[← hT];simp
 have e7:(S++T4)[S.length+3]?=some (.box 162 (qD q (S.length+1))):=by rw[← hT];simp[qD,wC]
 refine db (Jc (S:=S++T4) x m1 m2 m3 (S.length+1) (nJ hx _) G2 f2 (nJ h2 _) (fun k r g h=>nJ (No k r g h) _) GB Eu Ua G3 f3 (nJ h3 _) (fun k r g h=>nJ (Nn k r g h) _) GA Uc T9 q hl e3 Cz Iz hm) rfl ?_;rintro r S' ⟨D,ps,cur,hD,rfl,rfl⟩;have e8:∀ a b c,(S++T4++[a,b,c])[(S++T4).length+1]?=some b:=fun a b c=>by rw[aH (by omega)];simp
 have e8':=e8 (.box 162 (qD q (S.length+1))) (.map 3 160 (emap ee mg (cZ (cZ [] (oc f2 (b9 (aS q)))) (od f3 D)))) (.iter false (S.length+1) 3 (emap ie ee (jK [] q)).length ps cur);have e7':=nJ e7 [.box 162 (qD q (S.length+1)),.map 3 160 (emap ee mg (cZ (cZ [] (oc f2 (b9 (aS q)))) (od f3 D))),.iter false (S.length+1) 3 (emap ie ee (jK [] q)).length ps cur];have hx':=nJ (nJ hx T4) [.box 162 (qD q (S.length+1)),.map 3 160 (emap ee mg (cZ (cZ [] (oc f2 (b9 (aS q)))) (od f3 D))),.iter false (S.length+1) 3 (emap ie ee (jK [] q)).length ps cur];have h1':=nJ (nJ h1 T4) [.box 162 (qD q (S.length+1)),.map 3 160 (emap ee mg (cZ (cZ [] (oc f2 (b9 (aS q)))) (od f3 D))),.iter false (S.length+1) 3 (emap ie ee (jK [] q)).length ps cur];have Ns:∃ l7,S++T4++[.box 162 (qD q (S.length+1)),.map 3 160 (emap ee mg (cZ (cZ [] (oc f2 (b9 (aS q)))) (od f3 D))),.iter false (S.length+1) 3 (emap ie ee (jK [] q)).length ps cur]=S++l7:=⟨_,aY ..⟩;generalize S++T4++[Ob.box 162 (qD q (S.length+1)),.map 3 160 (emap ee mg (cZ (cZ [] (oc f2 (b9 (aS q)))) (od f3 D))),.iter false (S.length+1) 3 (emap ie ee (jK [] q)).length ps cur]=S5 at e8' e7' hx' h1' Ns ⊢;simp only[hx',h1',VV,seval];rw[ak]at e8'
 have Es:Lj (oc f2 (b9 (aS q))):=fun i hi=>by
  obtain⟨g,hg,hi⟩:=iu.1 hi;exact Ij (Cz g hg) (Eu _) i hi
 have Vr:Lj (od f3 D):=fun i hi=>by
  obtain⟨g,hg,hi⟩:=iu.1 hi;exact wE (Iz g (hD.mem_iff.1 hg)) (Uc _) i hi
 have hsD:iq (od f3 D)=iq (od f3 (jK [] q)):=pJ _ hD;have hO:OB (2^40) (cZ (cZ [] (oc f2 (b9 (aS q)))) (od f3 D)):=((OB.nil.apply _ Es).apply _ Vr).mono (by omega);refine cc.bd (fr':=(uu 2 (.i .i64 p::uu 4 (.ptr (S.length+3) 0::.mp (S.length+T4.length+1)::.nil::uu 11 (.it (S5.length+0)::uu 28 []))))) (by repeat' constructor) ((emap ee zQ L).length+1) (TA m1 (S.length+3) (S.length+T4.length+1) (S.length+1) L hLn h1' q e7' _ hO e8' p hp hq hL 0 _ (List.range (emap ee zQ L).length) none [] .nil [.iter false m1 162 (emap ee zQ L).length (List.range (emap ee zQ L).length) none] (by simp) lK (by simp[emap]) (by simp[emap]) (by simp) (.inl ⟨rfl,rfl⟩) ?_);rintro E v' T' hE Kw;rw[oo,my]at hE;rw[aW]at Kw;simp only[JE];intros;rcases Kw with⟨Gy,rfl⟩ | ⟨j,g,rfl,hj0,hj⟩
 ·simp only[VV,seval];refine aC (PC.PA Tryz.R9) rfl ?_;obtain⟨l7,rfl⟩:=Ns;simp only[aY,VV,seval];refine sN (ys:=[.sl 1 []]) bz (.inr rfl) (by simp only[RS,seval];rfl) ?_ ?_ ⟨D,E,hD,hE,by rw[Gy];simp;rfl,rfl⟩
  ·exact .cons (.nil _) .nil
  ·simp[LW]
 ·simp only[VV,seval];have hj':∀ o,(S5++T').set (S5.length+j) o=S5++T'.set j o:=fun o=>by rw[cI _ _ (by omega)];simp
  have hjx:(S5++T')[S5.length+j]?=T'[j]?:=by rw[aH (by omega)];simp
  have hEl:=hE.length_eq;have qN:=fa (ru q (cZ (cZ [] (oc f2 (b9 (aS q)))) (od f3 D)) p) E;refine aC (PC.L9 Tryz.R9 _ (by rw[ah];omega) (hjx.trans hj)) rfl ?_;rw[hj'];have kH:=(ab.1 hj).1;obtain⟨l7,rfl⟩:=Ns;simp only[aY,ak,VV,seval];refine pO (l7.length+j) bz (.inr rfl) (by simp only[RS,seval];rfl) (by rw[aH (by omega),cR,ao kH]) ?_ ⟨D,E,hD,hE,?_,rfl⟩
  ·simp[fz,rf,LW,mb]
  ·simp only[fz,rf,mb,az,bD];simp;rfl
end Go.Proofs.Tryz

/- A part of a proof; the claim's last text says of what. -/
import Derived.Test.YtlakkaamfadipaaGreatDoorS32
import Derived.Test.YtlakkaamfadipaaGreatDoorS36
import Derived.Test.YtlakkaamfadipaaGreatDoorS37
import Derived.Test.YtlakkaamfadipaaGreatDoorS39
set_option linter.all false

set_option maxRecDepth 4000
set_option maxHeartbeats 1000000
namespace Go.Proofs.Tryz
open Go Go.Pm Go.Bt
def mT(J:ae)(L:List LE)(G2:List (GK×(Nat×Nat)))(G3:List (TK×(Nat×Nat)))(next:Int)(g:Nat)(M:List kn)(T:ae):ae :=
 tM J L G2 G3 (PO J.length (.own (J.length+5) g) next) (jm g M::T)
theorem TI:Ti prog 108 11 176:=lN (by kernel_rfl)
theorem LI(J:ae):PC prog 26 [] J (fun r J'=>r=.ptr (J.length+4) 0∧J'=mT J [] [] [] 0 0 [] []):=by
 refine PC.intro func26 c26 fun bj dx=>ax ?_;simp only[p26,SS,seval];simp only[VV,seval];refine az (Ld _) rfl ?_;simp only[VV,seval];refine eP (.inr rfl) (by simp only[RS,seval];rfl) (Wk.zx (id:=J.length+4) (j:=1) (cs:=[.ptr (J.length+3) 0,.nil,.i .i64 0]) (T:=105) TI (by simp) rfl) rfl ⟨rfl,?_⟩;simp[mT,tM,PO,jm,Fc,emap]
theorem O4(e:En)(h1:e.aia.length<2^40)(h2:e.aii.length<2^40)(J:ae):PC prog 69 [.agg e.ah7] J (fun r J'=>r=.agg e.ah7∧J'=J):=by
 refine PC.intro func69 c69 fun bj dx=>ax ?_;simp only[p69,SS,seval];simp only[En.ah7,VV,seval];refine az (si e.aia h1 _) rfl ?_;simp only[VV,seval];refine az (si e.aii h2 _) rfl ?_;simp only[V.pure,VV,seval];exact bF bj (.inr rfl) (by simp only[RS,seval];rfl) (by simp[LW]) ⟨rfl,rfl⟩
theorem R8(J:ae)(L:List LE)(G2:List (GK×(Nat×Nat)))(G3:List (TK×(Nat×Nat)))(next:Int)(g:Nat)(M:List kn)(T:ae)(hs:zZ M)(hl:M.length<2^30)(k:List UInt8)(X:ae):
  PC prog 68 [.ptr (J.length+4) 0,.s k] (mT J L G2 G3 next g M T++X) (fun r J'=>r=.fi [.i .i64 (lY M k),.b (decide (k∈M.map kn.key))]∧J'=mT J L G2 G3 next g M T++X):=by
 refine PC.intro func68 c68 fun bj dx=>ax ?_;simp only[p68,SS,seval];have hb:(mT J L G2 G3 next g M T++X)[J.length+4]?=some (PO J.length (.own (J.length+5) g) next):=by simp[mT,tM]
 have hr:(mT J L G2 G3 next g M T++X)[J.length+5]?=some (jm g M):=by simp[mT,tM]
 generalize mT J L G2 G3 next g M T++X=S at *
 simp only[PO]at hb;simp only[hb,VV,seval];refine az (VJ M hs k (J.length+5) g hl S hr) rfl ?_;simp only[VV,seval];exact eP (.inr rfl) rfl (Wk.refl _ _) rfl ⟨rfl,rfl⟩
theorem Ho(l:List kn)(x:kn)(id g:Nat)(hl:l.length<2^30)(J:ae)(h1:J[id]?=some (jm g l)):
  PC prog 71 [.own id g,.i .i64 l.length,.sl 11 [x.ah7]] J (fun r J'=>r=.own id (g+1)∧J'=J.set id (jm (g+1) (l++[x]))):=by
 refine PC.intro func71 c71 fun bj dx=>ax ?_;simp only[jm]at h1;simp only[p71,SS,seval];simp only[h1,ag,VV,Int.reduceBEq,Int.reduceBNe,Nat.reduceAdd,Nat.reduceSub,Nat.reduceLeDiff,Nat.reduceEqDiff,Int.reduceToNat,reduceIte,reduceCtorEq];refine⟨⟨by omega,by omega⟩,fun h=>by simp at h,fun _=>⟨⟨by omega,by unfold maxLen;omega⟩,?_⟩⟩;exact eP (.inr rfl) rfl (Wk.refl _ _) rfl ⟨rfl,by simp[jm]⟩
end Go.Proofs.Tryz
set_option maxRecDepth 8000
set_option maxHeartbeats 4000000
namespace Go.Proofs.Tryz
open Go Go.Pm Go.Bt
theorem Q3(l:List kn)(x:kn)(m id g:Nat)(hm:m=l.length)(hl:l.length<2^30)(J:ae)(h1:J[id]?=some (jm g l)):
  PC prog 71 [.own id g,.i .i64 m,.sl 11 [x.ah7]] J (fun r J'=>r=.own id (g+1)∧J'=J.set id (jm (g+1) (l.take m++x::l.drop m))):=by
 subst hm;have e:l.take l.length++x::l.drop l.length=l++[x]:=by simp
 rw[e];exact Ho l x id g hl J h1
theorem Bp{α:Type}[DecidableEq α]{E n:Nat}{o o':Ob}{T X:ae}{G:List (α×(Nat×Nat))}{f:α→List (Int×Int)}(h:Bt.jJ E n (o::T) G f)(ho:∀ g ps,o≠gU E g ps):Bt.jJ E n (o'::(T++X)) G f :=
 ⟨h.nodup,fun k r g hk=>by
  obtain⟨j,h1,h2⟩:=h.row k r g hk;cases j with
  | zero=>exact absurd (by simpa using h2) (ho g (f k))
  | succ j =>
   refine⟨j+1,h1,?_⟩;simp only[bI]at h2 ⊢;rw[ah (ab.1 h2).1];exact h2,h.EX,h.inj⟩
theorem DL.swap{n:Nat}{g:Nat}{M:List kn}{o':Ob}{T X:ae}{L:List LE}{G2:List (GK×(Nat×Nat))}{G3:List (TK×(Nat×Nat))}(h:DL n (jm g M::T) L G2 G3):DL n (o'::(T++X)) L G2 G3 :=
 ⟨h.keys,h.aik,fun e he=>by
  obtain⟨j,h1,h2⟩:=h.cls e he;cases j with
  | zero=>simp[jm]at h2
  | succ j =>
   refine⟨j+1,h1,?_⟩;simp only[bI]at h2 ⊢;rw[ah (ab.1 h2).1];exact h2,
  Bp h.p2 (fun g ps hh=>by simp[jm,gU]at hh),Bp h.p3 (fun g ps hh=>by simp[jm,gU]at hh),h.dis⟩
theorem Ju(J:ae)(L:List LE)(G2:List (GK×(Nat×Nat)))(G3:List (TK×(Nat×Nat)))(next:Int)(g:Nat)(M:List kn)(T X:ae):mT J L G2 G3 next g M T++X=tM J L G2 G3 (PO J.length (.own (J.length+5) g) next) (jm g M::(T++X)):=by
 simp[mT,tM]
theorem Ks(J:ae)(L:List LE)(G2:List (GK×(Nat×Nat)))(G3:List (TK×(Nat×Nat)))(next:Int)(hn:0≤next∧next<2^60)(g:Nat)(M:List kn)(T:ae)(hI:DL J.length (jm g M::T) L G2 G3)(hid:bS next L=none)(hL:L.length<1024)(hM:M.length<1024)(hs:zZ M)
  (e:En) (he:e.aik) (h0:eB e=0) (jd:ek e ∉ M.map kn.key) (xb:lY M (ek e)=M.length) (htk:(cR e.aia).length<2^27) :
  PC prog 27 [.ptr (J.length+4) 0,.agg e.ah7] (mT J L G2 G3 next g M T) (fun r S'=>r=.i .i64 0∧∃ T' m G2' G3',S'=mT J (L++[(next,(cR e.aia,m))]) G2' G3' (next+1) (g+1) (M.take (lY M (ek e))++⟨next,ek e,e,cR e.aia⟩::M.drop (lY M (ek e))) T' ∧
   DL J.length (jm (g+1) (M.take (lY M (ek e))++⟨next,ek e,e,cR e.aia⟩::M.drop (lY M (ek e)))::T') (L++[(next,(cR e.aia,m))]) G2' G3'):=by
 refine PC.intro func27 c27 fun bj dx=>ax ?_;have e1:=he.aia;have e2:=he.xy;have e3:=he.aii;simp only[p27,SS,seval];simp only[En.ah7,↓IT,VV,seval];refine az (qu e he _) (by simp only[En.ah7,VV,seval]) ?_;simp only[h0,↓IT,VV,seval];refine az (KE e he _) (by simp only[En.ah7,VV,seval]) ?_;simp only[↓IT,VV,seval];refine az (R8 J L G2 G3 next g M T hs (by omega) (ek e) _) rfl ?_;have hd:decide (ek e∈M.map kn.key)=false:=Ah jd;have YU:decide ((1024:Int)≤(M.length:Int))=false:=by simp;omega
 have hw:IntKind.i64.wrap (next+1)=next+1:=IntWalk.i64_in _ (by omega)
 obtain⟨N,hlen⟩:∃ N,∀ nx g M,(mT J L G2 G3 nx g M T).length=N:=⟨J.length+(T.length+6),fun nx g M=>by simp[mT,tM]⟩;have Z4:∀ nx g M X,(mT J L G2 G3 nx g M T++X)[N]?=X[0]?:=fun nx g M X=>by rw[← hlen nx g M,aA (aq _)];simp
 have Z2:∀ nx g M X j,(mT J L G2 G3 nx g M T++X)[N+j]?=X[j]?:=fun nx g M X j=>by rw[← hlen nx g M,aA (by omega)];simp
 have V0:∀ nx g M X j o,(mT J L G2 G3 nx g M T++X).set (N+j) o=mT J L G2 G3 nx g M T++X.set j o:=fun nx g M X j o=>by rw[← hlen nx g M,cd _ _ (by omega)];simp
 have V1:∀ nx g M X o,(mT J L G2 G3 nx g M T++X).set N o=mT J L G2 G3 nx g M T++X.set 0 o:=fun nx g M X o=>by rw[← hlen nx g M,cd _ _ (aq _)];simp
 have hb:∀ nx g M X,(mT J L G2 G3 nx g M T++X)[J.length+4]?=some (.box 105 [.ptr (J.length+3) 0,.own (J.length+5) g,.i .i64 nx]):=fun nx g M X=>by simp[mT,tM,PO]
 have hr:∀ nx g M X,(mT J L G2 G3 nx g M T++X)[J.length+5]?=some (.row 108 11 176 g false (M.map kn.ah7)):=fun nx g M X=>by simp[mT,tM,jm]
 have mF:∀ nx nx' g M X,(mT J L G2 G3 nx g M T++X).set (J.length+4) (.box 105 [.ptr (J.length+3) 0,.own (J.length+5) g,.i .i64 nx'])=mT J L G2 G3 nx' g M T++X:=fun nx nx' g M X=>by simp[mT,tM,PO]
 have abv:∀ nx g g' M M' X,((mT J L G2 G3 nx g M T++X).set (J.length+5) (jm g' M')).set (J.length+4) (.box 105 [.ptr (J.length+3) 0,.own (J.length+5) g',.i .i64 nx])=mT J L G2 G3 nx g' M' T++X:=fun nx g g' M M' X=>by simp[mT,tM,PO]
 generalize hM':M.take (lY M (ek e))++⟨next,ek e,e,cR e.aia⟩::M.drop (lY M (ek e))=M';simp only[hlen,Z4,Z2,V1,V0,hb,hr,hd,YU,ag,↓IT,VV,seval];intro X;refine az (O4 e (by omega) (by omega) _) (by simp only[En.ah7,VV,seval]) ?_;simp only[En.ah7,hlen,Z4,Z2,V1,V0,hb,hr,↓IT,VV,seval];intro X2;refine az (qV e.aia (by omega) (by omega) _) rfl ?_;simp only[En.ah7,hw,mF,hlen,Z4,Z2,V1,V0,hb,hr,↓IT,V.pure,VV,seval];refine lx (zs:=[.own (J.length+5) g,.i .i64 (lY M (ek e)),.sl 11 [kn.ah7 ⟨next,ek e,e,cR e.aia⟩]]) (.cons (.refl _) (.cons (.refl _) (.cons (.lit _ _) .nil))) (Q3 M ⟨next,ek e,e,cR e.aia⟩ (lY M (ek e)) (J.length+5) g xb (by omega) _ (hr _ _ _ _)) ?_;rw[hM'];have jr:∀ nx g M X o,((mT J L G2 G3 nx g M T++X).set (J.length+5) o)[J.length+4]?=some (.box 105 [.ptr (J.length+3) 0,.own (J.length+5) g,.i .i64 nx]):=fun nx g M X o=>by rw[aJ (by omega)];exact hb ..
 simp only[En.ah7,jr,abv,hlen,Z4,Z2,V1,V0,hb,↓IT,V.pure,VV,seval];refine⟨?_,?_⟩
 ·have dc:J.length+5<(mT J L G2 G3 (next+1) g M T++[Ob.box 37 [.sl 3 (e.aia.map It.ah7),.sl 3 (e.aii.map It.ah7),.s e.bQ,.s e.next,.s e.cJ,.s e.b8,.i .i64 e.aif,.i .i64 e.ail],Ob.box 108 [.i .i64 next,.s (ek e),.sl 3 (e.aia.map It.ah7),.sl 3 (e.aii.map It.ah7),.s e.bQ,.s e.next,.s e.cJ,.s e.b8,.i .i64 e.aif,.i .i64 e.ail,.sl 3 ((cR e.aia).map It.ah7)]]).length:=(ab.1 (hr (next+1) g M _)).1;rw[ar dc];simp[jm]
 rw[Ju];refine cm (Lf _ _ L G2 G3 J hI.swap next hid hL (cR e.aia) htk) rfl ?_;rintro r S' ⟨rfl,T',m,G2',G3',rfl,hI',hG⟩;have Lj:T'[0]?=some (jm (g+1) M'):=hG.2 0 _ rfl (by simp[jm,still])
 obtain⟨T2,rfl⟩:∃ T2,T'=jm (g+1) M'::T2:=by
  cases T' with
  | nil=>simp at Lj
  | cons o T2=>simp only[aw,aa]at Lj;exact⟨T2,by rw[Lj]⟩
 simp only[↓IT,VV,seval];exact eP (.inr rfl) rfl (Wk.refl _ _) rfl ⟨rfl,T2,m,G2',G3',rfl,hI'⟩
end Go.Proofs.Tryz
set_option maxRecDepth 4000
set_option maxHeartbeats 1000000
namespace Go.Proofs.Tryz
open Go Go.Pm Go.Bt
theorem nS{S:ae}{i:Nat}{o:Ob}(h:S[i]?=some o)(l:ae):(S++l)[i]?=some o:=by
 rw[ah (ab.1 h).1];exact h
theorem Sl{S:ae}(x m1 m2 m3:Nat)(hx:S[x]?=some (.box 170 [.mp m1,.mp m2,.mp m3]))(L:List LE)(hLn:L.length<2^20)(h1:S[m1]?=some (.map 3 162 (emap dX AH L)))(G2:List (GK×(Nat×Nat)))(f2:GK→List (Int×Int))(h2:S[m2]?=some (.map 184 185 (emap oC nK G2)))
  (N2:∀ k r g,bS k G2=some (r,g)→S[r]?=some (gU 190 g (f2 k))) (Hv:∀ k,bS k G2=none→f2 k=[]) (Fu:∀ k,∀ p∈f2 k,0≤p.2) (UQ:∀ k,(f2 k).length<2^30)
  (G3:List (TK×(Nat×Nat))) (f3:TK→List (Int×Int)) (h3:S[m3]?=some (.map 150 185 (emap ij nK G3)))
  (N1:∀ k r g,bS k G3=some (r,g)→S[r]?=some (gU 190 g (f3 k))) (Hu:∀ k,bS k G3=none→f3 k=[]) (UR:∀ k,∀ p∈f3 k,0≤p.2) (UP:∀ k,(f3 k).length<2^30)
  (q:List It) (hl:q.length<2^27) (Dh:∀ g∈cg (aP q),0≤g.2) (Js:∀ p∈jH [] q,0≤p.2)
  (hm:iq (oz f2 (cg (aP q)))+iq (oA f3 (jH [] q))≤2^40) (p:Int) (hp : -(2^40)≤p∧p≤2^40)
  (hq:(gQ q).ok (2^40)∧0≤fI q∧fI q≤2^40) (hL:∀ e∈L,(gQ e.2.1).ok (2^40)∧0≤fI e.2.1∧fI e.2.1≤2^40) :
  PC prog 58 [.ptr x 0,.sl 3 (q.map It.ah7),.i .i64 p] S (fun r S'=>∃ (D:List (TK×Int)) (E:List LE),D.Perm (jH [] q)∧E.Perm L∧r=.sl 1 ((((E.filter (rW q (cZ (cZ [] (oz f2 (cg (aP q)))) (oA f3 D)) p)).map (·.1)).mergeSort fun x y=>decide (x≤y)).map bR)∧S'=S):=by
 refine PC.intro func58 c58 fun bj dx=>ax ?_;simp only[p58,SS,seval];simp only[VV,seval];refine az (A9 q hl _) rfl ?_;simp only[TR,qY,xC,VV,seval];generalize hT:[Ob.box 162 _,Ob.map 150 3 _,Ob.box 162 _,Ob.box 162 _]=T4;have hTl:T4.length=4:=by rw[← hT];rfl
 have e3:(S++T4)[S.length+1]?=some (.map 150 3 (emap ij dX (jH [] q))):=by rw[← hT];simp
 have e7:(S++T4)[S.length+3]?=some (.box 162 (qY q (S.length+1))):=by rw[← hT];simp[qY,xC]
 refine cm (J7 (S:=S++T4) x m1 m2 m3 (S.length+1) (nS hx _) G2 f2 (nS h2 _) (fun k r g h=>nS (N2 k r g h) _) Hv Fu UQ G3 f3 (nS h3 _) (fun k r g h=>nS (N1 k r g h) _) Hu UR UP q hl e3 Dh Js hm) rfl ?_;rintro r S' ⟨D,ps,cur,hD,rfl,rfl⟩;have e8:∀ a b c,(S++T4++[a,b,c])[(S++T4).length+1]?=some b:=fun a b c=>by rw[aA (by omega)];simp
 have e8':=e8 (.box 162 (qY q (S.length+1))) (.map 3 160 (emap dX mh (cZ (cZ [] (oz f2 (cg (aP q)))) (oA f3 D)))) (.iter false (S.length+1) 3 (emap ij dX (jH [] q)).length ps cur);have e7':=nS e7 [.box 162 (qY q (S.length+1)),.map 3 160 (emap dX mh (cZ (cZ [] (oz f2 (cg (aP q)))) (oA f3 D))),.iter false (S.length+1) 3 (emap ij dX (jH [] q)).length ps cur];have hx':=nS (nS hx T4) [.box 162 (qY q (S.length+1)),.map 3 160 (emap dX mh (cZ (cZ [] (oz f2 (cg (aP q)))) (oA f3 D))),.iter false (S.length+1) 3 (emap ij dX (jH [] q)).length ps cur];have h1':=nS (nS h1 T4) [.box 162 (qY q (S.length+1)),.map 3 160 (emap dX mh (cZ (cZ [] (oz f2 (cg (aP q)))) (oA f3 D))),.iter false (S.length+1) 3 (emap ij dX (jH [] q)).length ps cur];have N6:∃ l7,S++T4++[.box 162 (qY q (S.length+1)),.map 3 160 (emap dX mh (cZ (cZ [] (oz f2 (cg (aP q)))) (oA f3 D))),.iter false (S.length+1) 3 (emap ij dX (jH [] q)).length ps cur]=S++l7:=⟨_,aR ..⟩;generalize S++T4++[Ob.box 162 (qY q (S.length+1)),.map 3 160 (emap dX mh (cZ (cZ [] (oz f2 (cg (aP q)))) (oA f3 D))),.iter false (S.length+1) 3 (emap ij dX (jH [] q)).length ps cur]=S5 at e8' e7' hx' h1' N6 ⊢;simp only[hx',h1',VV,seval];rw[al]at e8'
 have Fq:Mb (oz f2 (cg (aP q))):=fun i hi=>by
  obtain⟨g,hg,hi⟩:=ir.1 hi;exact Jd (Dh g hg) (Fu _) i hi
 have V2:Mb (oA f3 D):=fun i hi=>by
  obtain⟨g,hg,hi⟩:=ir.1 hi;exact xD (Js g (hD.mem_iff.1 hg)) (UR _) i hi
 have hsD:iq (oA f3 D)=iq (oA f3 (jH [] q)):=pZ _ hD;have hO:OB (2^40) (cZ (cZ [] (oz f2 (cg (aP q)))) (oA f3 D)):=((OB.nil.apply _ Fq).apply _ V2).mono (by omega);refine b6.aZ (fr':=(uu 2 (.i .i64 p::uu 4 (.ptr (S.length+3) 0::.mp (S.length+T4.length+1)::.nil::uu 11 (.it (S5.length+0)::uu 28 []))))) (by repeat' constructor) ((emap dX AH L).length+1) (Ul m1 (S.length+3) (S.length+T4.length+1) (S.length+1) L hLn h1' q e7' _ hO e8' p hp hq hL 0 _ (List.range (emap dX AH L).length) none [] .nil [.iter false m1 162 (emap dX AH L).length (List.range (emap dX AH L).length) none] (by simp) lK (by simp[emap]) (by simp[emap]) (by simp) (.inl ⟨rfl,rfl⟩) ?_);rintro E v' T' hE Lr;rw[oF,mz]at hE;rw[bk]at Lr;simp only[JE];intros;rcases Lr with⟨Hs,rfl⟩ | ⟨j,g,rfl,hj0,hj⟩
 ·simp only[VV,seval];refine az (PC.Qa Tryz.SF) rfl ?_;obtain⟨l7,rfl⟩:=N6;simp only[aR,VV,seval];refine xz (ys:=[.sl 1 []]) bj (.inr rfl) (by simp only[RS,seval];rfl) ?_ ?_ ⟨D,E,hD,hE,by rw[Hs];simp;rfl,rfl⟩
  ·exact .cons (.nil _) .nil
  ·simp[LW]
 ·simp only[VV,seval];have hj':∀ o,(S5++T').set (S5.length+j) o=S5++T'.set j o:=fun o=>by rw[cd _ _ (by omega)];simp
  have hjx:(S5++T')[S5.length+j]?=T'[j]?:=by rw[aA (by omega)];simp
  have hEl:=hE.length_eq;have rq:=eU (rW q (cZ (cZ [] (oz f2 (cg (aP q)))) (oA f3 D)) p) E;refine az (PC.MS Tryz.SF _ (by rw[ag];omega) (hjx.trans hj)) rfl ?_;rw[hj'];have kI:=(ab.1 hj).1;obtain⟨l7,rfl⟩:=N6;simp only[aR,al,VV,seval];refine qc (l7.length+j) bj (.inr rfl) (by simp only[RS,seval];rfl) (by rw[aA (by omega),cU,ar kI]) ?_ ⟨D,E,hD,hE,?_,rfl⟩
  ·simp[fz,qD,LW,fF]
  ·simp only[fz,qD,fF,ay,bo];simp;rfl
end Go.Proofs.Tryz

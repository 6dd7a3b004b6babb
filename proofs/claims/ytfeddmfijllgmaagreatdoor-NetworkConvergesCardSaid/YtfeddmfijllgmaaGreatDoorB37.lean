/- A part of a proof; the claim's last text says of what. -/
import Derived.Test.YtfeddmfijllgmaaGreatDoorB36
set_option linter.all false
set_option maxHeartbeats 4000000
open Option renaming some->S
open Bool renaming true->θ,false->G
open Go.Proofs.Tryz renaming prog->κ
open List renaming length->Y

namespace Go.Proofs.Tryz
open Go Go.Pm Go.Bt Go.RowKit
variable(a:Nat)(n:Net)(X:List bO){k:Nat}{R:Ob}{U:aj}{T:bL}
theorem Ug{b:Nat}{m K B:Ob}(bc:bT (st2 U k b R m))(n:oJ U.length K)(p:oJ U.length B):bT (st2 U k b K B):=by
 have d:∀{g:aj} {a:Nat} {X c:Ob},bT (g.set a X)->oJ g.length c->bT (g.set a c):=by
  intro g a X c h q id T r e j x o;by_cases i:a=id
  .subst i;rw[jR]at e;split at e
   .split at e;.have:=fO e;subst this;rw[fT];exact q j x o
    cases e
   contradiction
  have:=h id T r (by rw[bN i]at e |-;exact e) j x o;simpa using this
 simp only[st2]at bc |-;by_cases f:k=b;.subst f;rw[l9]at bc |-;exact d bc n
 have l:bT ((U.set b m).set k K):=d bc (by rw[fT];exact n);rw[ru _ _ (EM f)]at l |-;exact d l (by rw[fT];exact p)
theorem acM{n k b:Nat}(h:Pl2 U k b)(B:n<=U.length)(D:k+1<U.length)(u v:V)(J:u.Lt U.length)(w:v.Lt U.length){K0 B0:Ob}(bc:bT (st2 U k b K0 B0))(i j:Int)(l:List aV)(M:l.length<2^29):∀(a c:List aV) (g:Nat) (L:List Let),l=c++a->L.length+a.length<2^30 ->(((fj 3 (fh (.ptr k 0) (fj 2 (fh (.ptr (k+1) 0) (fj 65 fo))))) λt=>T (.exit 0) ⟨t,st2 U k b (.box 29 [u,.own b (g+a.length),v]) (dm (g+a.length) (L++a.map (nU i j)))⟩)) ->gw n κ MS T (a.length+1) ⟨(uu 1 (.I i::.I j::.ptr k 0::uu 2 (.ptr (k+1) 0::uu 48 (.sl 13 (l.map aV.azR)::.I l.length::.I c.length::uu 14 [])))),st2 U k b (.box 29 [u,.own b g,v]) (dm g L)⟩:=by
 have H:=h.all;intro a;induction a with
 |nil =>intro c g L d p f;have d:=dL d;subst d;simp only[ai,cu,ar,bI]at f;refine az λR r=>?_;simp only[MS,dt,bZ,↓IT,VV,seval];exact f ..
 |cons x a ih =>
 intro c g L d p f;have N:=gY d;have C:=dD c x (by omega);have o:(List.map aV.azR l).getD c.length []=x.azR:=by rw[d];exact dR
 have E:(0:Int)<=(c.length:Int):=by omega
 have A:(c.length:Int)<(l.length:Int):=by omega
 simp only[ae]at p;refine az λR r=>?_;simp only[gy,qA]at o;simp only[MS,dm,H,o,C,E,A,bt,aa,V.pure,maxLen,ao,↓IT,VV,seval];refine⟨⟨by omega,by omega⟩,?_⟩;have K:L.map Let.azR++[[.I i,.I j,.I x.aY.time,.I x.aY.bS,.I x.aY.azW,.I x.azT,.sl 3 (x.azV.azZ.map It.azR),.sl 3 (x.azV.az0.map It.azR),.s x.azV.cM,.s x.azV.next,.s x.azV.eu,.s x.azV.dC,.I x.azV.aAb,.I x.azV.aAc,.sl 1 (x.az1.map cN)]]=(L++[nU i j x]).map Let.azR:=by simp[nU,Let.azR,gy,qA]
 rw[K];have F:g+(x::a).length=g+1+a.length:=by simp;omega
 have z:L++(x::a).map (nU i j)=(L++[nU i j x])++a.map (nU i j):=by simp
 rw[F,z]at f;have e:bT (st2 U k b (.box 29 [u,.own b (g+1),v]) (dm (g+1) (L++[nU i j x]))):=Ug bc (by
  simp only[oJ,ae,ai];intro q y m;rcases q with _|_|_|q<;>simp at m<;>subst m;.exact J
  .exact .own _ _ h.lb
  exact w) trivial;refine r _ (ub ((Wk.fw (ys:=(uu 1 (.I i::.I j::.ptr k 0::uu 2 (.ptr (k+1) 0::uu 48 (.sl 13 (l.map aV.azR)::.I l.length::.I (c++[x]).length::uu 14 []))))) (by repeat' constructor)).trans (Wk.lS (by rw[uA];exact B) e (ed.1 (by rw[uA];simp only[LW,h.lk,D])))) (ih (c++[x]) (g+1) (L++[nU i j x]) (by rw[d];simp) (by simp;omega) f))
theorem nh{a:aj}{c:aB}{d:List Rs}{b:Int}{Q:V->aj->Prop}(e:Y U=k)(bc:bT U)(g:mS ⟨c,U++a⟩ d=S [.agg [.nil,.nil,.nil],.I b])(f:Q (.jg [.agg Net.zero.azR,.I b]) U): zy κ k d Q .ret ⟨c,U++a⟩:=by subst e;exact gx (ys:=[.agg Net.zero.azR,.I b]) bc (.inr rfl) g (.cons (.iV (.cons (.nil 6) (.cons (.nil 15) (.cons (.nil 2) .nil)))) (.cons (.refl _) .nil)) (by simp only[Net.zero,Net.azR,LW]) f
def MX(lv:V)(b m:Nat)(L:List Let):V:=match lv with|.own ..=>.own b m|_=>.sl 15 (L.map Let.azR)
theorem afE{N M:Nat}{P:bG}{c:aJ}{b:St}(h:N=M)(a:gw k P c T N b):gw k P c T M b:=h▸a
theorem abJ(uj:X.length<2^30)(azY:List Let)(af:azY.length<2^28)(h:gh)(am:h.length<2^30)(i j:Nat)(v m:bO)(hi:X[i]?=some v)(hj:X[j]?=some m)(sn:bU)(l:List aV)(qw:l.length<2^28) (hS:∀J,bh κ 104 [.agg m.azR] J (.sl 1 (sn.map cN))) (U:∀J,bh κ 103 [.agg v.azR,.sl 1 (sn.map cN)] J (.sl 13 (l.map aV.azR))) (J:aj) (b g:Nat) (lv:V) (ad:(azY=[]/\lv=.lit 15 []/\J.length<=b)\/(lv=.own b g/\∃u:aj,b<u.length/\J=u.set b (dm g azY))) {Q:V->aj->Prop} (w:∀r o,(if(lB ⟨X,azY,h⟩ i j v.down m.down l).2=0
   then r=.jg [.agg [.sl 6 (X.map bO.azR),MX lv b (g+l.length) (azY++l.map (nU i j)),.sl 2 (h.map cF)],.I 0]/\o=J.set b (dm (g+l.length) (azY++l.map (nU i j)))
   else r=.jg [.agg Net.zero.azR,.I (lB ⟨X,azY,h⟩ i j v.down m.down l).2]/\o=J)->Q r o):PC κ 52 [.agg [.sl 6 (X.map bO.azR),lv,.sl 2 (h.map cF)],.I i,.I j] J Q:=by
 have E:(X.map bO.azR).getD i []=v.azR:=by simp[aA,hi]
 have F:(X.map bO.azR).getD j []=m.azR:=by simp[aA,hj]
 have pR:i<X.length:=(ag.1 hi).1;have tY:j<X.length:=(ag.1 hj).1;have O:(0:Int)<=(i:Int):=by omega
 have t:(0:Int)<=(j:Int):=by omega
 have p:(i:Int)<(X.length:Int):=by omega
 have N:(j:Int)<(X.length:Int):=by omega
 have hw:IntKind.i64.wrap ((azY.length:Int)+(l.length:Int))=((azY.length+l.length:Nat):Int):=by rw[IntWalk.i64_in _ (by omega)];omega
 have W:IntKind.i64.wrap ((0:Int)+(l.length:Int))=(l.length:Int):=by rw[IntWalk.i64_in _ (by omega)];omega
 have Vx:gv (X.map bO.azR) i 5=some (.b v.down):=by simp[gv,hi,bO.azR]
 have P:gv (X.map bO.azR) j 5=some (.b m.down):=by simp[gv,hj,bO.azR]
 have T:∀a b:Int,(h.any λc=>c==gj a b)=mO ⟨X,azY,h⟩ a b:=λ_ _=>rfl;simp only[bO.azR]at E F hS U;have ap:∀L:List Let,mO ⟨X,L,h⟩ i j=mO ⟨X,azY,h⟩ i j:=λ_=>rfl;have hE:∀e,lB ⟨X,azY,h⟩ i j v.down m.down l=(Net.zero,e)->e≠0->Q (.jg [.agg Net.zero.azR,.I e]) J:=λe t p=>w _ _ (by rw[t,aw p];exact⟨rfl,rfl⟩);rcases ad with⟨rfl,rfl,ac⟩|⟨rfl,u,hb,rfl⟩
 .refine aW func52 p52.2 λbc dQ=>aq ?_;simp only[p52,SS,seval];simp only[E,F,O,t,p,N,Vx,P,aa,↓IT,VV,seval];refine⟨λq=>?_,λq=>?_⟩;.exact nh rfl bc (by simp only[RS,seval]) (hE 1 (by simp[lB,beq_iff_eq.1 q]) (by decide))
  have y:¬(i:Int)=j:=by simpa using q
  refine⟨.b m.down,λ_=>rfl,?_⟩;simp only[Qt,↓IT,VV,seval];refine⟨λz=>?_,λz=>?_⟩;.exact nh rfl bc (by simp only[RS,seval]) (hE 15 (by simp only[lB,aw y,aQ z]) (by decide))
  have k:¬(v.down||m.down)=θ:=by simpa using z
  simp only[kn]at z;refine al (Bn h _ _ i j (by omega) _ ?_ ?_ ?_ ?_) rfl ?_;.rfl
  .rfl
  .exact .sl ..
  .exact .lit ..
  rw[T];cases C:mO ⟨X,[],h⟩ i j
  .simp only[E,F,O,t,p,N,aa,↓IT,VV,seval];refine al (hS _) rfl ?_;simp only[E,F,O,t,p,N,aa,↓IT,VV,seval];refine al (U _) rfl ?_;simp only[W,aa,↓IT,VV,seval];refine⟨λA=>?_,λA=>?_⟩
   .refine nh rfl bc (by simp only[RS,seval]) (hE 3 ?_ (by decide));have D:¬([]:List Let).length+l.length<=256:=by simp at A;simp;omega
    simp only[lB,aw y,aw k,C,aw D,aP,bw]
   have D:([]:List Let).length+l.length<=256:=by simp at A;simp;omega
   have hq:lB ⟨X,[],h⟩ i j v.down m.down l=(⟨X,[]++l.map (nU i j),h⟩,0):=by simp only[lB,aw y,aw k,C,aQ D,aP,bw];rfl
   replace w:∀r o,r=.jg [.agg [.sl 6 (X.map bO.azR),MX (.lit 15 []) b (g+l.length) ([]++l.map (nU i j)),.sl 2 (h.map cF)],.I 0]->o=J.set b (dm (g+l.length) ([]++l.map (nU i j)))->Q r o:=λr o t p=>w r o (by rw[hq,aQ rfl];exact⟨t,p⟩);rw[ar3 ac]at w;have an:bT (J++[.box 29 [.sl 6 (X.map bO.azR),.lit 15 [],.sl 2 (h.map cF)],.box 29 [.nil,.nil,.nil]]):=cj bc (by simp only[bF,bD,cA,cW,cK,LW]);refine cB.kT (l.length+1) (az λR hR=>?_);rcases Nat.eq_zero_or_pos l.length with h5|h5;.obtain rfl:=cd h5;simp only[MS,ai,dt,bZ,↓IT,VV,seval];refine dS (xs':=[.agg [.sl 6 (X.map bO.azR),.sl 15 [],.sl 2 (h.map cF)],.I 0]) (.inr rfl) (by simp only[RS,seval]) ((Wk.fw (.cons (.iV (.cons (.refl _) (.cons (.lit _ _) (.cons (.refl _) .nil)))) (.cons (.refl _) .nil))).trans (Wk.lS (aM _) bc (ed.1 ?_))) rfl (w _ _ rfl rfl);simp only[LW]
   obtain⟨x,l',q⟩:=List.exists_cons_of_length_pos h5;have h4:(0:Int)<(l.length:Int):=by omega
   have dz:(l.map aV.azR).getD 0 []=qA x:=by rw[q,<- gy];rfl
   have eW:l.length=l'.length+1:=by rw[q];rfl
   have M9:IntKind.i64.wrap ((0:Int)+1)=1:=by decide
   have e0:[[.I i,.I j,.I x.aY.time,.I x.aY.bS,.I x.aY.azW,.I x.azT,.sl 3 (x.azV.azZ.map It.azR),.sl 3 (x.azV.az0.map It.azR),.s x.azV.cM,.s x.azV.next,.s x.azV.eu,.s x.azV.dC,.I x.azV.aAb,.I x.azV.aAc,.sl 1 (x.az1.map cN)]]=[nU i j x].map Let.azR:=by simp[nU,Let.azR,gy,qA]
   simp only[qA]at dz;have L1:(1:Int)<=140737488355328:=by decide
   simp only[MS,dz,M9,h4,bt,gq,aP,bw,V.pure,maxLen,aa,↓IT,VV,seval];rw[e0];have M:∀K B d f,J++[K,d,f,B]=st2 (J++[.dead,d,f,.dead]) J.length (J.length+3) K B:=λK B d f=>by simp only[st2,kf,s8];rfl
   have Hn:∀d f,Pl2 (J++[Ob.dead,d,f,.dead]) J.length (J.length+3):=λd f=>⟨by simp,by simp,by omega⟩;rw[M];refine hR _ (ub (Wk.fw (ys:=(uu 1 (.I i::.I j::.ptr J.length 0::uu 2 (.ptr (J.length+1) 0::uu 48 (.sl 13 (l.map aV.azR)::.I l.length::.I ([x]:List aV).length::uu 14 []))))) (by repeat' constructor)) ?_);refine afE eW.symm (acM (n:=J.length) (Hn _ _) (by simp) (by simp) (.sl 6 (X.map bO.azR)) (.sl 2 (h.map cF)) (.sl ..) (.sl ..) (K0:=.box 29 [.nil,.nil,.nil]) (B0:=.dead) ?_ i j l (by omega) l' [x] 0 [nU i j x] q (by simp;omega) ?_);.rw[<- M];refine cj bc ?_;simp only[bF,bD,cA,cW,cK,LW]
   simp only[JE];intros;rw[<- M];simp only[dm,ao,↓IT,VV,seval];refine iw 3 bc (.inr rfl) (by simp only[RS,seval];rfl) rfl ?_ (w _ _ ?_ rfl);.simp only[aI,ar,Pm.fz,kE,cG,aU,LW]
   simp only[aI,ar,Pm.fz,kE,cG,aU,MX,q];rfl
  simp only[↓IT,VV,seval];exact nh rfl bc (by simp only[RS,seval]) (hE 8 (by simp only[lB,aw y,aw k,C,aU]) (by decide))
 refine aW func52 p52.2 λbc dQ=>aq ?_;have H:=at1 hb;simp only[p52,SS,seval];simp only[dm,H,ao,E,F,O,t,p,N,Vx,P,aa,↓IT,VV,seval];refine⟨λq=>?_,λq=>?_⟩;.exact nh (by simp) bc (by simp only[RS,H,seval]) (hE 1 (by simp[lB,beq_iff_eq.1 q]) (by decide))
 have y:¬(i:Int)=j:=by simpa using q
 refine⟨.b m.down,λ_=>rfl,?_⟩;simp only[dm,H,ao,Qt,↓IT,VV,seval];refine⟨λz=>?_,λz=>?_⟩;.exact nh (by simp) bc (by simp only[RS,H,seval]) (hE 15 (by simp only[lB,aw y,aQ z]) (by decide))
 have k:¬(v.down||m.down)=θ:=by simpa using z
 simp only[kn]at z;refine al (Bn h _ _ i j (by omega) _ ?_ ?_ ?_ ?_) rfl ?_;.rfl
 .simp only[dm,H,ao,VV,seval]
 .exact .sl ..
 .simp only[dm,H,LW];omega
 rw[T];cases C:mO ⟨X,azY,h⟩ i j
 .simp only[dm,H,ao,E,F,O,t,p,N,aa,↓IT,VV,seval];refine al (hS _) rfl ?_;simp only[dm,H,ao,E,F,O,t,p,N,aa,↓IT,VV,seval];refine al (U _) rfl ?_;simp only[dm,H,ao,hw,aa,↓IT,VV,seval];refine⟨λA=>?_,λA=>?_⟩
  .refine nh (by simp) bc (by simp only[RS,H,seval]) (hE 3 ?_ (by decide));have D:¬(azY:List Let).length+l.length<=256:=by simp at A;simp;omega
   simp only[lB,aw y,aw k,C,aw D,aP,bw]
  have D:(azY:List Let).length+l.length<=256:=by simp at A;omega
  have hq:lB ⟨X,azY,h⟩ i j v.down m.down l=(⟨X,azY++l.map (nU i j),h⟩,0):=by simp only[lB,aw y,aw k,C,aQ D,aP,bw];rfl
  replace w:∀r o,r=.jg [.agg [.sl 6 (X.map bO.azR),MX (.own b g) b (g+l.length) (azY++l.map (nU i j)),.sl 2 (h.map cF)],.I 0]->o=u.set b (dm (g+l.length) (azY++l.map (nU i j)))->Q r o:=λr o t p=>w r o (by rw[hq,aQ rfl];exact⟨t,by rw[p,l9]⟩);have M:∀K B d,u.set b B++[K,d]=st2 (u++[.dead,d]) u.length b K B:=λK B d=>by rw[st2,jm _ _ hb,dX _ _ (by simp)];simp
  have Hn:Pl2 (u++[Ob.dead,.box 29 [.nil,.nil,.nil]]) u.length b:=⟨by simp,by simp;omega,by omega⟩;rw[M];refine cB.wk (Wk.fw (ys:=(uu 1 (.I i::.I j::.ptr u.length 0::uu 2 (.ptr (u.length+1) 0::uu 48 (.sl 13 (l.map aV.azR)::.I l.length::.I (([]:List aV).length:Nat)::uu 14 []))))) (by repeat' constructor)) (cB.kT (l.length+1) (acM Hn (by simp) (by simp) (.sl 6 (X.map bO.azR)) (.sl 2 (h.map cF)) (.sl ..) (.sl ..) (K0:=.box 29 [.nil,.nil,.nil]) (B0:=dm g azY) ?_ i j l (by omega) l [] g azY rfl (by omega) ?_));.rw[<- M];refine cj bc ?_;simp only[bF,bD,cA,cW,cK,LW]
  simp only[JE];intros;rw[<- M];simp only[dm,H,ao,↓IT,VV,seval];refine dS (.inr rfl) (by simp only[RS,H,seval];rfl) (Wk.lS (by simp) (tF bc (by simp)) (ed.1 ?_)) rfl (w _ _ rfl rfl);simp only[LW,fT];exact hb
 simp only[dm,H,ao,↓IT,VV,seval];exact nh (by simp) bc (by simp only[RS,H,seval]) (hE 8 (by simp only[lB,aw y,aw k,C,aU]) (by decide))
theorem ajS(e:Ev)(b:kh n e=G)(J:aj):bh κ 19 [.agg n.azR,.agg e.azR] J (gf Net.zero 1):=by have a:=Mx n e;refine aW func19 p19.2 λbc c=>?_;simp only[p19,SS,seval];refine cB.cutAt (.more (.one _ _)) λR d=>?_;simp only[Net.azR,Ev.azR,En.azR,↓IT,VV,seval]at a |-;refine al (a _) rfl ?_;simp only[b,↓IT,VV,seval];exact nh rfl bc (by simp only[RS,seval]) ⟨rfl,rfl⟩
def F2:aJ->aJ|.seq _ (.seq _ (.seq _ c))=>c|c=>c
theorem uW(e:Ev)(g:kh n e=θ)(J:aj)(Q:V->aj->Prop)(x y:V)(l:aj) (j:(x=.own (Y J+3) 0/\y=.sl 15 (n.ax.map Let.azR)/\l=[bC 0 n.an])\/(x=.sl 6 (n.an.map bO.azR)/\((y=.own (Y J+3) 0/\l=[dm 0 n.ax])\/((y=.lit 15 []\/y=.sl 15 (n.ax.map Let.azR))/\l=[])))) (b:∀a:aj,Y a=Y J+3->PC κ 48 [.agg n.azR] a (λr f=>r=.agg [x,y,.sl 2 (n.cw.map cF)]/\f=a++l)) (h:bT J->cB (Y J) κ (F2 p19.1.c) (zy κ J.length [.c 4 (S 3),.t 5] Q) ⟨(uu 3 (.ptr (Y J+1) 0::.ptr (Y J+2) 0::uu 1 (.ptr (Y J+3+Y l) 0::uu 158 []))),J++([.box 29 n.azR,.box 38 e.azR,.box 29 [.nil,.nil,.nil]]++(l++[.box 29 [x,y,.sl 2 (n.cw.map cF)]]))⟩) : PC κ 19 [.agg n.azR,.agg e.azR] J Q:=by
 have d:=Mx n e;refine aW func19 p19.2 λbc k=>?_;replace h:=h bc;simp only[p19,F2]at h;simp only[p19,SS,seval];refine cB.cutAt (.more (.more (.one _ _))) λR i=>?_;simp only[Net.azR,Ev.azR,En.azR,↓IT,VV,seval]at d b |-;refine al (d _) rfl ?_;simp only[g,↓IT,VV,seval];refine al (b _ (by simp)) rfl ?_;rcases j with⟨rfl,rfl,rfl⟩|⟨rfl,(⟨rfl,rfl⟩|⟨(rfl|rfl),rfl⟩)⟩ <;>
 .simp only[bC,dm,ao,bP,Nat.reduceAdd,↓IT,VV,seval]at h |-;exact i _ (cB.fw h (by repeat' constructor))
theorem UJ(g:Nat)(aK:List bO)(azY:List Let)(e:gh)(i:Nat)(j:i<Y aK)(d:bO)(b:Int)(c:aj)(h:c[a]?=S (bC g aK)):
  PC κ 50 [rP a g azY e,.I i,.agg d.azR,.I b] c (λr k=>r=.jg [if b=0 then rP a g azY e else .agg Net.zero.azR,.I b]/\k=c.set a (bC g (if b=0 then aK.set i d else aK))):=by obtain⟨l,f⟩:=ag.1 h;have:=IJ a g aK azY e i j d b c l;rwa [<- f,yl]at this
set_option maxRecDepth 4000 in
theorem afK(D:n.azU)(e:Ev)(y:e.azT=1\/e.azT=2\/e.azT=9\/e.azT=10\/e.azT=11)(A:kh n e=θ)(i:Nat)(w:e.a=i)(o:bO)(r:n.an[i]?=S o)(q:bO)(k:Int) (p:OfX 49 51 54 55 56 o e q k) (J:aj) : bh κ 19 [.agg n.azR,.agg e.azR] J (gf ⟨n.an.set i q,n.ax,n.cw⟩ k):=by
 have F:n.an≠[]:=λh=>by rw[h]at r;simp at r
 refine uW n e A J _ _ _ _ (.inl ⟨rfl,rfl,rfl⟩) (λu v=>?_) λbc=>?_;.rw[<- v];exact qV n D F u
 obtain⟨E,H,L,M,K⟩:=e;simp only at y w;subst w;have j:(n.an.map bO.azR).getD i []=o.azR:=by simp[aA,r]
 have B:i<Y n.an:=(ag.1 r).1;have m:(0:Int)<=(i:Int):=by omega
 have l:(i:Int)<(Y n.an:Int):=by omega
 have z:gv (n.an.map bO.azR) i 5=S (.b o.down):=by simp[gv,r,bO.azR]
 simp only[bO.azR]at j;simp only[p19,F2,aF,ay,ae,ai,aG,bP,Nat.reduceAdd];have s:=λu C=>UJ (Y J+3) 0 n.an n.ax n.cw i B q k u C;have f:=show[V.agg [.own (Y J+3) 0,.sl 15 (n.ax.map Let.azR),.sl 2 (n.cw.map cF)],.I 0].map (Pm.fz (Y J+3) 0 6 ((n.an.set i q).map bO.azR))=[.agg (Net.azR ⟨n.an.set i q,n.ax,n.cw⟩),.I 0]by simp only[aI,ar,Pm.fz,kE,cG,aU,Net.azR]
 refine aq ?_;rcases y with rfl|rfl|rfl|rfl|rfl
 .obtain⟨x,g⟩:=p.c1 rfl;simp only[Ev.azR,En.azR,bC,j,m,l,ao,bO.azR,aa,↓IT,VV,seval];intro X c;refine al (g _) (by simp only[bO.azR,En.azR,VV,seval]) ?_;simp only[gZ,gy,qA,bO.azR,bC,bP,Nat.reduceAdd,ao,↓IT,VV,seval];refine al (s _ (by rw[kO];rfl)) (by simp only[rP,bO.azR,VV,seval]) ?_;by_cases d:k=0;.subst d;simp only[rP,bC,aU,ao,bP,Nat.reduceAdd,↓IT,VV,seval];exact iw 3 bc (.inr rfl) (by simp only[RS,seval];rfl) rfl (by rw[f];simp only[Net.azR,LW]) (by rw[f];exact⟨rfl,rfl⟩)
  simp only[Net.zero,Net.azR,bC,aw d,ar,↓IT,VV,seval];exact bA bc (.inr rfl) (by simp only[RS,seval];rfl) (by simp[LW]) ⟨by simp only[gf,aw d,Net.zero,Net.azR,ar];rfl,rfl⟩
 .obtain⟨x,g⟩:=p.c2 rfl;simp only[Ev.azR,En.azR,bC,j,m,l,ao,bO.azR,aa,↓IT,VV,seval];intro X c;refine al (g _) (by simp only[bO.azR,En.azR,VV,seval]) ?_;simp only[gZ,gy,qA,bO.azR,bC,bP,Nat.reduceAdd,ao,↓IT,VV,seval];refine al (s _ (by rw[kO];rfl)) (by simp only[rP,bO.azR,VV,seval]) ?_;by_cases d:k=0;.subst d;simp only[rP,bC,aU,ao,bP,Nat.reduceAdd,↓IT,VV,seval];exact iw 3 bc (.inr rfl) (by simp only[RS,seval];rfl) rfl (by rw[f];simp only[Net.azR,LW]) (by rw[f];exact⟨rfl,rfl⟩)
  simp only[Net.zero,Net.azR,bC,aw d,ar,↓IT,VV,seval];exact bA bc (.inr rfl) (by simp only[RS,seval];rfl) (by simp[LW]) ⟨by simp only[gf,aw d,Net.zero,Net.azR,ar];rfl,rfl⟩
 .have g:=p.c9 rfl;simp only[Ev.azR,En.azR,bC,j,m,l,ao,bO.azR,aa,↓IT,VV,seval];refine al (g _) (by simp only[bO.azR,VV,seval]) ?_;simp only[fm,bO.azR,bC,bP,Nat.reduceAdd,ao,↓IT,VV,seval];refine al (s _ (by rw[kO];rfl)) (by simp only[rP,bO.azR,VV,seval]) ?_;by_cases d:k=0;.subst d;simp only[rP,bC,aU,ao,bP,Nat.reduceAdd,↓IT,VV,seval];exact iw 3 bc (.inr rfl) (by simp only[RS,seval];rfl) rfl (by rw[f];simp only[Net.azR,LW]) (by rw[f];exact⟨rfl,rfl⟩)
  simp only[Net.zero,Net.azR,bC,aw d,ar,↓IT,VV,seval];exact bA bc (.inr rfl) (by simp only[RS,seval];rfl) (by simp[LW]) ⟨by simp only[gf,aw d,Net.zero,Net.azR,ar];rfl,rfl⟩
 .rcases p.Da rfl with⟨t,rfl⟩|⟨t,rfl,g⟩;.simp only[Ev.azR,En.azR,bC,j,m,l,z,t,ao,bO.azR,aa,↓IT,VV,seval];exact nh rfl bc (by simp only[RS,seval]) ⟨rfl,rfl⟩
  simp only[Ev.azR,En.azR,bC,j,m,l,z,t,ao,bO.azR,aa,↓IT,VV,seval];refine al (g _) (by simp only[bO.azR,t,VV,seval]) ?_;simp only[bO.azR,bC,bP,Nat.reduceAdd,ao,↓IT,VV,seval];refine al (s _ (by rw[kO];rfl)) (by simp only[rP,bO.azR,VV,seval]) ?_;simp only[rP,bC,aU,ao,bP,Nat.reduceAdd,↓IT,VV,seval];exact iw 3 bc (.inr rfl) (by simp only[RS,seval];rfl) rfl (by rw[f];simp only[Net.azR,LW]) (by rw[f];exact⟨rfl,rfl⟩)
 have g:=p.Ye rfl;simp only[Ev.azR,En.azR,bC,j,m,l,ao,bO.azR,aa,↓IT,VV,seval];refine al (g _) (by simp only[bO.azR,VV,seval]) ?_;simp only[fm,bO.azR,bC,bP,Nat.reduceAdd,ao,↓IT,VV,seval];refine al (s _ (by rw[kO];rfl)) (by simp only[rP,bO.azR,VV,seval]) ?_;by_cases d:k=0;.subst d;simp only[rP,bC,aU,ao,bP,Nat.reduceAdd,↓IT,VV,seval];exact iw 3 bc (.inr rfl) (by simp only[RS,seval];rfl) rfl (by rw[f];simp only[Net.azR,LW]) (by rw[f];exact⟨rfl,rfl⟩)
 simp only[Net.zero,Net.azR,bC,aw d,ar,↓IT,VV,seval];exact bA bc (.inr rfl) (by simp only[RS,seval];rfl) (by simp[LW]) ⟨by simp only[gf,aw d,Net.zero,Net.azR,ar];rfl,rfl⟩
set_option maxRecDepth 4000 in
theorem afL(h:n.azU)(m:n.an≠[])(e:Ev)(g:e.azT=7\/e.azT=8)(j:kh n e=θ)(J:aj): bh κ 19 [.agg n.azR,.agg e.azR] J (gf ⟨n.an,n.ax,(qS n.cw e.a e.b (e.azT==8)).1⟩ (qS n.cw e.a e.b (e.azT==8)).2):=by
 refine uW n e j J _ _ _ _ (.inr ⟨rfl,.inr ⟨.inr rfl,rfl⟩⟩) (λk o=>?_) λbc=>?_;.have:=RE n h m k;simpa only[Net.azR,bI]using this
 have d:=λJ=>afM n (by have:=h.um;omega) e.a e.b (e.azT==8) J;obtain⟨f,i,l,r,s⟩:=e;simp only at g d |-;simp only[p19,F2,aF,ay,bI,ae,ai,cu,aG,bP,Nat.reduceAdd];refine aq ?_;generalize qS n.cw i l (f==8)=q at d |-;obtain⟨t,p⟩:=q;rcases g with rfl|rfl;all_goals
  simp only[Net.azR,Ev.azR,En.azR,aa,↓IT,VV,seval]at d |-;refine al (d _) rfl ?_;by_cases c:p=0;.simp only[aQ c,↓IT,VV,seval];exact bA bc (.inr rfl) (by simp only[RS,seval];rfl) (by simp[LW]) ⟨by simp only[gf,aQ c,Net.azR];rfl,rfl⟩
  simp only[aw c,Net.zero,Net.azR,ar,↓IT,VV,seval];exact bA bc (.inr rfl) (by simp only[RS,seval];rfl) (by simp[LW]) ⟨by simp only[gf,aw c,Net.zero,Net.azR,ar];rfl,rfl⟩
theorem abt{n:Net}{i j:Int}{a b:Bool}{l:List aV}(h:(lB n i j a b l).2=0):(lB n i j a b l).1=⟨n.an,n.ax++l.map (nU i j),n.cw⟩:=by
 revert h;simp only[lB];split;.simp
 split;.simp
 split;.simp
 split;.exact λ_=>rfl
 simp
theorem HK(h:U[k]?=S R):∃a:aj,k<Y a/\U=a.set k R:=by obtain⟨b,c⟩:=ag.1 h;exact⟨U,b,by rw[<- c,yl]⟩
set_option maxRecDepth 4000 in
theorem abM(u:n.azU)(o:Y n.ax<2^28)(e:Ev)(t:e.azT=3)(E:kh n e=θ)(i j:Nat)(s:e.a=i)(w:e.b=j)(m f:bO)(k:n.an[i]?=S m)(P:n.an[j]?=S f)(z:bU)(l:List aV)(O:Y l<2^28) (K:∀J,bh κ 104 [.agg f.azR] J (.sl 1 (z.map cN))) (N:∀J,bh κ 103 [.agg m.azR,.sl 1 (z.map cN)] J (.sl 13 (l.map aV.azR))) (J:aj) : bh κ 19 [.agg n.azR,.agg e.azR] J (gf (lB n i j m.down f.down l).1 (lB n i j m.down f.down l).2):=by
 have F:n.an≠[]:=λh=>by rw[h]at k;simp at k
 have d:=λJ b g lv C Q T=>abJ n.an u.uE n.ax o n.cw u.um i j m f k P z l O K N J b g lv C (Q:=Q) T;have v:=@abt n i j m.down f.down l;have D:(⟨n.an,n.ax,n.cw⟩:Net)=n:=rfl;simp only[D]at d;generalize lB n i j m.down f.down l=q at d v |-;obtain⟨U,H⟩:=q;simp only at d v |-;by_cases x:n.ax=[]
 .refine uW n e E J _ _ _ _ (.inr ⟨rfl,.inr ⟨.inl rfl,rfl⟩⟩) (λy p=>?_) λbc=>?_;.simpa only[bI]using RC n u F x y
  obtain⟨A,I,M,R,L⟩:=e;simp only at t s w;subst t s w;simp only[p19,F2,aF,ay,bI,ae,ai,cu,aG,bP,Nat.reduceAdd];refine aq ?_;simp only[Ev.azR,En.azR,↓IT,VV,seval];by_cases c:H=0;.refine al (d _ (Y J+4) 0 _ (.inl ⟨x,rfl,by simp⟩) _ (λr B h=>by rw[aQ c]at h;exact h)) rfl ?_;rw[ar3 (by simp)];simp only[MX,↓IT,VV,seval];refine bA bc (.inr rfl) (by simp only[RS,seval];rfl) (by simp[LW]) ⟨?_,rfl⟩;rw[gf,aQ c,v c,c];rfl
  refine al (d _ (Y J+4) 0 _ (.inl ⟨x,rfl,by simp⟩) _ (λr B h=>by rw[aw c]at h;exact h)) rfl ?_;simp only[Net.zero,Net.azR,ar,↓IT,VV,seval];exact bA bc (.inr rfl) (by simp only[RS,seval];rfl) (by simp[LW]) ⟨by simp only[gf,aw c,Net.zero,Net.azR,ar];rfl,rfl⟩
 refine uW n e E J _ _ _ _ (.inr ⟨rfl,.inl ⟨rfl,rfl⟩⟩) (λy p=>?_) λbc=>?_;.rw[<- p];exact F8 n u F x y
 obtain⟨A,I,M,R,L⟩:=e;simp only at t s w;subst t s w;simp only[p19,F2,aF,ay,bI,ae,ai,cu,aG,bP,Nat.reduceAdd];refine aq ?_;simp only[Ev.azR,En.azR,dm,ao,↓IT,VV,seval];by_cases c:H=0
 .refine al (d _ (Y J+3) 0 _ (.inr ⟨rfl,HK (by rw[kO];rfl)⟩) _ (λr B h=>by rw[aQ c]at h;exact h)) rfl ?_;simp only[MX,dm,ao,↓IT,VV,seval];refine iw 3 bc (.inr rfl) (by simp only[RS,seval];rfl) rfl ?_ ?_;.simp only[aI,ar,Pm.fz,kE,cG,aU,LW]
  simp only[aI,ar,Pm.fz,kE,cG,aU];rw[gf,aQ c,v c,c];exact⟨rfl,trivial⟩
 refine al (d _ (Y J+3) 0 _ (.inr ⟨rfl,HK (by rw[kO];rfl)⟩) _ (λr B h=>by rw[aw c]at h;exact h)) rfl ?_;simp only[Net.zero,Net.azR,ar,↓IT,VV,seval];exact bA bc (.inr rfl) (by simp only[RS,seval];rfl) (by simp[LW]) ⟨by simp only[gf,aw c,Net.zero,Net.azR,ar];rfl,rfl⟩
set_option maxRecDepth 4000 in
theorem UL(n:Net)(z:n.azU)(C:n.an≠[])(q:Y n.ax<=256)(e:Ev)(k:e.azT=6)(u:kh n e=θ)(i:Nat)(j:e.n=i)(x:Let)(l:n.ax[i]?=S x)(m:bO)(p:Int)(J:aj): bh κ 19 [.agg n.azR,.agg e.azR] J (gf (ji n 6 i x m p).1 (ji n 6 i x m p).2):=by
 have D:n.ax≠[]:=λh=>by rw[h]at l;simp at l
 refine uW n e u J _ _ _ _ (.inr ⟨rfl,.inl ⟨rfl,rfl⟩⟩) (λa d=>?_) λbc=>?_;.rw[<- d];exact F8 n z C D a
 have v:=λa g=>IK (Y J+3) 0 n.an n.ax n.cw e k i j x l (by omega) a g;obtain⟨A,s,y,E,w⟩:=e;simp only at k j;subst k j;simp only[p19,F2,aF,ay,bI,ae,ai,cu,aG,bP,Nat.reduceAdd];refine aq ?_;have c:∀a:aj,a[Y J+3]?=S (dm 0 n.ax)->∀Q:V->aj->Prop,(∀r b,(if 256<=Y n.ax then r=.jg [.agg Net.zero.azR,.I 3]/\b=a else r=.jg [.agg [.sl 6 (n.an.map bO.azR),.own (Y J+3) (0+1),.sl 2 (n.cw.map cF)],.I 0]/\b=a.set (Y J+3) (dm (0+1) (n.ax++[x])))->Q r b)->PC κ 57 [.agg [.sl 6 (n.an.map bO.azR),.own (Y J+3) 0,.sl 2 (n.cw.map cF)],.agg (Ev.azR ⟨6,s,y,i,w⟩)] a Q:=by intro a d Q B;obtain⟨o,g,rfl⟩:=HK d;refine(v o g).mono λr b h=>B r b ?_;simpa only[l9]using h
 have t:ji n 6 i x m p=if 256<=Y n.ax then(Net.zero,3)else(⟨n.an,n.ax++[x],n.cw⟩,0):=by
  have:Y n.ax=256<->256<=Y n.ax:=by omega
  simp[ji,this]
 rw[t];simp only[Ev.azR,En.azR,dm,aG,ao,↓IT,VV,seval]at c |-;by_cases h:256<=Y n.ax;.refine al (c _ (by rw[kO];rfl) _ (λr b f=>by rw[aQ h]at f;exact f)) rfl ?_;simp only[aQ h,Net.zero,Net.azR,ar,↓IT,VV,seval];exact bA bc (.inr rfl) (by simp only[RS,seval];rfl) (by simp[LW]) ⟨rfl,rfl⟩
 refine al (c _ (by rw[kO];rfl) _ (λr b f=>by rw[aw h]at f;exact f)) rfl ?_;simp only[aw h,ao,↓IT,VV,seval];refine iw 3 bc (.inr rfl) (by simp only[RS,seval];rfl) rfl ?_ ?_;.simp only[aI,ar,Pm.fz,kE,cG,aU,LW]
 simp only[aI,ar,Pm.fz,kE,cG,aU];exact⟨rfl,trivial⟩
set_option maxRecDepth 4000 in
theorem RB(n:Net)(t:n.azU)(w:Y n.ax<=256)(e:Ev)(k:e.azT=4\/e.azT=5)(B:kh n e=θ)(i:Nat)(p:e.n=i)(x:Let)(C:n.ax[i]?=S x)(j:Nat)(L:x.dst=j)(o:bO)(v:n.an[j]?=S o)(a:bO)(b:Int) (D:∀J,bh κ 63 [.agg o.azR,.agg x.op.azR] J (fm a b)) (J:aj) : bh κ 19 [.agg n.azR,.agg e.azR] J (gf (ji n e.azT i x a b).1 (ji n e.azT i x a b).2):=by
 have K:n.an≠[]:=λh=>by rw[h]at v;simp at v
 refine uW n e B J _ _ _ _ (.inl ⟨rfl,rfl,rfl⟩) (λf d=>?_) λbc=>?_;.rw[<- d];exact qV n t K f
 have y:=λm E=>Oj (Y J+3) 0 n.an n.ax n.cw t.um e k i p x C (by omega) j L o v t.uE a b D m E;have c:(ji n e.azT i x a b).2=0->(ji n e.azT i x a b).1.cw=n.cw:=by
  rcases k with h|h<;>rw[h]<;>simp only[ji]<;>repeat' split
  all_goals simp_all
 have l:∀f:aj,f[Y J+3]?=S (bC 0 n.an)->PC κ 57 [rP (Y J+3) 0 n.ax n.cw,.agg e.azR] f (λr m=>∃A,m=f.set (Y J+3) A/\r=.jg [if(ji n e.azT i x a b).2=0 then rP (Y J+3) 0 (ji n e.azT i x a b).1.ax n.cw else .agg Net.zero.azR,.I (ji n e.azT i x a b).2] /\
   ((ji n e.azT i x a b).2=0->A=bC 0 (ji n e.azT i x a b).1.an)):=by intro f d;obtain⟨u,z,rfl⟩:=HK d;simp only[l9];exact y u z
 clear y;generalize ji n e.azT i x a b=q at l c |-;obtain⟨Q,s⟩:=q;obtain⟨F,M,O,P,N⟩:=e;simp only at k p l c |-;subst p;simp only[p19,F2,aF,ay,bI,ae,ai,cu,aG,bP,Nat.reduceAdd];refine aq ?_;rcases k with rfl|rfl;all_goals
  simp only[Ev.azR,En.azR,bC,ao,↓IT,VV,seval]at l |-;refine dZ (l _ (by rw[kO];rfl)) rfl ?_;rintro r m ⟨A,rfl,rfl,H⟩;by_cases g:s=0
  .rw[H g];simp only[aQ g,rP,ao,↓IT,VV,seval];refine iw 3 bc (.inr rfl) (by simp only[RS,seval];rfl) rfl ?_ ?_;.simp only[aI,ar,Pm.fz,kE,cG,aU,LW]
   simp only[aI,ar,Pm.fz,kE,cG,aU];rw[gf,aQ g,Net.azR,c g];exact⟨rfl,trivial⟩
  simp only[aw g,Net.zero,Net.azR,ar,↓IT,VV,seval];exact bA bc (.inr rfl) (by simp only[RS,seval];rfl) (by simp[LW]) ⟨by simp only[gf,aw g,Net.zero,Net.azR,ar];rfl,rfl⟩
theorem akG{K:bL}(bc:bT U)(n:Nat)(j:n<=8):∀(k i:Nat),n=i+k ->(((fj 2 (fh (.ptr U.length 0) (fj 1 (fh (.ptr (Y U+1) 0) (fj 27 fo))))) λg=>K (.exit 0) ⟨g,U++[.box 29 [.nil,.nil,.nil],fE (.own (Y U+2) n) .nil .nil,bC n (mw n)]⟩)) ->gw (Y U) κ Xx K (k+1) ⟨(.I n::uu 1 (.ptr U.length 0::uu 1 (.ptr (Y U+1) 0::.I i::uu 26 []))),U++[.box 29 [.nil,.nil,.nil],fE (.own (Y U+2) i) .nil .nil,bC i (mw i)]⟩:=by
 intro k;induction k with
 |zero =>
  intro i b c;have b:n=i:=by omega
  subst b;refine az λR f=>?_;simp only[Xx,dt,bZ,↓IT,VV,seval];exact c ..
 |succ k ih =>
 intro i b c;have e:IntKind.i64.wrap ((i:Int)+1)=((i+1:Nat):Int):=by rw[da (by omega)]
 have h:(i:Int)<(n:Int):=by omega
 refine az λR f=>?_;simp only[Xx,fE,bC,h,e,bt,↓IT,VV,seval];refine al (afJ i (by omega) (by omega) _) rfl ?_;simp only[bO.azR,aN,ar,e,V.pure,aa,maxLen,ao,↓IT,VV,seval];have a:Y (mw i)=i:=by simp[mw]
 rw[Jw,a];have d:=cj bc (l:=[.box 29 [.nil,.nil,.nil],fE (.own (Y U+2) (i+1)) .nil .nil,bC (i+1) (mw (i+1))]) (by simp only[bC,fE,bF,bD,cA,cW,cK,ah,ae,ai,LW];omega);refine⟨⟨by omega,by omega⟩,f _ (cn [.box 29 [.nil,.nil,.nil],fE (.own (Y U+2) (i+1)) .nil .nil,bC (i+1) (mw (i+1))] [_] d ?_ ?_ (ih (i+1) (by omega) c))⟩;.repeat' constructor
 simp only[LW,ae,ai,aG];omega
theorem sR(h1:1<=a)(c:a<=8)(J:aj):bh κ 16 [.I a] J (.jg [.agg (Net.azR ⟨mw a,[],[]⟩),.I 0]):=by
 refine aW func16 p16.2 λbc f=>aq ?_;have e:decide ((a:Int)<1)=G:=by simp;omega
 have d:decide (8<(a:Int))=G:=by simp;omega
 simp only[p16,SS,seval];simp only[e,d,bb,↓IT,VV,seval];have b:=λK=>akG bc (K:=K) a c a 0 (by omega);simp only[fE,bC,mw,List.range_zero,ar]at b;refine cB.wk ((Wk.fw (ys:=(.I a::uu 1 (.ptr J.length 0::uu 1 (.ptr (Y J+1) 0::.I ((0:Nat):Int)::uu 26 [])))) ?_).trans XF) (cB.kT (a+1) (b _ ?_));.repeat' constructor
 simp only[JE];intros;simp only[ao,↓IT,VV,seval];refine dS (xs:=[.agg [.own (Y J+2) a,.nil,.nil],.I 0]) (xs':=[.agg (Net.azR ⟨mw a,[],[]⟩),.I 0]) (.inr rfl) (by simp only[RS,seval]) ?_ rfl ⟨rfl,rfl⟩;refine(Wk.px 2 rfl).trans ((Wk.fw (ys:=[.agg (Net.azR ⟨mw a,[],[]⟩),.I 0]) ?_).trans (Wk.yQ bc (by simp only[Net.azR,LW])));simp only[aI,ar,Pm.fz,kE,cG,aU];exact .cons (.iV (.cons (.refl _) (.cons (.nil 15) (.cons (.nil 2) .nil)))) (.cons (.refl _) .nil)
structure A9 (E:eK):Prop where
 cR:∀o,E.o6 o->∀J,bh prog 56 [.agg o.azR] J (fm (E.fR o).1 (E.fR o).2)
 cV:∀o x,E.o6 o->E.ok x->∀J,bh prog 63 [.agg o.azR,.agg x.azR] J (fm (E.fV o x).1 (E.fV o x).2)
 cS:∀o,E.o6 o->∀J,bh prog 54 [.agg o.azR] J (fm (E.fS o).1 (E.fS o).2)
def S4(J:aj)(b0 b1:Ob)(vb vc:V)(aK:List bO):aj:=J++[b0,b1,bC 0 aK,.box 29 [.own (Y J+2) 0,vb,vc]]
section
variable {E:eK} (hE:A9 E) {J:aj} {K:bL} (b0 b1:Ob) (vb vc:V) (bc:∀aK,bT (S4 J b0 b1 vb vc aK))
include hE bc
end
variable(n:Net){m b:Int}{X:Net}{o:bO}
theorem ahS{W:List aV}(q:Pl m W)(h:GO W b o)(p:0<=b/\b<8): ∃g:bU,(o.down=G->∀J,bh κ 87 [.agg o.azR] J (.sl 1 (g.map cN))) /\(∀J,bh κ 104 [.agg o.azR] J (.sl 1 (g.map cN))):=by
 have d:=h.azU q;obtain⟨e,t,⟨k,i,n,rfl⟩|⟨r,i,n,rfl⟩⟩:=h;.obtain⟨c,a,f,u⟩:=Nz t.base p;exact⟨tG c,λ_=>N4 _ d rfl c a,II _ d c a f⟩
 have a:s9 (sE b e r).azS λ_=>0:=⟨λ_ _=>by decide,λ_ _ j v=>by omega,λ_ _ x l=>by simp[sE]at l⟩;exact⟨tG (λ_=>0),λs=>(by cases s),II _ d (λ_=>0) a (λ_ _=>by decide)⟩
theorem adS{W:List aV}(a:Pl m W)(h:GO W b o)(v:bU): (o.down=G->∀J,bh κ 86 [.agg o.azR,.sl 1 (v.map cN)] J (.sl 13 ((lW o.azS v).map aV.azR))) /\(∀J,bh κ 103 [.agg o.azR,.sl 1 (v.map cN)] J (.sl 13 ((lW o.azS v).map aV.azR))) :=⟨λc=>ac1 o (h.azU a) c v,YP o (h.azU a) v⟩
def aaC(e:Ev)(a:Net)(b:Int):Prop :=(∀J,bh κ 18 [.agg n.azR,.agg e.azR] J (gf a b))/\(∀J,bh κ 19 [.agg n.azR,.agg e.azR] J (gf a b))
theorem Yf(e:Ev)(a:kh n e=G):aaC n e Net.zero 1:=⟨acv n e a,ajS n e a⟩
theorem TJ(p:n.azU)(e:Ev)(g:e.azT=1\/e.azT=2\/e.azT=9\/e.azT=10\/e.azT=11)(l:kh n e=θ)(i:Nat)(j:e.a=i)(o:bO)(m:n.an[i]?=S o)(f:bO)(d:Int) (q:OfX 96 97 62 98 59 o e f d) (v:OfX 49 51 54 55 56 o e f d) : aaC n e ⟨n.an.set i f,n.ax,n.cw⟩ d:=by
 refine⟨λJ=>Br n p e l _ d (λJ k a b c h=>?_) J,afK n p e g l i j o m f d v⟩;have t:aad e.azT=46:=by rcases g with h|h|h|h|h<;>rw[h]<;>rfl
 have s:xh e k=[.ptr k 0,.agg e.azR]:=by rw[xh,aw (by omega)]
 rw[t,s];refine(Ze h n.an (dm 0 n.ax) (fX 0 n.cw) trivial trivial e g i j o m f d q).mono ?_;rintro r w ⟨rfl,A,rfl,u⟩;exact⟨rfl,_,_,_,_,rfl,λh=>⟨_,_,_,rfl,u h,rfl,rfl⟩⟩
theorem afI(f:wc X.cw)(e:Ev)(g:e.azT=7\/e.azT=8):(wq X e).2=(qS X.cw e.a e.b (e.azT==8)).2/\((wq X e).2=0->(wq X e).1=⟨X.an,X.ax,(qS X.cw e.a e.b (e.azT==8)).1⟩):=by
 rcases g with h|h
 .have d:¬e.azT=8:=by omega
  have c:(e.azT==8)=G:=by simpa using d
  simp only[wq,qS,aw d,c,aP,bw];split;.simp
  split;.simp
  simp
 have c:(e.azT==8)=θ:=by simpa using h
 simp only[wq,qS,aQ h,c,aU];split;.rename_i i;rw[aiw f i];simp
 simp
theorem aef{a:Net}(h:m=b)(c:m=0->X=a):gf X m=gf a b:=by
 subst h;simp only[gf];by_cases h:m=0;.rw[c h]
 simp only[aw h]
theorem aeD(f:n.azU)(p:n.an≠[])(i:wc n.cw)(e:Ev)(d:e.azT=7\/e.azT=8)(g:kh n e=θ):aaC n e (wq n e).1 (wq n e).2:=by
 obtain⟨j,o⟩:=afI i e d;refine⟨λJ=>Br n f e g _ _ (λJ k a b c h=>?_) J,λJ=>?_⟩
 .have m:aad e.azT=44:=by rcases d with h|h<;>rw[h]<;>rfl
  have l:xh e k=[.ptr k 0,.agg e.azR]:=by rw[xh,aw (by omega)]
  rw[m,l];exact aka h n i f.um e d
 rw[aef j o];exact afL n f p e d g J
theorem aaw(y:n.azU)(V:Y n.ax<=256)(e:Ev)(B:e.azT=3)(R:kh n e=θ)(i j:Nat)(Q:e.a=i)(X:e.b=j)(f g:bO)(q:n.an[i]?=S f)(z:n.an[j]?=S g){W:List aV}{C:Int}(E:Pl m W)(D:GO W b f)(N:GO W C g)(L:0<=C/\C<8): ∃l,(∀x∈l,x∈f.azS)/\aaC n e (lB n i j f.down g.down l).1 (lB n i j f.down g.down l).2:=by
 obtain⟨t,hS,H⟩:=ahS E N L;obtain⟨T,P⟩:=adS E D t;have K:∀x∈lW f.azS t,x∈f.azS:=λx hx=>(eB.1 hx).1;have U:Y (lW f.azS t)<2^28:=by have h1:Y (lW f.azS t)<=Y f.azS:=kW _ _;have h2:=q8 (xL (D.azS.2.imp λ{a d} sY e=>by omega)) D.azS.1;have h3:=E.len;omega
 refine⟨_,K,λJ=>Br n y e R _ _ (λJ k a d c h=>?_) J,abM n y (by omega) e B R i j Q X f g q z t _ U H P⟩;have e1:aad e.azT=43:=by rw[B];rfl
 have e2:xh e k=[.ptr k 0,.I i,.I j]:=by rw[xh,aQ B,Q,X]
 rw[e1,e2];generalize lW f.azS t=l at T U |-;by_cases v:(i:Int)=j
 .have p:lB n i j f.down g.down l=(Net.zero,1):=by simp only[lB,aQ v]
  rw[p,<- v];refine(PG h _ _ _ i).mono ?_;rintro r O ⟨rfl,rfl⟩;exact⟨rfl,_,_,_,_,rfl,λh=>by simp at h⟩
 have o:i≠j:=by omega
 by_cases u:(f.down||g.down)=θ
 .have p:lB n i j f.down g.down l=(Net.zero,15):=by simp only[lB,aw v,aQ u]
  rw[p];refine(PH h n.an _ _ i j o f g q z u).mono ?_;rintro r O ⟨rfl,rfl⟩;exact⟨rfl,_,_,_,_,rfl,λh=>by simp at h⟩
 obtain⟨M,F⟩:=kn.1 (Bool.eq_false_iff.2 u);cases w:mO n i j with
 |true =>
  have p:lB n i j f.down g.down l=(Net.zero,8):=by simp only[lB,aw v,aw u,w,aU]
  rw[p];refine(Co h n.an n.ax n.cw y.um i j o f g q z M F w).mono ?_;rintro r O ⟨rfl,rfl⟩;exact⟨rfl,_,_,_,_,rfl,λh=>by simp at h⟩
 |false =>
 refine(UW h n.an n.ax n.cw y.um i j o f g q z M F w t (hS F) l (T M) (by omega) (by omega)).mono λr O A=>?_;by_cases s:Y n.ax+Y l<=256
 .rw[aQ s]at A;obtain⟨rfl,rfl⟩:=A;have p:lB n i j f.down g.down l=(⟨n.an,n.ax++l.map (nU i j),n.cw⟩,0):=by simp only[lB,aw v,aw u,w,aQ s,aP,bw];rfl
  rw[p];exact⟨rfl,_,_,_,_,rfl,λ_=>⟨_,_,_,rfl,rfl,rfl,rfl⟩⟩
 rw[aw s]at A;obtain⟨rfl,rfl⟩:=A;have p:lB n i j f.down g.down l=(Net.zero,3):=by simp only[lB,aw v,aw u,w,aw s,aP,bw]
 rw[p];exact⟨rfl,_,_,_,_,rfl,λh=>by simp at h⟩
theorem BM(n:Net)(s:n.azU)(f:Y n.ax<=256)(e:Ev)(d:e.azT=4\/e.azT=5\/e.azT=6)(u:kh n e=θ)(i:Nat)(q:e.n=i)(x:Let)(p:n.ax[i]?=S x)(j:Nat)(y:x.dst=j)(o:bO)(t:n.an[j]?=S o)(g:bO)(l:Int) (C:∀J,bh κ 116 [.agg o.azR,.agg x.op.azR] J (fm g l)) (A:∀J,bh κ 63 [.agg o.azR,.agg x.op.azR] J (fm g l)) : aaC n e (ji n e.azT i x g l).1 (ji n e.azT i x g l).2:=by
 have F:n.an≠[]:=λh=>by rw[h]at t;simp at t
 have z:=s.azS x (aS p);refine⟨λJ=>Br n s e u _ _ (λJ k a b c h=>?_) J,λJ=>?_⟩
 .have E:aad e.azT=45:=by rcases d with h|h|h<;>rw[h]<;>rfl
  have B:xh e k=[.ptr k 0,.agg e.azR]:=by rw[xh,aw (by omega)]
  rw[E,B];rcases d with d|d|d<;>rw[d];.exact Hl h n s e d i q x p z (by omega) j y o t g l C
  .refine(PI h (bC 0 n.an) (fX 0 n.cw) trivial trivial n.ax e d i q x p (by omega)).mono ?_;rintro r D ⟨rfl,rfl⟩;exact⟨rfl,_,_,_,_,rfl,λ_=>⟨_,_,_,rfl,rfl,rfl,rfl⟩⟩
  refine(JD h (bC 0 n.an) (fX 0 n.cw) trivial trivial n.ax e d i q x p z (by omega)).mono λr D v=>?_;by_cases m:Y n.ax=256
  .rw[aQ m]at v;obtain⟨rfl,rfl⟩:=v;have w:ji n 6 i x g l=(Net.zero,3):=by simp only[ji,aU,aQ m]
   rw[w];exact⟨rfl,_,_,_,_,rfl,λh=>by simp at h⟩
  rw[aw m]at v;obtain⟨rfl,rfl⟩:=v;have w:ji n 6 i x g l=(⟨n.an,n.ax++[x],n.cw⟩,0):=by simp only[ji,aU,aw m]
  rw[w];exact⟨rfl,_,_,_,_,rfl,λ_=>⟨_,_,_,rfl,rfl,rfl,rfl⟩⟩
 rcases d with d|d|d;.exact RB n s f e (.inl d) u i q x p j y o t g l A J
 .exact RB n s f e (.inr d) u i q x p j y o t g l A J
 rw[d];exact UL n s F f e d u i q x p g l J
end Go.Proofs.Tryz

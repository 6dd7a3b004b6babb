/- A part of a proof; the claim's last text says of what. -/
import Derived.Test.YtlakkaamfadipaaGreatDoorS23
set_option linter.all false

namespace Go.Proofs.Tryz
open Go Go.Pm Go.Bt
structure Wc (q:Qr):Prop where
 ok:ef q=0
 kp:q.aia.length≤70
 iP:aH q.aia≤600
 prev:q.bQ.length≤7
 next:q.next.length≤7
theorem Ew{q:Qr}(h1:bA [] q.aia=0)(h2:q.aia≠[])(h3:q.aia.length≤100)(h4:aH q.aia≤900)(h5:(parse q.bQ).2.2=0)(h6:(parse q.next).2.2=0)(h7:0≤q.now∧q.now<90)(h8:1≤q.threshold∧q.threshold≤102)(h9:1≤q.nO∧q.nO≤12):ef q=0:=by
 unfold ef;rw[aI (by rw[oE h1 h3 h4];decide),aI (fun h=>h2 (aG h)),aI (by omega),aI (by omega),aI (by omega)]
theorem FM{e:En}{k:Nat}(hk:k≤20)(h:nc k e){n t m:Int}(h7:0≤n∧n<90)(h8:1≤t∧t≤102)(h9:1≤m∧m≤12):Wc ⟨e.aia,e.bQ,e.next,n,t,m⟩:=by
 have p:=ub.1 h.ok;have b1:=h.kp;have b2:=h.iP;exact⟨Ew h.src (mI h.ok).nonempty (by simp only;omega) (by simp only;omega) p.2.2.2.1 p.2.2.2.2.1 h7 h8 h9,by simp only;omega,by simp only;omega,h.prev,h.next⟩
theorem LM{e:En}{k:Nat}(hk:k≤20)(h:nc k e){s:List UInt8}(hs:s.length≤4){n t m:Int}(h7:0≤n∧n<90)(h8:1≤t∧t≤102)(h9:1≤m∧m≤12):Wc ⟨aih (e.aia++[⟨1,s,0⟩]),e.bQ,e.next,n,t,m⟩:=by
 have p:=ub.1 h.ok;have b1:=h.kp;have b2:=h.iP;obtain⟨c1,c2,c3,c4⟩:=ye h.src (mI h.ok).nonempty s;exact⟨Ew c1 c2 (by simp only;omega) (by simp only;omega) p.2.2.2.1 p.2.2.2.2.1 h7 h8 h9,by simp only;omega,by simp only;omega,h.prev,h.next⟩
set_option maxHeartbeats 4000000 in
set_option maxRecDepth 20000 in
theorem E6(S:ae)(a:Nat)(ha:a<S.length)(l:List Int)(k:Nat)(hk:k<2^45)(es:List En)(Z9:∀ e∈es,nc es.length e)(hn:es.length≤20):
  PC prog 19 [.ptr a 0,.sl 8 (es.map En.ah7)] (fA S a l k) (fun r J'=>∃ (q:Qr) (k':Nat),r=.agg q.ah7∧Wc q∧k'≤k+1000∧J'=fA S a l k'):=by
 refine PC.intro func19 c19 fun bj dx=>?_;simp only[p19,SS,seval];refine b6.cut fun R hR=>?_;simp only[aN,VV,seval];refine hR _ ?_;clear hR R;refine b6.cut fun R hR=>?_;simp only[aN,gE,nb,dt,iQ,VV,seval];refine cm (Nb S a ha l k (by omega) _) rfl ?_;rintro _ _ ⟨q,k1,rfl,⟨⟨e,hE,q1,q2,q3⟩,h7,h8,h9⟩,rZ,rfl⟩;simp only[Qr.ah7,aN,gE,nb,dt,iQ,VV,seval];refine hR _ (b6.gA (fr':=(.ptr a 0::.sl 8 (es.map En.ah7)::uu 2 (.ptr S.length 0::.ptr (S.length+1) 0::uu 37 []))) ?_ (by repeat' constructor));clear hR R;refine b6.LO fun R hR=>?_;have hEb:=hE.toB 0
 have hqe:Wc q:=by
  have:=FM (by omega) hEb h7 h8 h9;obtain⟨qs,qp,qn,qw,qt,qm⟩:=q;simp only at q1 q2 q3 this;rw[q1,q2,q3];exact this
 have tail:∀ (q:Qr) (k2:Nat) (ext:ae) {fr:List V},Wc q→k2≤k+1000→nU fr (uu 4 (.ptr S.length 0::.ptr (S.length+1) 0::uu 37 []))→R ⟨fr,fA S a l k2++(.box 24 [.nil,.s [],.s [],.i .i64 0,.i .i64 0,.i .i64 0]::.box 24 q.ah7::ext)⟩:=by
  intro q k2 ext fr hq nX hc;refine hR _ (b6.gA (ax ?_) hc);simp only[Qr.ah7,aN,gE,nb,dt,iQ,V.pure,VV,seval]
  have key:∀ loc:ae,Wk prog S.length [.agg q.ah7] (fA S a l k2++loc) [.agg q.ah7] (fA S a l k2):=fun loc=>by
   have:=Wk.AP (P:=prog) (xs:=[.agg q.ah7]) (loc:=loc) (fe (k':=k2) bj) (by simp only[Qr.ah7,aN,LW]);rw[aN]at this;exact this
  exact eP (xs':=[.agg q.ah7]) (.inr rfl) (by simp only[jt,sA,gE,VV,seval];rfl) (key _) rfl ⟨_,k2,rfl,hq,nX,rfl⟩
 refine b6.cut fun R5 PM=>?_
 have skip:∀ (k2:Nat) {fr:List V},k2≤k1+1→nU fr (uu 1 (.sl 8 (es.map En.ah7)::uu 2 (.ptr S.length 0::.ptr (S.length+1) 0::uu 10 (.b false::uu 26 []))))→R5 ⟨fr,fA S a l k2++[.box 24 [.nil,.s [],.s [],.i .i64 0,.i .i64 0,.i .i64 0],.box 24 q.ah7]⟩:=by
  intro k2 fr nX hc;refine PM _ (b6.gA (b6.Ys rfl (ax ?_)) hc);simp only[VV,seval];exact tail q k2 [] hqe (by omega) (by repeat' constructor)
 simp only[aN,gE,nb,dt,iQ,ag,VV,seval]
 by_cases gv:es=[]
 ·have e1:decide ((0:Int)<(es.length:Int))=false:=by simp[gv]
  refine oK (Q:=fun _ _=>True) (c:=false) (by simp only[e1,VV,seval]<;>rfl) (fun h=>by simp at h) rfl (fun h=>by simp at h) fun _=>⟨.i .i64 0,?_⟩;simp only[e1,VV,seval];refine skip k1 (by omega) ?_
  repeat' constructor
 have xb:=gR.2 gv;have e1:decide ((0:Int)<(es.length:Int))=true:=by simp;omega
 refine oK (c:=true) (by simp only[e1,VV,seval]<;>rfl) (fun _=>dJ S a ha l k1 (by omega) 4 (by decide) (by decide) _) rfl ?_ (fun h=>by simp at h);rintro _ _ _ ⟨v,rfl,hv,rfl⟩
 by_cases Gl:0<v
 ·have e2:decide (0<v)=true:=by simp[Gl]
  simp only[e1,e2,VV,seval];refine PM _ (b6.gA (fr':=(.ptr a 0::.sl 8 (es.map En.ah7)::uu 2 (.ptr S.length 0::.ptr (S.length+1) 0::uu 10 (.b true::uu 26 [])))) (b6.Yr rfl ?_) (by repeat' constructor));clear PM skip R5;refine b6.cut fun R6 Zj=>?_;simp only[aN,gE,nb,dt,iQ,ag,VV,seval];refine cm (dJ S a ha l (k1+1) (by omega) es.length (by omega) (by omega) _) rfl ?_;rintro _ _ ⟨j,rfl,hj,rfl⟩;simp only[aN,gE,nb,dt,iQ,ag,VV,seval];obtain⟨x,Yu,NW⟩:=OX (out:=es) (n:=j.toNat) (by omega);have hX:=Z9 x Yu;simp only[NW,En.ah7,V.pure,VV,seval];refine⟨⟨hj.1,hj.2⟩,?_⟩;refine Zj _ (b6.gA (fr':=(.ptr a 0::uu 3 (.ptr S.length 0::.ptr (S.length+1) 0::.ptr (S.length+2) 0::uu 36 []))) ?_ (by repeat' constructor));clear Zj R6;refine b6.cut fun R7 Zi=>?_;simp only[Qr.ah7,aN,gE,nb,dt,iQ,V.pure,VV,seval];refine Zi _ (b6.gA (fr':=(.ptr a 0::uu 3 (.ptr S.length 0::.ptr (S.length+1) 0::uu 37 []))) (ax ?_) (by repeat' constructor));clear Zi R7;simp only[aN,gE,nb,dt,iQ,V.pure,VV,seval];refine cm (dJ S a ha l (k1+1+1) (by omega) 2 (by decide) (by decide) _) rfl ?_;rintro _ _ ⟨w,rfl,s5,rfl⟩;have b1:=hX.kp;have b2:=hX.iP;simp only[aN,gE,nb,dt,iQ,V.pure,VV,seval];refine⟨fun h=>?_,fun h=>?_⟩
  ·refine lx (zs:=[.sl 3 (x.aia.map It.ah7),.sl 3 ([(⟨1,[32,114,101,100],0⟩:It)].map It.ah7)]) (.cons (.refl _) (.cons (.lit _ _) .nil)) (kb x.aia [⟨1,[32,114,101,100],0⟩] (by omega) (by simp) (by omega) (by simp[aH]) _) ?_;simp only[aN,gE,nb,dt,iQ,V.pure,VV,seval];refine tail ⟨aih (x.aia++[⟨1,[32,114,101,100],0⟩]),x.bQ,x.next,q.now,q.threshold,q.nO⟩ (k1+1+1+1) _ (LM hn hX (by simp) h7 h8 h9) (by omega) ?_
   repeat' constructor
  ·refine tail ⟨x.aia,x.bQ,x.next,q.now,q.threshold,q.nO⟩ (k1+1+1+1) _ (FM hn hX h7 h8 h9) (by omega) ?_
   repeat' constructor
 ·have e2:decide (0<v)=false:=by simpa using Gl
  simp only[e1,e2,VV,seval];refine skip (k1+1) (by omega) ?_
  repeat' constructor
structure z7 (p:Pn):Prop where
 ok:nL p=0
 dR:0≤p.dR∧p.dR≤58
def oo:List (List UInt8):=[[],[],[97,110,110]]
def mA:List (List UInt8):=[[],[],[113]]
theorem yt:(∀ s∈oo,named s=true)∧∀ s∈mA,named s=true:=by decide +kernel
theorem Va{o r k:Int}{a p:List UInt8}(ho:0≤o∧o<4)(ha:a∈oo)(hp:p∈mA)(hr:0≤r∧r≤58)(hk:0≤k∧k<12):z7 ⟨o,a,p,r,k⟩:=by
 refine⟨?_,hr⟩;unfold nL;simp only;rw[aI (by omega),aI (by rw[yt.1 a ha,yt.2 p hp];decide)]
theorem TJ:Ti prog 84 5 56:=lN (by kernel_rfl)
def tA(g:Nat)(sh:Bool)(f:List Pn):Ob:=.row 84 5 56 g sh (f.map Pn.ah7)
theorem TZ{a b:Int}(ha:0≤a∧a<3)(hb:0≤b∧b<30):0≤a*b∧a*b≤58:=by
 have h:a=0∨a=1∨a=2:=by omega
 rcases h with rfl | rfl | rfl<;>omega
theorem OV{x:V}:(∃ ob:Prop,some (True,x)=some (ob,x)∧ob)=True:=eq_true ⟨True,rfl,trivial⟩
set_option maxHeartbeats 4000000 in
set_option maxRecDepth 20000 in
theorem Us(S:ae)(a:Nat)(ha:a<S.length)(l:List Int){K:Exit→St→Prop}(k0:Nat)(Ml:k0<2^46)(bj:bG (fA S a l k0))(N:Nat)(hN:N≤20):∀ (m:Nat) (k:Nat) (out:List Pn) (g:Nat),m≤N→out.length+m≤N→(∀ o∈out,z7 o)→k+1000*m≤k0+1000*N →
  (∀ (k:Nat) (out:List Pn) (g:Nat),(∀ o∈out,z7 o)→out.length≤N→k≤k0+1000*N→((fj 5 (fh (.own S.length g) (fj 33 fo))) fun ZZ=>K (.exit 0) ⟨ZZ,fA S a l k++[tA g false out]⟩)) →
  fp S.length prog IS K (m+1) ⟨(.ptr a 0::uu 4 (.own S.length g::.i .i64 m::uu 32 [])),fA S a l k++[tA g false out]⟩:=by
 intro m
 induction m with
 | zero =>
  intro k out g hm s7 ho hk h1;refine aB fun R hR=>?_;simp only[IS,VV,seval];exact⟨fun h=>by simp at h,fun _=>h1 k out g ho (by omega) (by omega) ..⟩
 | succ m ih =>
  intro k out g hm s7 ho hk h1;have hw:IntKind.i64.wrap (((m+1:Nat):Int) - 1)=(m:Int):=by rw[IntWalk.i64_in _ (by omega)];omega
  refine uN fun R hR=>?_;simp only[IS];refine b6.cut fun R1 Jq=>?_;simp only[VV,seval];refine⟨fun _=>?_,fun h=>by simp at h<;>omega⟩;refine Jq _ (b6.gA (fr':=(.ptr a 0::uu 4 (.own S.length g::.i .i64 (m+1:Nat)::uu 32 []))) ?_ (by repeat' constructor));clear Jq R1;refine b6.LO fun R2 Zl=>b6.ic ?_
  have again:∀ (out2:List Pn) (g2 k2:Nat) (ext:ae) {fr:List V},(∀ o∈out2,z7 o)→out2.length≤out.length+1→k2≤k+1000→nU fr (.ptr a 0::uu 4 (.own S.length g2::.i .i64 (m+1:Nat)::uu 32 []))→R2 ⟨fr,fA S a l k2++(tA g2 false out2::ext)⟩:=by
   intro out2 g2 k2 ext fr c1 c2 c3 hc;refine Zl _ (b6.gA (ax ?_) hc);simp only[hw,VV,seval]
   have s5:Wk prog S.length (.ptr a 0::uu 4 (.own S.length g2::.i .i64 m::uu 32 [])) (fA S a l k2++(tA g2 false out2::ext)) (.ptr a 0::uu 4 (.own S.length g2::.i .i64 m::uu 32 [])) (fA S a l k2++[tA g2 false out2]):=by
    have:=Wk.wF (P:=prog) (n:=S.length) (xs:=(.ptr a 0::uu 4 (.own S.length g2::.i .i64 m::uu 32 []))) (J:=fA S a l k2++[tA g2 false out2]) (loc:=ext) (by simp[aN]) (cj (fe bj) (by simp[tA])) (dS.1 (by
     rw[al,aN];simp only[ai,aC,Nat.lt_add_one,Nat.lt_add_right 1 ha,bz,LW]))
    rwa [aR,iH]at this
   exact hR _ (sy ((Wk.gA (by repeat' constructor)).trans s5) (ih k2 out2 g2 (by omega) (by omega) c1 (by omega) h1))
  refine ax ?_;simp only[tA,aN,gE,nb,dt,iQ,V.pure,ag,VV,seval];refine cm (dJ S a ha l k (by omega) 4 (by decide) (by decide) _) rfl ?_;rintro _ _ ⟨v1,rfl,NX,rfl⟩;simp only[aN,gE,nb,dt,iQ,V.pure,VV,seval];refine cm (dJ S a ha l (k+1) (by omega) 3 (by decide) (by decide) _) rfl ?_;rintro _ _ ⟨v2,rfl,PE,rfl⟩;obtain⟨a1,ha1,ea⟩:=ix (ws:=oo) (n:=v2.toNat) (by simp[oo];omega);simp only[oo,ay,bo]at ea;have q2:(0≤v2∧v2<3)=True:=eq_true PE;simp only[ea,q2,OV,gk,aN,gE,nb,dt,iQ,V.pure,VV,seval];refine cm (dJ S a ha l (k+1+1) (by omega) 3 (by decide) (by decide) _) rfl ?_;rintro _ _ ⟨v3,rfl,Yy,rfl⟩;obtain⟨p1,Gm,ep⟩:=ix (ws:=mA) (n:=v3.toNat) (by simp[mA];omega);simp only[mA,ay,bo]at ep;have q3:(0≤v3∧v3<3)=True:=eq_true Yy;simp only[ea,ep,q2,q3,OV,gk,aN,gE,nb,dt,iQ,V.pure,VV,seval];refine cm (dJ S a ha l (k+1+1+1) (by omega) 3 (by decide) (by decide) _) rfl ?_;rintro _ _ ⟨v4,rfl,hv4,rfl⟩;simp only[ea,ep,q2,q3,OV,gk,aN,gE,nb,dt,iQ,V.pure,VV,seval];refine cm (dJ S a ha l (k+1+1+1+1) (by omega) 30 (by decide) (by decide) _) rfl ?_;rintro _ _ ⟨v5,rfl,hv5,rfl⟩;have hm5:=TZ hv4 hv5;have wm:IntKind.i64.wrap (v4*v5)=v4*v5:=IntWalk.i64_in _ (by omega);simp only[wm,ea,ep,q2,q3,OV,gk,aN,gE,nb,dt,iQ,V.pure,VV,seval];refine cm (dJ S a ha l (k+1+1+1+1+1) (by omega) 12 (by decide) (by decide) _) rfl ?_;rintro _ _ ⟨v6,rfl,hv6,rfl⟩;simp only[wm,ea,ep,q2,q3,OV,gk,aN,gE,nb,dt,iQ,ag,V.pure,VV,seval];refine⟨⟨by omega,by simp only[maxLen];omega⟩,?_⟩
  have e0:out.map Pn.ah7++[[.i .i64 v1,.s a1,.s p1,.i .i64 (v4*v5),.i .i64 v6]]=(out++[(⟨v1,a1,p1,v4*v5,v6⟩:Pn)]).map Pn.ah7:=by
   simp[Pn.ah7]
  rw[e0];refine again (out++[⟨v1,a1,p1,v4*v5,v6⟩]) (g+1) (k+1+1+1+1+1+1) [] ?_ (by simp) (by omega) ?_
  ·intro z hz;rcases bL.1 hz with hz | hz
   ·exact ho z hz
   ·rw[bU]at hz;subst hz;exact Va NX ha1 Gm hm5 hv6
  ·repeat' constructor
theorem Cq(S:ae)(a:Nat)(ha:a<S.length)(l:List Int)(k:Nat)(hk:k<2^45)(N:Nat)(hN:N≤20):
  PC prog 18 [.ptr a 0,.i .i64 N] (fA S a l k) (fun r J'=>∃ (out:List Pn) (k':Nat),r=.sl 5 (out.map Pn.ah7)∧(∀ o∈out,z7 o)∧out.length≤N∧k'≤k+1000*N+1∧J'=fA S a l k'):=by
 refine PC.intro func18 c18 fun bj dx=>ax ?_;have hw:IntKind.i64.wrap ((N:Int)+1)=((N+1:Nat):Int):=bd (by omega);simp only[p18,SS,seval];simp only[aN,hw,VV,seval];refine cm (o7 S a ha l k (by omega) ((N+1:Nat):Int) (by omega) (by omega)) rfl ?_;rintro _ _ ⟨v,rfl,hv,rfl⟩;obtain⟨m,rfl⟩:∃ m:Nat,v=m:=⟨v.toNat,by omega⟩;simp only[aN,hw,VV,seval]
 refine b6.wk (((Wk.gA (ys:=(.ptr a 0::uu 4 (.nil::.i .i64 m::uu 32 []))) (by repeat' constructor)).trans (Wk.iy (P:=prog) (J:=fA S a l (k+1)) (k:=5) TJ rfl)).trans (Wk.gA (ys:=(.ptr a 0::uu 4 (.own S.length 0::.i .i64 m::uu 32 []))) ?_))
  (b6.vP (m+1) (Us S a ha l (k+1) (by omega) (fe bj) m (by omega) m (k+1) [] 0 (aq _) (by simp) (by simp) (by omega) ?_))
 ·simp only[aN,ai,aC,VV,seval]
  repeat' constructor
 intro k' out g c1 c2 c3;simp only[JE];intros;simp only[tA,aN,gE,nb,dt,iQ,VV,seval];refine eP (xs':=[.sl 5 (out.map Pn.ah7)]) (.inr rfl) rfl ((Wk.fz S.length (E:=84) (sz:=5) (by':=56) (g:=g) (sh:=false) (rows:=out.map Pn.ah7) (by rw[gE];rfl)).trans ?_) rfl ⟨out,k',rfl,c1,by omega,by omega,rfl⟩;rw[dt];simp only[ay,bo,ev,di,aV,aW,jV,iD,fz,qD,jx,aL];have:=Wk.AP (P:=prog) (xs:=[.sl 5 (out.map Pn.ah7)]) (loc:=[Ob.row 84 5 56 g true (out.map Pn.ah7)]) (fe (k':=k') bj) (by simp only[aN,LW]);rw[aN]at this;exact this
def FK(f:List It):List V:=[.sl 3 (f.map It.ah7)]
theorem NJ{J:ae}{K:Exit→St→Prop}(bj:bG J)(a7:List (List It))(F8 F9:Int)(f:List It)(hlen:f.length<2^40):∀ (rest pre:List It) (n:Int),f=pre++rest →
  (∀ n:Int,((fh (.sl 1 (a7.map FK)) (fj 2 (fh (.i .i64 n) (fj 4 (fh (.i .i64 F8) (fh (.i .i64 F9) (fj 21 fo))))))) fun ZZ=>K (.exit 2) ⟨ZZ,J⟩)) →
  fp J.length prog IW K (rest.length+1) ⟨(.sl 1 (a7.map FK)::uu 2 (.i .i64 n::uu 4 (.i .i64 F8::.i .i64 F9::uu 5 (.sl 3 (f.map It.ah7)::.i .i64 f.length::.i .i64 pre.length::uu 13 [])))),J⟩:=by
 intro rest
 induction rest with
 | nil =>
  intro pre n he h1;have he:f=pre:=by simpa using he
  subst he;refine aB fun R hR=>?_;simp only[IW,VV,seval];exact⟨fun h=>by simp at h,fun _=>h1 n ..⟩
 | cons x rest ih =>
  intro pre n he h1;have rq:f.length=pre.length+(rest.length+1):=by rw[he];simp
  have hw:IntKind.i64.wrap ((pre.length:Int)+1)=(((pre++[x]).length:Nat):Int):=by
   rw[bd (by omega)];simp
  have eA:(List.map It.ah7 f).getD pre.length []=x.ah7:=by rw[he];exact uM
  have hd:decide ((pre.length:Int)<(f.length:Int))=true:=by simp;omega
  refine aB fun R hR=>?_;simp only[IW,aD,eA,hd,hw,It.ah7,ag,V.pure,VV,seval];refine⟨⟨by omega,by omega⟩,?_⟩;refine hR _ (oh (aq _) bj ?_ ?_ (ih (pre++[x]) (IntKind.i64.wrap (n+IntKind.i64.wrap (1+x.aib.length))) (by rw[he];simp) h1))
  ·repeat' constructor
  ·simp only[LW]
theorem NI{J:ae}{K:Exit→St→Prop}(bj:bG J)(fs:List (List It))(hfs:fs.length<2^40)(hlen:∀ f∈fs,f.length<2^40):∀ (rest pre:List (List It)) (n:Int),fs=pre++rest →
  (∀ n:Int,((fj 3 (fh (.i .i64 n) (fj 27 fo))) fun ZZ=>K (.exit 0) ⟨ZZ,J⟩)) →
  fp J.length prog IV K (rest.length+1) ⟨(.sl 1 (fs.map FK)::uu 2 (.i .i64 n::uu 4 (.i .i64 fs.length::.i .i64 pre.length::uu 21 []))),J⟩:=by
 intro rest
 induction rest with
 | nil =>
  intro pre n he h1;have he:fs=pre:=by simpa using he
  subst he;refine aB fun R hR=>?_;simp only[IV,VV,seval];exact⟨fun h=>by simp at h,fun _=>h1 n ..⟩
 | cons f rest ih =>
  intro pre n he h1;have rq:fs.length=pre.length+(rest.length+1):=by rw[he];simp
  have hw:IntKind.i64.wrap ((pre.length:Int)+1)=(((pre++[f]).length:Nat):Int):=by
   rw[bd (by omega)];simp
  have eA:eS (fs.map FK) pre.length 0=some (.sl 3 (f.map It.ah7)):=by rw[he,qO];rfl
  have hd:decide ((pre.length:Int)<(fs.length:Int))=true:=by simp;omega
  have hl:=hlen f (by rw[he];simp);refine aB fun R hR=>?_;simp only[IV,aD,eA,hd,hw,ag,V.pure,VV,seval];refine⟨⟨by omega,by omega⟩,?_⟩;refine b6.aZ (fr':=(.sl 1 (fs.map FK)::uu 2 (.i .i64 n::uu 4 (.i .i64 fs.length::.i .i64 pre.length::uu 5 (.sl 3 (f.map It.ah7)::.i .i64 f.length::.i .i64 (([]:List It).length:Nat)::uu 13 []))))) (by repeat' constructor) (f.length+1) (NJ bj fs _ _ f hl f [] n rfl ?_);intro n;simp only[JE];intros;simp only[hw,VV,seval];refine hR _ (aZ ?_ (ih (pre++[f]) n (by rw[he];simp) h1))
  repeat' constructor
theorem NK(fs:List (List It))(hfs:fs.length<2^40)(hlen:∀ f∈fs,f.length<2^40)(J:ae):PC prog 11 [.sl 1 (fs.map FK)] J (fun r J'=>∃ b:Bool,r=.b b∧J'=J):=by
 refine PC.intro func11 c11 fun bj dx=>ax ?_;simp only[p11,SS,seval];simp only[ag,VV,seval];refine b6.aZ (fr':=(.sl 1 (fs.map FK)::uu 2 (.i .i64 (0:Int)::uu 4 (.i .i64 fs.length::.i .i64 (([]:List (List It)).length:Nat)::uu 21 [])))) (by repeat' constructor) (fs.length+1) (NI bj fs hfs hlen fs [] 0 rfl ?_);intro n;simp only[JE];intros;simp only[VV,seval];exact aU (.inr rfl) (by simp only[RS,seval];rfl) ⟨_,rfl,rfl⟩
end Go.Proofs.Tryz

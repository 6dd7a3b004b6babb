/- A part of a proof; the claim's last text says of what. -/
import Derived.Test.YtlakkaamfadipaaGreatDoorS34
import Derived.Test.YtlakkaamfadipaaGreatDoorS35
set_option linter.all false

namespace Go.Proofs.Tryz
open Go Go.Pm Go.Bt
theorem Pd(a b c d e:Int):dO [0,0,0,0,0] [.i .i64 a,.i .i64 b,.i .i64 c,.i .i64 d,.i .i64 e] [.i .i64 a,.i .i64 b,.i .i64 c,.i .i64 d,.i .i64 e]=some true:=by
 simp[dO,bY]
structure DA (e:En) (l:List Pn) (q:Qr):Prop where
 sc:L4 e l q
 e1:e.aia.length≤1048576
 e2:aH e.aia≤1048576
 q1:q.aia.length≤1048576
 q2:aH q.aia≤1048576
theorem DA.te{e:En}{l:List Pn}{q:Qr}(h:DA e l q):(cR e.aia).length<2^27:=by
 have:=DW e.aia;have:=h.e1;have:=h.e2;omega
theorem DA.tq{e:En}{l:List Pn}{q:Qr}(h:DA e l q):(cR q.aia).length<2^27:=by
 have:=DW q.aia;have:=h.q1;have:=h.q2;omega
theorem Ej{e:En}{l:List Pn}{q:Qr}(h:DA e l q)(J:ae):PC prog 20 [.agg e.ah7,.sl 5 (l.map Pn.ah7),.agg q.ah7] J (fun r J'=>r=.agg (sr e l q).ah7∧J'=J) :=
 Ei e l q h.sc (by have:=h.e1;omega) (by have:=h.e2;omega) (by have:=h.q1;omega) (by have:=h.q2;omega) h.te h.tq J
theorem vV{e:En}{l:List Pn}{q:Qr}(h:DA e l q)(J:ae):PC prog 21 [.agg e.ah7,.sl 5 (l.map Pn.ah7),.agg q.ah7] J (fun r J'=>r=.agg (sr e l q).ah7∧J'=J) :=
 Et e l q h.sc (by have:=h.e1;omega) (by have:=h.e2;omega) (by have:=h.q1;omega) (by have:=h.q2;omega) h.te h.tq J
theorem Yl{n:Nat}{S:ae}{K:Exit→St→Prop}(x3 x4:V)(z:Nat)(q:Qr)(hz:S[z]?=some (.box 24 q.ah7))(es:List En)(Z9:es.length<2^20)(ps:List Pn)(sI:∀ e∈es,DA e ps q):∀ (rest pre:List En),es=pre++rest →
  ((fj 3 (fh (x3) (fh (x4) (fj 4 (fh (.sl 5 (ps.map Pn.ah7)) (fj 84 fo)))))) fun ZZ=>K (.exit 0) ⟨ZZ,S⟩) →
  fp n prog Qk K (rest.length+1) ⟨(uu 3 (x3::x4::uu 3 (.sl 8 (es.map En.ah7)::.sl 5 (ps.map Pn.ah7)::.ptr z 0::uu 51 (.i .i64 es.length::.i .i64 pre.length::uu 30 [])))),S⟩:=by
 intro rest
 induction rest with
 | nil =>
  intro pre he h1;have he:es=pre:=by simpa using he
  subst he;refine aB fun R hR=>?_;simp only[Qk,VV,seval];exact⟨fun h=>by simp at h,fun _=>h1 ..⟩
 | cons e rest ih =>
  intro pre he h1;have hel:es.length=pre.length+(rest.length+1):=by rw[he];simp
  have hw:IntKind.i64.wrap ((pre.length:Int)+1)=(((pre++[e]).length:Nat):Int):=by
   rw[bd (by omega)];simp
  have eA:(List.map En.ah7 es).getD pre.length []=e.ah7:=by rw[he];exact uM
  have hd:decide ((pre.length:Int)<(es.length:Int))=true:=by simp;omega
  have hi:=sI e (by rw[he];simp);simp only[En.ah7]at eA;simp only[Qr.ah7]at hz;have o1:(0:Int)≤(pre.length:Int)∧(pre.length:Int)<(es.length:Int):=by omega
  refine aB fun R hR=>?_;simp only[Qk,hz,eA,hd,hw,ag,aD,V.pure,↓IT,VV,seval];refine⟨o1,o1,?_⟩;refine az (Ej hi _) (by simp only[En.ah7,Qr.ah7,VV,seval]) ?_;simp only[hz,eA,hd,hw,Mt.ah7,ag,aD,V.pure,↓IT,VV,seval];refine⟨o1,?_⟩;refine az (vV hi _) (by simp only[En.ah7,Qr.ah7,VV,seval]) ?_;simp only[Pd,hz,eA,hd,hw,Mt.ah7,xl,ag,aD,V.pure,↓IT,VV,seval];refine hR _ (aZ ?_ (ih (pre++[e]) (by simp[he]) h1))
  repeat' constructor
theorem Nk{J:ae}{b c:Ob}{l:List Int}:J++[b,c,.box 31 [.sl 1 (l.map bR),.i .i64 0]]=fA (J++[b,c,.dead]) (J.length+2) l 0:=by
 simp[fA]
theorem RE{e:En}{k:Nat}(hk:k≤20)(h:nc k e){ps:List Pn}(hp:∀ p∈ps,z7 p)(hl:ps.length≤20){q:Qr}(hq:Wc q):DA e ps q:=by
 have b1:=h.kp;have b2:=h.iP;have c1:=hq.kp;have c2:=hq.iP;have E:=(mI h.ok).aif;have Q:=hq.ok;unfold ef at Q;have hn:0≤q.now∧q.now≤1073741824:=by(repeat' split at Q)<;>omega
 exact⟨⟨by omega,by omega,by omega,fun p hp'=>by have:=(hp p hp').dR;omega⟩,by omega,by omega,by omega,by omega⟩
theorem Sq{e:En}(he:JO e){q:Qr}(hq:JM q){ps:List Pn}(hp:∀ p∈ps,z7 p)(hl:ps.length≤20):DA e ps q:=by
 have h1:=he.aia;have h2:=hq.aia;exact⟨⟨hq.now,he.aif,by omega,fun p hp'=>by have:=(hp p hp').dR;omega⟩,by omega,by omega,by omega,by omega⟩
set_option maxHeartbeats 4000000 in
set_option maxRecDepth 20000 in
theorem yO(Dg:∀ J:ae,PC prog 12 [] J (fun r J'=>r=.b true∧J'=J))(e:En)(q:Qr)(he:JO e)(hq:JM q)(l:List Int)(J:ae):PC prog 4 [.agg e.ah7,.agg q.ah7,.sl 1 (l.map bR)] J (fun r J'=>r=.b true∧J'=J):=by
 refine PC.intro func4 c4 fun bj dx=>?_;have he1:=he.aia;have Mg:=hq.aia;simp only[p4,SS,seval];refine b6.cut fun R hR=>?_;simp only[En.ah7,Qr.ah7,VV,seval];refine hR _ (b6.gA (fr':=(uu 2 (.sl 1 (l.map bR)::.ptr J.length 0::.ptr (J.length+1) 0::uu 89 []))) ?_ (by repeat' constructor));clear hR R;refine b6.cut fun R hR=>?_;simp only[V.pure,VV,seval];refine cm (PC.wk (args':=[.sl 1 ([e.aia,q.aia].map FK)]) (Wk.gA (.cons (.lit _ _) .nil)) (NK [e.aia,q.aia] (by simp) (by simp;omega) _)) rfl ?_;rintro _ _ ⟨b,rfl,rfl⟩
 have cont:∀ {fr:List V},nU fr (uu 2 (.sl 1 (l.map bR)::.ptr J.length 0::.ptr (J.length+1) 0::uu 89 []))→R ⟨fr,J++[.box 37 e.ah7,.box 24 q.ah7]⟩:=by
  intro fr hc;refine hR _ (b6.gA ?_ hc);clear hR R hc;refine b6.cut fun R hR=>?_;simp only[V.pure,VV,seval];refine hR _ (b6.gA (fr':=(uu 3 (.ptr J.length 0::.ptr (J.length+1) 0::uu 2 (.ptr (J.length+2) 0::uu 86 [])))) ?_ (by repeat' constructor));clear hR R;rw[Nk];refine b6.cut fun R hR=>?_;simp only[V.pure,VV,seval];refine cm (HQ _ (J.length+2) (by simp) l 0 (by decide) 3 (by decide)) rfl ?_;rintro _ _ ⟨es,k1,rfl,g1,g2,g3,rfl⟩;simp only[V.pure,VV,seval];refine hR _ (b6.gA (fr':=(uu 3 (.ptr J.length 0::.ptr (J.length+1) 0::uu 2 (.ptr (J.length+2) 0::.sl 8 (es.map En.ah7)::uu 85 [])))) ?_ (by repeat' constructor));clear hR R;refine b6.cut fun R hR=>?_;simp only[V.pure,VV,seval];refine cm (Cq _ (J.length+2) (by simp) l k1 (by omega) 3 (by decide)) rfl ?_;rintro _ _ ⟨ps,k2,rfl,p1,p2,p3,rfl⟩;simp only[V.pure,VV,seval];refine hR _ (b6.gA (fr':=(uu 3 (.ptr J.length 0::.ptr (J.length+1) 0::uu 2 (.ptr (J.length+2) 0::.sl 8 (es.map En.ah7)::.sl 5 (ps.map Pn.ah7)::uu 84 [])))) ?_ (by repeat' constructor));clear hR R;refine b6.cut fun R hR=>?_;simp only[V.pure,VV,seval];refine cm (E6 _ (J.length+2) (by simp) l k2 (by omega) es g1 (by omega)) rfl ?_;rintro _ _ ⟨x,k3,rfl,hX,_,rfl⟩;have rH:fA (J++[.box 37 e.ah7,.box 24 q.ah7,.dead]) (J.length+2) l k3=J++[.box 37 e.ah7,.box 24 q.ah7,.box 31 [.sl 1 (l.map bR),.i .i64 k3]]:=by simp[fA]
  rw[rH];generalize Ob.box 31 _=nb;simp only[Qr.ah7,aN,V.pure,VV,seval];refine hR _ (b6.gA (fr':=(uu 3 (.ptr J.length 0::.ptr (J.length+1) 0::uu 3 (.sl 8 (es.map En.ah7)::.sl 5 (ps.map Pn.ah7)::.ptr (J.length+3) 0::uu 83 [])))) ?_ (by repeat' constructor));clear hR R;refine b6.cut fun R hR=>?_;simp only[ag,V.pure,VV,seval];refine b6.aZ (fr':=(uu 3 (.ptr J.length 0::.ptr (J.length+1) 0::uu 3 (.sl 8 (es.map En.ah7)::.sl 5 (ps.map Pn.ah7)::.ptr (J.length+3) 0::uu 51 (.i .i64 es.length::.i .i64 (([]:List En).length:Nat)::uu 30 []))))) (by repeat' constructor) (es.length+1) (Yl _ _ (J.length+3) x (by simp[Qr.ah7]) es (by omega) ps (fun z hz=>RE (by omega) (g1 z hz) p1 (by omega) hX) es [] rfl ?_);simp only[JE];intros;simp only[VV,seval];refine hR _ (b6.gA (fr':=(uu 3 (.ptr J.length 0::.ptr (J.length+1) 0::uu 4 (.sl 5 (ps.map Pn.ah7)::uu 84 [])))) (ax ?_) (by repeat' constructor));clear hR R;have sI:=Sq he hq p1 (by omega);simp only[En.ah7,V.pure,VV,seval];refine az (Ej sI _) (by simp only[En.ah7,Qr.ah7,VV,seval]) ?_;simp only[Mt.ah7,V.pure,VV,seval];refine az (vV sI _) (by simp only[En.ah7,Qr.ah7,VV,seval]) ?_;simp only[Pd,Mt.ah7,V.pure,VV,seval];refine cu (c:=true) (by simp only[VV,seval]<;>rfl) (fun _=>Dg _) rfl ?_;simp only[VV,seval];exact jz bj (by rfl) (by simp[LW])
 cases b
 ·simp only[V.pure,VV,seval];refine az (Dg _) rfl ?_;simp only[VV,seval];exact jz bj (by rfl) (by simp[LW])
 ·simp only[V.pure,VV,seval];refine⟨fun _=>?_,fun _=>cont (by repeat' constructor)⟩;refine az (Dg _) rfl ?_;simp only[VV,seval];exact jz bj (by rfl) (by simp[LW])
end Go.Proofs.Tryz

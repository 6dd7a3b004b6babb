/- A part of a proof; the claim's last text says of what. -/
import Derived.Test.YtfeddmfijllgmaaGreatDoorB13
import Derived.Test.YtfeddmfijllgmaaGreatDoorB14
import Derived.Test.YtfeddmfijllgmaaGreatDoorB30
set_option linter.all false
set_option maxHeartbeats 2000000
open Option renaming some->S,none->Z
open Bool renaming true->θ,false->G
open Go.Proofs.Tryz renaming prog->κ
open List renaming length->Y

namespace Go.Proofs.Tryz
open Go Go.Pm Go.Bt
variable(Q:gh)(g:Nat)(X:gW)(U:Int×Int)(n:Int)(a:List aV)(M:aV)(y:List En)(N:List bO)(F:aB)(i:aV)(p:aR)(D:List aV)(A:List En)(T:aj)(P:Net)(L:bO)(w:bU){v:Int}{k:Nat}{R H:Ob}{s t:aB}{E:aR}{J:aj}{K:bL}{B:gh}
def Wm:Ti κ 57 13 184:=o8 (by kernel_rfl)
def aa9:Ti κ 36 8 128:=o8 (by kernel_rfl)
def U3{m:List (aR×aV)}{o:aV}(h:jM E m=S o):∃i,kL 1 (.s E) (sF m) 0=S (S (i,opV o)):=by
 rcases Gw m E with⟨a,_,_⟩|⟨i,b,a,c,_⟩;.rw[h]at a;simp at a
 rw[h]at a;simp only[ab]at a;subst a;exact⟨i,c⟩
def agJ{o2:Ob}(m:List (aR×aV))(e:X.length<2^39)(A:∀p∈m,p.2.azU)(n:∀a∈X,∃o,jM a m=some o): ∀(b d:gW) (c:List aV) (g:Nat),X=d++b->c.length+b.length<=X.length ->(∀g,((fj 3 (fh (.mp J.length) (fh (.own (J.length+3) g) (fj 6 (fh (.own (J.length+2) 0) (fj 14 fo)))))) λv=>K (.exit 0) ⟨v,J++[.map 9 57 (sF m),o2,.row 9 1 16 0 G (X.map sq),.row 57 13 184 g G ((c++b.filterMap λa=>jM a m).map aV.azR)]⟩)) ->gw k κ OZ K (b.length+1) ⟨(uu 3 (.mp J.length::.own (J.length+3) g::uu 6 (.own (J.length+2) 0::.I X.length::.I d.length::uu 12 []))),J++[.map 9 57 (sF m),o2,.row 9 1 16 0 G (X.map sq),.row 57 13 184 g G (c.map aV.azR)]⟩:=by
 intro b;induction b with
 |nil =>intro d c g f l j;have f:=dL f;subst f;refine az λR u=>?_;simp only[OZ,VV,seval];simp only[List.filterMap_nil,bI]at j;exact⟨λh=>by simp at h,λ_=>j g ..⟩
 |cons x b ih =>
 intro d c g f l j;subst f;obtain⟨o,q⟩:=n x (by simp);have w:=A _ (Tb q);obtain⟨i,r⟩:=U3 q;have y:∀t,lH (J++(.map 9 57 (sF m))::t) 1 (.mp J.length) (.s x)=some (some (i,opV o)):=λt=>by simp only[lH,jD,aC,r]
 refine az λR u=>?_;simp only[OZ,sq,y,opV,V.vC,aa,VV,seval];refine⟨λ_=>⟨by simp;omega,?_⟩,λh=>by simp at h<;>omega⟩;refine al (sK o w _) rfl ?_;simp only[ae]at l;simp only[aa,aV.azR,cL.azR,En.azR,maxLen,V.pure,VV,seval];refine⟨by simp at l e;omega,?_⟩;have z:(c.map aV.azR++[[.I o.aY.time,.I o.aY.bS,.I o.aY.azW,.I o.azT,.sl 3 (o.azV.azZ.map It.azR),.sl 3 (o.azV.az0.map It.azR),.s o.azV.cM,.s o.azV.next,.s o.azV.eu,.s o.azV.dC,.I o.azV.aAb,.I o.azV.aAc,.sl 1 (o.az1.map cN)]])=(c++[o]).map aV.azR:=by simp[aV.azR,cL.azR,En.azR]
 rw[z];refine u _ (bX ?_ (ih (d++[x]) (c++[o]) (g+1) (by simp) (by simp at l |-;omega) ?_));.rw[da (by simp at e;omega)];simp only[ah,ae,ai];repeat' constructor
 simp only[nZ,q]at j;simpa using j
def Pz(l:List aV)(c:∀o∈l,o.azU)(J:aj):bh κ 180 [.sl 13 (l.map aV.azR)] J (.sl 13 ((current l).map aV.azR)):=by
 refine aW func180 apf.2 λe h=>aq ?_;simp only[apf,SS,seval];simp only[VV,seval];refine al (Hf l c _) rfl ?_;simp only[VV,seval];have a:=Sz J.length (J++[.map 9 57 (sF (iE l))]);simp only[ah,ae,ai,aG,aO,aF,ay]at a;refine al a rfl ?_;simp only[VV,seval];have d:=zS l;have i:=FQ l;have b:=Il (β:=aV) (ve:=opV) (id:=Y J) (k:=Y J+1) (E:=57) (l:=iE l) (J:=J++[.map 9 57 (sF (iE l)),.box 230 [.mp (Y J)]])
  (by simp only[kO,bY,aC]) (by simp only[jD,aC];rfl) (B6 l) (by omega);simp only[ah,ae,ai,aG,Nat.reduceAdd,aO,aF,ay]at b;refine al b rfl ?_;simp only[aa,VV,seval];refine cB.wk ((Wk.ph (J:=J) [_,_,_] (k:=4) Wm rfl).trans (Wk.fw ?_)) (cB.kT (Y (lZ l)+1) (agJ (lZ l) (iE l) (by omega)
  (λp f=>c _ (zH f).2) (λk a=>zi a) (lZ l) [] [] 0 rfl (by simp) ?_));.simp only[W,seval];repeat' constructor
 intro g;simp only[JE];intros;simp only[VV,seval];refine iw 3 e (.inr rfl) rfl rfl ?_ ?_;.simp only[aX,bB,aI,ar,fz,kE,cG,aU,LW]
 simp only[aX,bB,aI,ar,fz,kE,cG,aU];exact⟨rfl,trivial⟩
def ag0(w:bT J)(f:Y a<2^39):∀(b d:List aV) (c:List En) (g:Nat),a=d++b->Y c+Y b<=Y a ->(∀g,((fj 3 (fh (.own J.length g) (fj 19 fo))) λt=>K (.exit 0) ⟨t,J++[.row 36 8 128 g G ((c++(b.filter λo=>o.azT==1).map (·.azV)).map En.azR)]⟩)) ->gw (Y J) κ Jn K (Y b+1) ⟨(uu 3 (.own J.length g::uu 3 (.sl 13 (a.map aV.azR)::.I (Y a)::.I (Y d)::uu 13 []))),J++[.row 36 8 128 g G (c.map En.azR)]⟩:=by
 intro b;induction b with
 |nil =>intro d c g j q k;have j:=dL j;subst j;refine az λR l=>?_;simp only[Jn,VV,seval];simp only[u7,ar,bI]at k;exact⟨λh=>by simp at h,λ_=>k g ..⟩
 |cons x b ih =>
 intro d c g j q k;subst j;simp only[ae]at q;have next:∀(e:List En) (n:Nat) {i:aj},Y e<=Y c+1->c++((x::b).filter λo=>o.azT==1).map (·.azV)=e++(b.filter λo=>o.azT==1).map (·.azV)->∀{R:ck} {p:aB},(∀m,gw (Y J) κ Jn K (Y b+1) m->R m) ->
   rk p (uu 3 (.own J.length n::uu 3 (.sl 13 ((d++x::b).map aV.azR)::.I (Y (d++x::b))::.I (IntKind.i64.wrap ((Y d:Int)+1))::uu 13 [])))->R ⟨p,J++(.row 36 8 128 n G (e.map En.azR)::i)⟩:=by intro e n i z y R p l r;have u:=dD d x (by simp at f;omega);rw[u]at r;rw[y]at k;refine l _ (cn [_] i (cj w (by simp)) r ?_ (ih (d++[x]) e n (by simp) (by omega) k));simp only[LW,ae,ai,aG];omega
 refine az λR l=>?_;simp only[Jn,aV.azR,cL.azR,En.azR,VV,seval];refine⟨λ_=>⟨by simp;omega,?_⟩,λh=>by simp at h<;>omega⟩;refine⟨λh=>?_,λh=>?_⟩
 .simp only[aa,maxLen,V.pure,VV,seval];refine⟨by simp at q f;omega,?_⟩;have v:(c.map En.azR++[[.sl 3 (x.azV.azZ.map It.azR),.sl 3 (x.azV.az0.map It.azR),.s x.azV.cM,.s x.azV.next,.s x.azV.eu,.s x.azV.dC,.I x.azV.aAb,.I x.azV.aAc]])=(c++[x.azV]).map En.azR:=by simp[En.azR]
  rw[v];refine next (c++[x.azV]) (g+1) (by simp) (by simp[h]) l ?_;repeat' constructor
 refine next c g (by omega) (by simp[h]) l ?_;repeat' constructor
def Sm(d:∀o∈a,o.azU)(J:aj):bh κ 126 [.sl 13 (a.map aV.azR)] J (.sl 8 ((dw a).map En.azR)):=by
 refine aW func126 apZ.2 λb e=>aq ?_;simp only[apZ,SS,seval];simp only[VV,seval];refine al (Pz a d _) rfl ?_;simp only[aa,VV,seval];have c:=AZ a;refine cB.wk ((Wk.k9 (J:=J) (k:=3) aa9 rfl).trans (Wk.fw ?_)) (cB.kT (Y (current a)+1) (ag0 (current a) b (by omega) (current a) [] [] 0 rfl (by simp) ?_));.simp only[W,seval];repeat' constructor
 intro g;simp only[JE];intros;simp only[VV,seval];refine iw 0 b (.inr rfl) rfl rfl ?_ ?_;.simp only[aX,bB,aI,ar,cu,fz,kE,cG,aU,LW]
 simp only[aX,bB,aI,ar,cu,fz,kE,cG,aU];exact⟨rfl,trivial⟩
def zz:rk [.I n,.I 0,.nil,.nil,.I 0,.b G] (bO.azR ⟨n,0,[],[],0,G⟩):=by simp only[bO.azR,aN,ar];repeat first|exact .nil|refine .cons (.refl _) ?_|refine .cons (.nil _) ?_
def aj9:bh κ 39 [.I n] T (.jg [.agg (Fh n).1.azR,.I (Fh n).2]):=by
 refine aW func39 p39.2 λa b=>aq ?_;simp only[p39,SS,seval];simp only[VV,seval];refine⟨λh=>?_,λh=>?_⟩
 .have h:n<0\/8<=n:=by simpa using h
  refine gx (ys:=[.agg (bO.azR ⟨0,0,[],[],0,G⟩),.I 1]) a (.inr rfl) (by simp only[mS,yy,VV,seval]) (.cons (Cv.iV (zz 0)) (.cons (.refl _) .nil)) (by simp only[bO.azR,aN,ar,LW]) ⟨by simp only[Fh,aQ h,bO.zero];rfl,rfl⟩
 have h:¬(n<0\/8<=n):=by simpa using h
 refine gx (ys:=[.agg (bO.azR ⟨n,0,[],[],0,G⟩),.I 0]) a (.inr rfl) (by simp only[mS,yy,VV,seval]) (.cons (Cv.iV (zz n)) (.cons (.refl _) .nil)) (by simp only[bO.azR,aN,ar,LW]) ⟨by simp only[Fh,aw h];rfl,rfl⟩
def D1:bh κ 115 [.agg M.azR,.agg i.azR] T (.I (dH M i)):=by refine aW func115 aqa.2 λa b=>aq ?_;simp only[aqa,SS,seval];simp only[aV.azR,cL.azR,En.azR,VV,seval];refine al (sd _ _ _) rfl ?_;simp only[VV,seval];refine al (sd _ _ _) rfl ?_;simp only[VV,seval];refine iN (zs:=[.sl 1 ([gJ M.aY.bS i.aY.bS,gJ M.aY.azW i.aY.azW].map cN)]) (.cons (.lit _ _) .nil) (Py _ _) ?_;simp only[VV,seval];exact gm a (by rfl) (by simp[LW])
def Vg:(prog.info? 5).map (λi=>(i.zero.map (λz=>z.cells.size),i.size,i.bytes))=S (S 1,1,1):=by kernel_rfl
def xi(l:Y p<2^40)(J:aj):bh κ 141 [.sl 1 (aN p)] J (.sl 1 (aN p)) :=KL (by decide) Vg (by rw[bM];omega) (λw=>AnyE.slices_Clone_nil Tryz.VW 0 0 w) (λa w=>by
   obtain⟨i,z,e,g,f,j,k⟩:=tq Vg;exact wV Tryz.VW i z 1 1 e g f j k (by decide) (show ∀w,(Go.sizeOf 5).run κ w=.ok 1 w from λw=>by simp[sizeOf,run_typeInfo w e,f]) a w)
  (λi z e g f j k q b o n c d w t s m r h=>AnyE.slices_Clone Tryz.VW i z 1 1 e g f j k (by decide) q b o n c d w t s m r h) J
def uf:Ob:=.row 57 13 184 g G (a.map aV.azR)
def agR(n:bT J)(d:a.length<2^39)(l:∀o∈a,o.azU):∀(c b:List aV) (g:Nat),a=b++c ->(∀g,((fj 3 (fh (.own J.length g) (fj 15 fo))) λj=>K (.exit 0) ⟨j,J++[.row 57 13 184 g G (a.map aV.azR)]⟩)) ->gw J.length κ O8 K (c.length+1) ⟨(uu 3 (.own J.length g::uu 2 (.sl 13 (a.map aV.azR)::.I a.length::.I b.length::uu 10 []))),J++[.row 57 13 184 g G (b.map aV.azR)]⟩:=by
 intro c;induction c with
 |nil =>intro b g e f;have e:=dL e;subst e;refine az λR i=>?_;simp only[O8,VV,seval];exact⟨λh=>by simp at h,λ_=>f g ..⟩
 |cons x c ih =>
 intro b g e f;subst e;have k:=l x (by simp);refine az λR i=>?_;simp only[O8,aV.azR,cL.azR,En.azR,VV,seval];refine⟨λ_=>⟨by simp;omega,?_⟩,λh=>by simp at h<;>omega⟩;refine al (sK x k _) rfl ?_;simp only[aa,aV.azR,cL.azR,En.azR,maxLen,V.pure,VV,seval];refine⟨by simp at d;omega,?_⟩;have m:(b.map aV.azR++[[.I x.aY.time,.I x.aY.bS,.I x.aY.azW,.I x.azT,.sl 3 (x.azV.azZ.map It.azR),.sl 3 (x.azV.az0.map It.azR),.s x.azV.cM,.s x.azV.next,.s x.azV.eu,.s x.azV.dC,.I x.azV.aAb,.I x.azV.aAc,.sl 1 (x.az1.map cN)]])=(b++[x]).map aV.azR:=by simp[aV.azR,cL.azR,En.azR]
 rw[m];refine i _ (cn [_] _ (cj n (by simp)) ?_ ?_ (ih (b++[x]) (g+1) (by simp) f));.rw[da (by simp at d;omega)];simp only[ah,ae,ai];repeat' constructor
 simp only[LW,ae,ai,aG];omega
def QS(b:Y a<2^39)(d:∀o∈a,o.azU)(J:aj):PC κ 140 [.sl 13 (a.map aV.azR)] J (λr e=>r=.own J.length 0/\e=J++[uf 0 a]):=by
 refine aW func140 apM.2 λc f=>aq ?_;simp only[apM,SS,seval];simp only[aa,VV,seval];refine cB.wk ((Wk.k9 (J:=J) (k:=3) Wm rfl).trans (Wk.fw ?_)) (cB.kT (Y a+1) (agR a c b d a [] 0 rfl ?_));.simp only[W,seval];repeat' constructor
 intro g;simp only[JE];intros;simp only[VV,seval];exact DB 0 c (.inr rfl) rfl rfl rfl (by simp[LC,Ob.gen]) (by simp[Pm.one,mv1,Ob.fresh,uf])
def zJ(c:L.azU)(J:aj):PC κ 83 [.agg L.azR] J (λr d=>r=.agg [.I L.azW,.I L.az5,.own J.length 0,.sl 1 (aN L.log),.I L.aAe,.b L.down]/\d=J++[uf 0 L.azS]):=by
 refine aW func83 p83.2 λe f=>aq ?_;simp only[p83,SS,seval];simp only[bO.azR,VV,seval];refine al (QS L.azS (by have:=c.len;omega) c.azS _) rfl ?_;simp only[uf,VV,seval];refine al (xi L.log (by have:=c.log;omega) _) rfl ?_;simp only[VV,seval];refine dS (xs:=[.agg [.I L.azW,.I L.az5,.own (J.length+2) 0,.sl 1 (aN L.log),.I L.aAe,.b L.down]]) (xs':=[.agg [.I L.azW,.I L.az5,.own J.length 0,.sl 1 (aN L.log),.I L.aAe,.b L.down]]) (.inr rfl) (by simp only[mS,yy,VV,seval]) ?_ rfl ⟨rfl,rfl⟩;refine Wk.SI (os:=[.row 57 13 184 0 G (L.azS.map aV.azR)]) [2] e (by simp) rfl (λi k a=>by
  rcases i with _|i;.simp only[aC,ab]at a;subst a;exact⟨_,rfl,rfl,rfl⟩
  simp at a) (.cons (Mv.iV (.cons (.eY _ (.i _ _)) (.cons (.eY _ (.i _ _)) (.cons (.own 0 2 57 13 184 0 G (L.azS.map aV.azR) rfl rfl) (.cons (.eY _ (.sl _ _)) (.cons (.eY _ (.i _ _)) (.cons (.eY _ (.b _)) .nil))))))) .nil)
def tc(b:L.azU)(J:aj):bh κ 83 [.agg L.azR] J (.agg L.azR):=by refine PC.closed λa=>PC.post (zJ L b J) ?_;refine(Wk.fz (E:=57) (sz:=13) (by':=184) (g:=0) (sh:=G) (rows:=L.azS.map aV.azR) J.length (by simp[uf])).trans ?_;simp only[aI,ar,Pm.fz,kE,cG,aU,uf];rw[dX _ _ (aM _),iP];exact Wk.yQ a (by simp[LW])
open Go.RowKit
def pK(a:Nat)(J:aj):bh κ 81 [.I n,.I a] J (.b (LK n a)):=by refine aW func81 p81.2 λc d=>aq ?_;simp only[p81,SS,seval];simp only[VV,seval];refine bK (.inr rfl) rfl ⟨?_,rfl⟩;by_cases h:0<=n<;>simp[Pm.one,LK,h]
def HN(b:Int)(J:aj):bh κ 88 [.I n,.I b] J (.agg (cF (gj n b))):=by refine aW func88 p88.2 λa c=>aq ?_;simp only[p88,SS,seval];simp only[VV,seval];exact bA a (.inr rfl) (by simp only[RS,seval];rfl) (by simp[LW]) ⟨rfl,rfl⟩
def Vi:Int:=if U∈Q then Q.idxOf U else -1
def fX(l:gh):Ob:=.row 99 2 16 g G (l.map cF)
def agE(l:gh)(c g:Nat)(q:J[c]?=S (fX g l))(r:Y l<2^62):∀(f d:gh),l=d++f->U ∉ d ->(U ∉ l->((fj 19 fo) λn=>K (.exit 0) ⟨n,J++[.box 99 (cF U)]⟩))->(U∈l->((fj 4 (fh (.I (Vi l U)) (fj 14 fo))) λn=>K .ret ⟨n,J++[.box 99 (cF U)]⟩)) ->gw (Y J) κ OT K (Y f+1) ⟨(.own c g::uu 2 (.ptr J.length 0::uu 3 (.I (Y l)::.I (Y d)::uu 10 []))),J++[.box 99 (cF U)]⟩:=by
 intro f;have p:∀j:aj,(J++j)[c]?=S (.row 99 2 16 g G (l.map cF)):=λj=>by rw[bg (ag.1 q).1];exact q
 induction f with
 |nil =>intro d i m o k;have i:=dL i;subst i;refine az λR s=>?_;simp only[OT,VV,seval];exact⟨λh=>by simp at h,λ_=>o m ..⟩
 |cons y f ih =>
 intro d i m o k;have z:=gY i;have v:(List.map cF l).getD d.length []=[.I y.1,.I y.2]:=by rw[i];exact dR
 have x:(0:Int)<=(Y d:Int):=by omega
 have u:(Y d:Int)<(Y l:Int):=by omega
 refine az λR s=>?_;simp only[OT,cF,p,v,x,u,aa,iF,eQ,dB,VV,seval];refine⟨λ_=>⟨λh=>?_,λh=>?_⟩,λh=>by simp at h⟩
 .have h:U=y:=by obtain⟨a,b⟩:=U;obtain⟨t,w⟩:=y;simpa using h
  subst h;have e:Vi l U=Y d:=by rw[i];simp[Vi,List.idxOf_append,m]
  rw[e]at k;exact k (by rw[i];simp) ..
 have h:U≠y:=by obtain⟨a,b⟩:=U;obtain⟨t,w⟩:=y;intro e;simp at e;simp[e.1,e.2]at h
 refine s _ (bX ?_ (ih (d++[y]) (by rw[i];simp) (by simp[m,h]) o k));rw[da (by omega)];simp only[ah,ae,ai];repeat' constructor
def ZG(c g:Nat)(a:Y Q<2^62)(J:aj)(e:J[c]?=S (fX g Q)):bh κ 191 [.own c g,.agg (cF U)] J (.I (Vi Q U)):=by
 refine aW func191 ao6.2 λf i=>aq ?_;have d:∀b:aj,(J++b)[c]?=S (.row 99 2 16 g G (Q.map cF)):=λb=>by rw[bg (ag.1 e).1];exact e
 simp only[ao6,SS,seval];simp only[d,aa,cF,VV,seval];refine cB.bX ?_ (Y Q+1) (agE U Q c g e a Q [] rfl (by simp) (λh=>?_) (λh=>?_));.repeat' constructor
 .simp only[JE];intros;simp only[VV,seval];exact bA f (.inr rfl) rfl (by simp[LW]) ⟨by simp[Pm.one,Vi,h],rfl⟩
 simp only[JE];intros;simp only[VV,seval];exact bA f (.inr rfl) rfl (by simp[LW]) ⟨rfl,rfl⟩
def Qr(c g:Nat)(a:Y Q<2^62)(J:aj)(i:J[c]?=S (fX g Q)):bh κ 143 [.own c g,.agg (cF U)] J (.b (Q.any λc=>c==U)):=by
 refine aW func143 apK.2 λk l=>aq ?_;have f:∀d:aj,(J++d)[c]?=S (fX g Q):=λd=>by rw[bg (ag.1 i).1];exact i
 simp only[apK,SS,seval];simp only[cF,VV,seval];refine al (ZG Q U c g a _ (f _)) rfl ?_;simp only[VV,seval];refine bA k (.inr rfl) rfl (by simp[LW]) ⟨?_,rfl⟩;by_cases h:U∈Q;.have:(Q.any λc=>c==U)=θ:=dF.2 ⟨U,h,by simp⟩;simp[Pm.one,Vi,h,this]
 have:(Q.any λc=>c==U)=G:=by rw[aaJ];intro c j e;exact h (by simpa using(beq_iff_eq.1 e)▸j)
 simp[Pm.one,Vi,h,this]
def KV(x y:V)(a b:Int)(c g:Nat)(d:P.cw.length<2^62)(J:aj)(i:J[c]?=S (fX g P.cw))(k:kZ J x=θ)(l:kZ J y=θ):bh κ 85 [.agg [x,y,.own c g],.I a,.I b] J (.b (mO P a b)):=by
 refine aW func85 p85.2 λj m=>aq ?_;have h:J[c]?=S (.row 99 2 16 g G (P.cw.map cF)):=i;have f:∀e:aj,(J++e)[c]?=S (fX g P.cw):=λe=>by rw[bg (ag.1 i).1];exact i
 simp only[p85,SS,seval];simp only[k,l,h,ao,VV,seval];refine al (HN a b _) rfl ?_;simp only[VV,seval];refine al (Qr P.cw (gj a b) c g d _ (f _)) rfl ?_;simp only[VV,seval];exact bA j (.inr rfl) rfl (by simp[LW]) ⟨rfl,rfl⟩
def MZ(x:Let)(b:x.op.azU)(J:aj):bh κ 84 [.agg x.azR] J (.agg x.azR):=by refine aW func84 p84.2 λa c=>aq ?_;simp only[p84,SS,seval];simp only[Let.azR,aV.azR,cL.azR,En.azR,aF,ay,VV,seval];refine al (sK x.op b _) (by simp only[aV.azR,cL.azR,En.azR,VV,seval]) ?_;simp only[aV.azR,cL.azR,En.azR,VV,seval];exact bA a (.inr rfl) (by simp only[RS,seval];rfl) (by simp[LW]) ⟨rfl,rfl⟩
def XS:(prog.info? 99).map (λi=>(i.zero.map (λz=>z.cells.size),i.size,i.bytes))=S (S 2,2,16):=by kernel_rfl
def aar{f E h by':Nat}{k:fx}(M:0<h)(Q:(prog.info? E).map (λi=>(i.zero.map (λz=>z.cells.size),i.size,i.bytes))=S (S h,h,by')) (s:Y k*by'<=140737488355328) (P:∀w,Calls κ f #[.slice Z 0 0] w λe g=>e=.returned (.slice Z 0 0)/\g=w) (A:∀(a:Addr) (w:bQ),Calls κ f #[.slice (S a) 0 0] w λe g=>∃m,e=.returned m/\g.ownsRow w.heap.size E h m 0 []/\Below w.heap.size w g) (C:∀(v:TypeInfo) (z:Value),prog.info? E=S v->v.zero=S z->v.size=h->v.bytes=by'->z.cells.size=h->(∀w,(Go.sizeOf E).run κ w=.ok h w)->∀(b p n c:Nat) (d:List Value) (w:bQ),Y d=n*h->n<=maxLen->n*by'<=140737488355328 ->(∀j u,d[j]?=S u->w.cell? ⟨b,p+j,Z⟩=S u)->(∀u∈d,u.oneCell'=θ) ->Calls κ f #[.slice (S ⟨b,p,Z⟩) n c] w λe g=>∃m,e=.returned m/\g.ownsRow w.heap.size E h m n d/\m≠.slice Z 0 0/\Below w.heap.size w g) (J:aj):PC κ f [.sl h k] J (λr R=>r=.own J.length 0/\R=J++[.row E h by' 0 G k]):=by
 obtain⟨i,z,y,H,q,t,L⟩:=tq Q;refine PC.ofRow (E:=E) (by':=by') ⟨M,i,z,y,H,q,t,L⟩ λB w0 w μ K hS I=>?_;have T:=I.2 0 _ rfl;have e:K=#[K.getD 0 undef]:=vs1 I.1;rw[e];rcases Wr M T with⟨⟨a,x⟩,U⟩|⟨b,o,F,l,x,O,hl,W,D,X⟩
 .rw[x];subst U;cases a with
  |none =>refine(P w).mono ?_;rintro e g ⟨rfl,rfl⟩;exact⟨_,[],rfl,World.ownsRow_nil g _ _ _,Below.refl _ _,by simp,by simp[gv]⟩
  |some a =>refine(A a w).mono ?_;rintro e g ⟨m,rfl,q,t⟩;exact⟨_,[],rfl,q,t,by simp,by simp[gv]⟩
 rw[x];refine(C i z y H q t L (λw=>by simp[sizeOf,run_typeInfo w y,q]) b o _ F l w hl O s W D).mono ?_;rintro e g ⟨m,rfl,V,_,N⟩;exact⟨_,l,rfl,V,N,X⟩
def L6(l:Y Q<2^40)(J:aj):PC κ 82 [.sl 2 (Q.map cF)] J (λr p=>r=.own J.length 0/\p=J++[fX 0 Q]) :=aar (by decide) XS (by rw[aa];omega) (λw=>AnyE.slices_Clone_nil Tryz.VT 0 0 w) (λa w=>by
   obtain⟨i,z,e,g,f,j,k⟩:=tq XS;exact wV Tryz.VT i z 2 16 e g f j k (by decide) (show ∀w,(Go.sizeOf 99).run κ w=.ok 2 w from λw=>by simp[sizeOf,run_typeInfo w e,f]) a w)
  (λi z e g f j k q b o n c d w u t m s h=>AnyE.slices_Clone Tryz.VT i z 2 16 e g f j k (by decide) q b o n c d w u t m s h) J
def aa8:Ti κ 61 6 80:=o8 (by kernel_rfl)
def ajJ:Ti κ 76 15 200:=o8 (by kernel_rfl)
def fE(x y z:V):Ob:=.box 29 [x,y,z]
def bC:Ob:=.row 61 6 80 g G (N.map bO.azR)
def dm(g:Nat)(l:List Let):Ob:=.row 76 15 200 g G (l.map Let.azR)
def aco:N.map bO.azR++[[.I L.azW,.I L.az5,.sl 13 (L.azS.map aV.azR),.sl 1 (aN L.log),.I L.aAe,.b L.down]]=(N++[L]).map bO.azR:=by simp[bO.azR]
def acX(n:List Let)(x:Let):n.map Let.azR++[[.I x.src,.I x.dst,.I x.op.aY.time,.I x.op.aY.bS,.I x.op.aY.azW,.I x.op.azT,.sl 3 (x.op.azV.azZ.map It.azR),.sl 3 (x.op.azV.az0.map It.azR),.s x.op.azV.cM,.s x.op.azV.next,.s x.op.azV.eu,.s x.op.azV.dC,.I x.op.azV.aAb,.I x.op.azV.aAc,.sl 1 (x.op.az1.map cN)]]=(n++[x]).map Let.azR:=by simp[Let.azR,aV.azR,cL.azR,En.azR]
def acO(r:bT (J++[R,H]))(f:gh)(l:List bO)(d:Y l<2^30)(p:∀o∈l,o.azU):∀(c b:List bO) (g:Nat),l=b++c ->(∀g,((fj 1 (fh (.ptr J.length 0) (fh (.ptr (Y J+1) 0) (fh (.ptr (Y J+3) 0) (fj 39 fo))))) λm=>K (.exit 0) ⟨m,J++[R,H,fX 0 f,fE (.own (Y J+4) g) .nil (.own (Y J+2) 0),bC g l]⟩)) ->gw (Y J) κ Xl K (Y c+1) ⟨(uu 1 (.ptr J.length 0::.ptr (Y J+1) 0::.ptr (Y J+3) 0::uu 9 (.sl 6 (l.map bO.azR)::.I (Y l)::.I (Y b)::uu 27 []))),J++[R,H,fX 0 f,fE (.own (Y J+4) g) .nil (.own (Y J+2) 0),bC g b]⟩:=by
 intro c;induction c with
 |nil =>intro b g e i;have e:=dL e;subst e;refine az λa j=>?_;simp only[Xl,VV,seval];exact⟨λh=>by simp at h,λ_=>i g ..⟩
 |cons x c ih =>
 intro b g e i;subst e;have n:=p x (by simp);have k:=dD b x (by simp at d;omega);have s:Y b+1<2^30:=by simp at d;omega
 refine az λa j=>?_;simp only[Xl,fE,bC,bO.azR,k,VV,seval];refine⟨λ_=>⟨by simp;omega,?_⟩,λh=>by simp at h<;>omega⟩;refine al (tc x n _) (by simp only[bO.azR,VV,seval]) ?_;simp only[bO.azR,aa,maxLen,V.pure,k,VV,seval];refine⟨⟨by omega,by omega⟩,?_⟩;have q:=aco b x;rw[q];refine j _ (cn [R,H,fX 0 f,fE (.own (Y J+4) (g+1)) .nil (.own (Y J+2) 0),bC (g+1) (b++[x])] [_] ?_ ?_ ?_ (ih (b++[x]) (g+1) (by simp) i));.have:=cj r (l:=[fX 0 f,fE (.own (Y J+4) (g+1)) .nil (.own (Y J+2) 0),bC (g+1) (b++[x])]) (by simp only[fE,fX,bC,bF,bD,cA,cW,cK,ah,ae,ai,LW];omega);simpa using this
 .repeat' constructor
 simp only[LW,ae,ai,aG];omega
def acN(t:bT (J++[R,H]))(i:gh)(j:List bO)(d:Nat)(l:List Let)(e:Y l<2^30)(r:∀o∈l,o.op.azU):∀(c b:List Let) (g:Nat),l=b++c ->(∀g,((fj 2 (fh (.ptr (Y J+1) 0) (fh (.ptr (Y J+3) 0) (fj 39 fo)))) λp=>K (.exit 2) ⟨p,J++[R,H,fX 0 i,fE (.own (Y J+4) d) (.own (Y J+5) g) (.own (Y J+2) 0),bC d j,dm g l]⟩)) ->gw (Y J) κ Xk K (Y c+1) ⟨(uu 2 (.ptr (Y J+1) 0::.ptr (Y J+3) 0::uu 24 (.sl 15 (l.map Let.azR)::.I (Y l)::.I (Y b)::uu 12 []))),J++[R,H,fX 0 i,fE (.own (Y J+4) d) (.own (Y J+5) g) (.own (Y J+2) 0),bC d j,dm g b]⟩:=by
 intro c;induction c with
 |nil =>intro b g f k;have f:=dL f;subst f;refine az λa m=>?_;simp only[Xk,VV,seval];exact⟨λh=>by simp at h,λ_=>k g ..⟩
 |cons x c ih =>
 intro b g f k;subst f;have q:=r x (by simp);have n:=dD b x (by simp at e;omega);have u:Y b+1<2^30:=by simp at e;omega
 refine az λa m=>?_;simp only[Xk,fE,bC,dm,Let.azR,aV.azR,cL.azR,En.azR,aF,ay,n,VV,seval];refine⟨λ_=>⟨by simp;omega,?_⟩,λh=>by simp at h<;>omega⟩;refine al (MZ x q _) (by simp only[Let.azR,aV.azR,cL.azR,En.azR,aF,ay,VV,seval]) ?_;simp only[Let.azR,aV.azR,cL.azR,En.azR,aF,ay,aa,maxLen,V.pure,n,VV,seval];refine⟨⟨by omega,by omega⟩,?_⟩;have s:=acX b x;rw[s];refine m _ (cn [R,H,fX 0 i,fE (.own (Y J+4) d) (.own (Y J+5) (g+1)) (.own (Y J+2) 0),bC d j,dm (g+1) (b++[x])] [_] ?_ ?_ ?_ (ih (b++[x]) (g+1) (by simp) k));.have:=cj t (l:=[fX 0 i,fE (.own (Y J+4) d) (.own (Y J+5) (g+1)) (.own (Y J+2) 0),bC d j,dm (g+1) (b++[x])]) (by simp only[fE,fX,bC,dm,bF,bD,cA,cW,cK,ah,ae,ai,LW];omega);simpa using this
 .repeat' constructor
 simp only[LW,ae,ai,aG];omega
def aes{n:Nat}{xs:aB}{J:aj}:Wk κ n xs (J++[R,H,fX 0 B,fE .nil .nil (.own (Y J+2) 0)]) xs (J++[R,H,fX 0 B,fE (.own (Y J+4) 0) .nil (.own (Y J+2) 0),bC 0 []]):=by have:=Wk.tV (P:=κ) (n:=n) (xs:=xs) (id:=Y J+3) (j:=0) (T:=29) (cs:=[.nil,.nil,.own (Y J+2) 0]) (J:=J++[R,H,fX 0 B,fE .nil .nil (.own (Y J+2) 0)]) aa8 (by simp[fE]) rfl;simpa only[fE,bC,kf,aO,ah,ae,ai,aF,ay,cC,cT,aG,Nat.reduceAdd,ar]using this
def aer{n g:Nat}{xs:aB}{J:aj}{l:List bO}:Wk κ n xs (J++[R,H,fX 0 B,fE (.own (Y J+4) g) .nil (.own (Y J+2) 0),bC g l]) xs (J++[R,H,fX 0 B,fE (.own (Y J+4) g) (.own (Y J+5) 0) (.own (Y J+2) 0),bC g l,dm 0 []]):=by have:=Wk.tV (P:=κ) (n:=n) (xs:=xs) (id:=Y J+3) (j:=1) (T:=29) (cs:=[.own (Y J+4) g,.nil,.own (Y J+2) 0]) (J:=J++[R,H,fX 0 B,fE (.own (Y J+4) g) .nil (.own (Y J+2) 0),bC g l]) ajJ (by simp[fE]) rfl;simpa only[fE,bC,dm,kf,aO,ah,ae,ai,aF,ay,cC,cT,aG,Nat.reduceAdd,ar]using this
def vV(b:P.azU)(J:aj):PC κ 42 [.agg P.azR] J (λr g=>r=.agg [.own J.length 0,.own (Y J+1) 0,.own (Y J+2) 0]/\g=J++[bC 0 P.an,dm 0 P.ax,fX 0 P.cw]):=by
 refine aW func42 p42.2 λe h=>aq ?_;have f:bT (J++[.box 29 [.sl 6 (P.an.map bO.azR),.sl 15 (P.ax.map Let.azR),.sl 2 (P.cw.map cF)],.box 29 [.nil,.nil,.nil]]):=cj e (by simp only[bF,bD,cA,cW,cK,LW]);simp only[p42,SS,seval];simp only[Net.azR,aa,VV,seval];refine al (L6 P.cw (by have:=b.um;omega) _) rfl ?_;simp only[fX,aa,ao,VV,seval];refine cB.wk ((Wk.fw (ys:=(uu 1 (.ptr J.length 0::.ptr (Y J+1) 0::.ptr (Y J+3) 0::uu 9 (.sl 6 (P.an.map bO.azR)::.I P.an.length::.I (Y ([]:List bO):Nat)::uu 27 [])))) ?_).trans aes) (cB.kT (P.an.length+1) (acO f P.cw P.an b.uE b.aK P.an [] 0 rfl ?_));.repeat' constructor
 intro c;simp only[JE];intros;simp only[fE,fX,bC,aa,VV,seval];refine cB.wk ((Wk.fw (ys:=(uu 2 (.ptr (Y J+1) 0::.ptr (Y J+3) 0::uu 24 (.sl 15 (P.ax.map Let.azR)::.I P.ax.length::.I (Y ([]:List Let):Nat)::uu 12 [])))) ?_).trans aer) (cB.kT (P.ax.length+1) (acN f P.cw P.an c P.ax b.pT b.azS P.ax [] 0 rfl ?_));.repeat' constructor
 intro d;simp only[JE];intros;simp only[fE,fX,bC,dm,ao,VV,seval];refine dS (xs:=[.agg [.own (Y J+4) c,.own (Y J+5) d,.own (Y J+2) 0]]) (xs':=[.agg [.own J.length 0,.own (Y J+1) 0,.own (Y J+2) 0]]) (.inr rfl) (by simp only[mS,yy,VV,seval]) ?_ rfl ⟨rfl,rfl⟩;refine Wk.SI (os:=[bC 0 P.an,dm 0 P.ax,fX 0 P.cw]) [4,5,2] e (by simp) rfl (λi k a=>by
  rcases i with _|_|_|i;.simp only[aC,ab]at a;subst a;exact⟨_,rfl,rfl,rfl⟩
  .simp only[aG,bY,aC,ab]at a;subst a;exact⟨_,rfl,rfl,rfl⟩
  .simp only[aG,Nat.reduceAdd,bY,aC,ab]at a;subst a;exact⟨_,rfl,rfl,rfl⟩
  simp at a) (.cons (Mv.iV (.cons (.own 0 4 61 6 80 c G (P.an.map bO.azR) rfl rfl) (.cons (.own 1 5 76 15 200 d G (P.ax.map Let.azR) rfl rfl) (.cons (.own 2 2 99 2 16 0 G (P.cw.map cF) rfl rfl) .nil)))) .nil)
def lE{d:aj}{a b c:Nat}{h i K A B C:Ob}{f:List Rs}{Q:V->aj->Prop}{e:Exit}(q:bT (lA J k a b c R H h i))(p:oJ J.length K)(n:oJ J.length A)(m:oJ J.length B)(l:oJ J.length C)(g:e=.normal\/e=.ret) (j:mS ⟨s,lA J k a b c K A B C++d⟩ f=some t) (r:jt J.length t) (o:Q (Pm.one t) (lA J k a b c K A B C)):zy κ J.length f Q e ⟨s,lA J k a b c K A B C++d⟩ :=dS g j (Wk.lS (by rw[pE];exact aM _) (Ii q p n m l) (ed.1 (by rw[pE];exact r))) rfl o
def uF(i:Nat)(a:bO):(N.map bO.azR).set i [.I a.azW,.I a.az5,.sl 13 (a.azS.map aV.azR),.sl 1 (aN a.log),.I a.aAe,.b a.down]=(N.set i a).map bO.azR:=by rw[aaH];rfl
def lV{a b c l i g:Nat}(f:a<k)(e:b<k)(h:c<k):oJ k (fE (.own a l) (.own b i) (.own c g)):=by
 intro j x d;rcases j with _|_|_|j;.simp only[aC,ab]at d;subst d;exact .own _ _ f
 .simp only[aG,bY,aC,ab]at d;subst d;exact .own _ _ e
 .simp only[aG,Nat.reduceAdd,bY,aC,ab]at d;subst d;exact .own _ _ h
 simp at d
def D7{k a b c ga gb gc:Nat}(h:yj J k a b c)(d:List bO)(B C:Ob)(A:oJ J.length B)(t:oJ J.length C)(e:Ev)(m:e.azT=1)(i:Nat)(l:e.a=i)(o:bO)(s:d[i]?=S o)(j:bO)(x:aV)(f:Int) (n:∀J,bh κ 96 [.agg o.azR,.agg e.azV.azR] J (.jg [.agg j.azR,.agg x.azR,.I f])) : PC κ 46 [.ptr k 0,.agg e.azR] (lA J k a b c (fE (.own a ga) (.own b gb) (.own c gc)) (bC ga d) B C) (λr z=>r=.I f/\z=lA J k a b c (fE (.own a ga) (.own b gb) (.own c gc)) (bC ga (d.set i j)) B C):=by
 obtain⟨y,D,H,K,F⟩:=e;simp only at m l n;subst m l;refine aW func46 p46.2 λu E=>aq ?_;have g:(d.map bO.azR).getD i []=o.azR:=by simp[aA,s]
 have v:i<Y d:=(ag.1 s).1;have w:=uF d i j;have q:(0:Int)<=(i:Int):=by omega
 have p:(i:Int)<(Y d:Int):=by omega
 simp only[bO.azR]at g;simp only[p46,SS,seval];simp only[Ev.azR,En.azR,fE,bC,h.all,g,q,p,bO.azR,aa,VV,seval];refine al (n _) (by simp only[bO.azR,En.azR,VV,seval]) ?_;simp only[bO.azR,h.all,g,q,p,w,aa,VV,seval];exact⟨v,lE u (lV h.la h.lb h.lc) trivial A t (.inr rfl) rfl (by simp[LW]) ⟨rfl,rfl⟩⟩
def JU:bh κ 255 [.i .u32 n] T (.sl 1 (aN (pk n))):=by refine aW func255 aov.2 λb a=>aq ?_;simp only[aov,SS,seval];simp only[VV,Int.reduceBEq,Int.reduceBNe,Nat.reduceAdd,Nat.reduceSub,Nat.reduceLeDiff,Nat.reduceEqDiff,Int.reduceToNat,reduceIte,reduceCtorEq];refine⟨by decide,by decide,by decide,?_⟩;refine dS (xs':=[.sl 1 (aN (pk n))]) (.inr rfl) rfl (Wk.fw (.cons ?_ .nil)) rfl ⟨rfl,rfl⟩;simp only[aN,pk,aI,ar,G1];exact .lit _ _
def agz(d:Y p<2^62):∀(a b:aR) (h:Int),p=b++a ->((fh (.i .u32 (a.foldl qq h)) (fj 19 fo)) λg=>K (.exit 0) ⟨g,J⟩) ->gw k κ OM K (Y a+1) ⟨(.i .u32 h::uu 6 (.sl 1 (aN p)::.I (Y p)::.I (Y b)::uu 10 [])),J⟩:=by
 intro a;induction a with
 |nil =>intro b h c e;have c:=dL c;subst c;refine az λR f=>?_;simp only[OM,VV,seval];exact⟨λh=>by simp at h,λ_=>e ..⟩
 |cons x a ih =>
 intro b h c e;subst c;have j:gv (aN (b++x::a)) b.length 0=S (.i .u8 x.toNat):=by simp[aN,gv]
 have l:=dD b x (by simp at d;omega);refine az λR f=>?_;simp only[OM,bM,j,l,VV,seval];refine⟨λ_=>⟨by simp;omega,?_⟩,λh=>by simp at h<;>omega⟩;refine f _ (bX ?_ (ih (b++[x]) (qq h x) (by simp) e));repeat' constructor
def HP(a:Y p<2^62)(J:aj):bh κ 203 [.i .u32 n,.sl 1 (aN p)] J (.i .u32 (mU n p)):=by
 refine aW func203 aoW.2 λc b=>aq ?_;simp only[aoW,SS,seval];simp only[bM,VV,seval];refine cB.wk (Wk.fw ?_) (cB.kT (Y p+1) (agz p a p [] n rfl ?_));.repeat' constructor
 simp only[JE];intros;simp only[VV,seval];exact bK (.inr rfl) rfl ⟨rfl,rfl⟩
def ahR(h0:0<g)(C:g<2^40)(J:aj):PC κ 276 [.nil,.I g] J (λr u=>r=.own J.length 0/\u=J++[.row 5 1 1 0 G []]):=by
 obtain⟨i,z,j,f,s,n,o⟩:=tq Vg;refine PC.ofRow (E:=5) (by':=1) ⟨by decide,i,z,j,f,s,n,o⟩ λB F w D m v d=>?_;have e:m=#[.slice Z 0 0,.int .i64 g]:=by have c:=d.2 0 _ rfl;have b:=d.2 1 _ rfl;have c:=c.pJ;have b:=b.kK;obtain⟨l⟩:=m;match l,d.1 with|[x,y],_=>simp at c b;rw[c,b]
 rw[e];refine(Any8.slices_Grow_grow Tryz.arG i z j f (by omega) Z 0 0 g [] w (by omega) (by omega) (by rw[n];omega) (by omega) (by simp) (λ_=>rfl) (λa h=>by simp at h)).mono ?_;rintro e A ⟨rfl,rfl⟩;have q:=grownCap_ge w (0+g) 0 5;refine⟨_,[],rfl,?_,?_,by simp,by simp[gv]⟩
 .refine World.ownsRow_made (base:=w.heap.size) (e:=5) (size:=1) w.drew _ _ (aM _) (grownCap_le_maxLen w _ _ _ (by unfold maxLen;omega)) ?_;have b:∀k,(Builtin.zeroCells z.cells k).size=k:=λk=>by simp[Builtin.zeroCells,o]
  have p:0+g<=grownCap w (0+g) 0 (Tryz.Nd.t 25):=q;rw[kS,kS,b,b];simp only[Array.size_empty];omega
 exact((Below.refl _ w).drew).alloc (aM _) _
def Ca:fx:=X.map λl=>[.sl 1 (aN l)]
def xA:Y (Ca X)=Y X:=by simp[Ca]
def Ro(a:gW):gv (Ca (X++p::a)) X.length 0=S (.sl 1 (aN p)):=by simp[Ca,gv]
def X7{c b a:gW}(h:c=b++E::a):Y b.flatten+Y E<=Y c.flatten:=by subst h;simp
def Zk(d:Y X<2^40)(o:X.flatten.length<2^40):∀(b a:gW),X=a++b ->((fh (.sl 1 (Ca X)) (fj 2 (fh (.I X.flatten.length) (fj 32 fo)))) λg=>K (.exit 0) ⟨g,J⟩) ->gw k κ OE K (Y b+1) ⟨(.sl 1 (Ca X)::uu 2 (.I (Y a.flatten)::uu 5 (.sl 1 (Ca X)::.I (Y X)::.I (Y a)::uu 24 []))),J⟩:=by
 intro b;induction b with
 |nil =>intro a c e;have c:=dL c;subst c;refine az λR f=>?_;simp only[OE,VV,seval];exact⟨λh=>by simp at h,λ_=>e ..⟩
 |cons x b ih =>
 intro a c e;subst c;have m:=Ro a x b;have j:=X7 (rfl:a++x::b=a++x::b);have n:=dD a x (by simp at d;omega);have l:IntKind.i64.wrap ((Y a.flatten:Int)+(Y x:Int))=((Y (a++[x]).flatten:Nat):Int):=by rw[show(Y a.flatten:Int)+(Y x:Int)=((Y a.flatten+Y x:Nat):Int)by omega,xr (by omega)];simp
 have i:decide (((Y (a++[x]).flatten:Nat):Int)<0)=G:=by simp;omega
 refine az λR f=>?_;simp only[OE,xA,bM,m,n,l,i,VV,seval];refine⟨λ_=>⟨by simp;omega,?_⟩,λh=>by simp at h<;>omega⟩;refine f _ (bX ?_ (ih (a++[x]) (by simp) e));repeat' constructor
def Zj(d:Y X<2^40)(n:X.flatten.length<2^40):∀(a b:gW) (g:Nat),X=b++a ->(∀g,((fj 6 (fh (.own J.length g) (fj 29 fo))) λi=>K (.exit 2) ⟨i,J++[.row 5 1 1 g G (aN X.flatten)]⟩)) ->gw (Y J) κ OD K (Y a+1) ⟨(uu 6 (.own J.length g::uu 18 (.sl 1 (Ca X)::.I (Y X)::.I (Y b)::uu 8 []))),J++[.row 5 1 1 g G (aN b.flatten)]⟩:=by
 intro a;induction a with
 |nil =>intro b g c e;have c:=dL c;subst c;refine az λR f=>?_;simp only[OD,VV,seval];exact⟨λh=>by simp at h,λ_=>e g ..⟩
 |cons x a ih =>
 intro b g c e;subst c;have k:=Ro b x a;have j:=X7 (rfl:b++x::a=b++x::a);have m:=dD b x (by simp at d;omega);refine az λR f=>?_;simp only[OD,xA,bM,k,m,maxLen,VV,seval];refine⟨λ_=>⟨by simp;omega,?_⟩,λh=>by simp at h<;>omega⟩;refine⟨⟨by omega,by omega⟩,?_⟩;have l:aN b.flatten++aN x=aN (b++[x]).flatten:=by simp[aN]
 rw[l];refine f _ (bX ?_ (ih (b++[x]) (g+1) (by simp) e));repeat' constructor
def aan(a:Y X<2^40)(h0:0<X.flatten.length)(b:X.flatten.length<2^40)(J:aj):bh κ 256 [.sl 1 (Ca X)] J (.sl 1 (aN X.flatten)):=by
 refine aW func256 aou.2 λc d=>aq ?_;simp only[aou,SS,seval];simp only[xA,VV,seval];refine cB.wk (Wk.fw ?_) (cB.kT (Y X+1) (Zk X a b X [] rfl ?_));.repeat' constructor
 simp only[JE];intros;simp only[xA,VV,seval];refine al (ahR X.flatten.length h0 b _) rfl ?_;simp only[xA,VV,seval];refine cB.wk (Wk.fw ?_) (cB.kT (Y X+1) (Zj X a b X [] 0 rfl ?_));.repeat' constructor
 intro g;simp only[JE];intros;simp only[VV,seval];refine iw 0 c (.inr rfl) rfl rfl ?_ ?_;.simp only[aX,bB,aI,ar,fz,kE,cu,cG,aU,LW]
 simp only[aX,bB,aI,ar,fz,kE,cu,cG,aU];exact⟨rfl,trivial⟩
def Vc(log p:aR)(f:Y log<2^30)(e:Y p<2^30)(J:aj):bh κ 225 [.sl 1 (aN log),.sl 1 (aN p)] J (.jg [.sl 1 (aN (tx log p).1),.I (tx log p).2]):=by
 refine aW func225 aoN.2 λd c=>aq ?_;have b:IntKind.i64.wrap ((Y log:Int)+8)=((Y log+8:Nat):Int):=by rw[show(Y log:Int)+8=((Y log+8:Nat):Int)by omega,xr (by omega)]
 have a:IntKind.i64.wrap (((Y log+8:Nat):Int)+(Y p:Int))=((Y log+8+Y p:Nat):Int):=by rw[show((Y log+8:Nat):Int)+(Y p:Int)=((Y log+8+Y p:Nat):Int)by omega,xr (by omega)]
 simp only[aoN,SS,seval];simp only[bM,b,a,VV,seval];refine⟨λh=>?_,λh=>?_⟩
 .have h:65536<Y p\/4194304<Y log+8+Y p:=by simp at h;omega
  refine dS (xs':=[.sl 1 (aN (tx log p).1),.I (tx log p).2]) (.inr rfl) rfl (Wk.fw ?_) rfl ⟨rfl,rfl⟩;simp only[tx,aQ h,aN,ar];exact .cons (.nil _) (.cons (.refl _) .nil)
 have h:¬(65536<Y p\/4194304<Y log+8+Y p):=by simp at h;omega
 refine al (JU (IntKind.u32.wrap (Y p:Int)) _) rfl ?_;simp only[VV,seval];refine al (HP 2166136261 (pk (IntKind.u32.wrap (Y p:Int))) (by rw[lO];omega) _) rfl ?_;simp only[VV,seval];refine al (HP _ p (by omega) _) rfl ?_;simp only[VV,seval];refine al (JU _ _) rfl ?_;simp only[V.pure,VV,seval];refine iN (zs:=[.sl 1 (Ca [log,pk (IntKind.u32.wrap (Y p:Int)),FF p,p])]) (.cons (.lit _ _) .nil) (aan _ (by simp) (by simp[lO];omega) (by simp[lO,FF];omega) _) ?_;simp only[VV,seval];refine dS (xs':=[.sl 1 (aN (tx log p).1),.I (tx log p).2]) (.inr rfl) rfl ?_ rfl ⟨rfl,rfl⟩;simp only[tx,aw h,EO,List.flatten_nil,bI,aO];exact Wk.refl _ _
def X3(c:g<2^60):IntKind.i64.wrap ((IntKind.u64.wrap (g:Int)).fdiv (2^min 1 IntKind.u64.bits))=((g / 2:Nat):Int):=by
 have b:IntKind.u64.wrap (g:Int)=g:=by simp only[IntKind.wrap,IntKind.bits,IntKind.signed];simp only[dI,aP,bw];omega
 have a:(2:Int)^min 1 IntKind.u64.bits=2:=by decide
 rw[b,a,jd _ (by decide)];rw[show(g:Int) / 2=((g / 2:Nat):Int)by omega,xr (by omega)]
def agw(n m:Nat)(x:n<2^40)(w:m<=n)(u:Ju κ g=θ) (r:∀k:Nat,k<n->bh κ g (.I k::F) J (.b (decide (m<=k)))):∀(N i j:Nat),j - i<=N->i<=m->m<=j->j<=n ->((fj 5 (fh (.I m) (fj 20 fo))) λp=>K (.exit 0) ⟨p,J⟩) ->gw (Y J) κ Jc K (N+1) ⟨(uu 1 (.fn g F::uu 3 (.I i::.I j::uu 19 []))),J⟩:=by
 intro N;induction N with
 |zero =>
  intro i j q f l o c;obtain rfl:i=m:=by omega
  have a:decide ((i:Int)<(j:Int))=G:=by simp;omega
  refine az λR d=>?_;simp only[Jc,a,VV,seval];exact c ..
 |succ N ih =>
 intro i j q f l o c;by_cases v:i<j
 .have a:decide ((i:Int)<(j:Int))=θ:=by simp;omega
  have t:IntKind.i64.wrap ((i:Int)+(j:Int))=((i+j:Nat):Int):=by rw[show(i:Int)+(j:Int)=((i+j:Nat):Int)by omega,xr (by omega)]
  refine az λR d=>?_;have s:=X3 (i+j) (by omega);have e:IntKind.i64.wrap ((((i+j) / 2:Nat):Int)+1)=(((i+j) / 2+1:Nat):Int):=by rw[da (by omega)]
  simp only[Jc,a,t,s,e,VV,Int.reduceBEq,Int.reduceBNe,Nat.reduceAdd,Nat.reduceSub,Nat.reduceLeDiff,Nat.reduceEqDiff,Int.reduceToNat,reduceIte,reduceCtorEq];refine⟨by decide,?_⟩;refine vY rfl u (r ((i+j) / 2) (by omega)) rfl ?_;simp only[e,VV,seval];refine⟨λh=>?_,λh=>?_⟩
  .have h:¬m<=(i+j) / 2:=by simpa using h
   refine d _ (bX ?_ (ih ((i+j) / 2+1) j (by omega) (by omega) l o c));repeat' constructor
  have h:m<=(i+j) / 2:=by simpa using h
  refine d _ (bX ?_ (ih i ((i+j) / 2) (by omega) f h (by omega) c));repeat' constructor
 obtain rfl:i=m:=by omega
 have a:decide ((i:Int)<(j:Int))=G:=by simp;omega
 refine az λR d=>?_;simp only[Jc,a,VV,seval];exact c ..
def Mn(n m:Nat)(d:n<2^40)(a:m<=n)(e:Ju κ g=θ) (c:∀k:Nat,k<n->bh κ g (.I k::F) J (.b (decide (m<=k)))):bh κ 223 [.I n,.fn g F] J (.I m):=by
 refine aW func223 aoO.2 λh f=>aq ?_;simp only[aoO,SS,seval];simp only[VV,seval];refine cB.wk (Wk.fw ?_) (cB.kT (n+1) (agw g F n m d a e c n 0 n (by omega) (by omega) a (aM _) ?_));.repeat' constructor
 simp only[JE];intros;simp only[VV,seval];exact bK (.inr rfl) rfl ⟨rfl,rfl⟩
def ov:M.azR.length=13:=by simp[aV.azR,cL.azR,En.azR]
def vW:M.azR.take 13=M.azR:=by rw[<- ov M,List.take_length]
def Y1(a b:Nat)(l:List aV)(x:aV)(e:T[a]?=S (.box 53 [.sl 13 (l.map aV.azR)]))(d:T[b]?=S (.box 57 x.azR))(k:Nat)(y:aV)(c:l[k]?=S y): bh κ 224 [.I k,.ptr a 0,.ptr b 0] T (.b (decide (0<=dH y x))):=by
 refine aW func224 afW.2 λh g=>aq ?_;have i:k<Y l:=(ag.1 c).1;have f:(l.map aV.azR).getD k []=y.azR:=by simp[aA,c]
 simp only[afW,SS,seval];simp only[e,d,f,aa,VV,seval];refine⟨⟨by omega,by omega⟩,by rw[ov];exact aM _,by rw[ov];exact aM _,?_⟩;refine al (D1 y x _) (by simp only[vW,VV,seval]) ?_;simp only[VV,seval];exact bK (.inr rfl) rfl ⟨rfl,rfl⟩
def MQ(m:Nat)(q:Y a<2^39)(n:m<=Y a)(h1:∀(k:Nat) (y:aV),a[k]?=S y->(0<=dH y M<->m<=k))(J:aj):
  bh κ 169 [.sl 13 (a.map aV.azR),.agg M.azR] J (.jg [.I m,.b (match a[m]? with|some y=>dH y M==0|none=>G)]):=by
 refine aW func169 af0.2 λi o=>aq ?_;simp only[af0,SS,seval];simp only[aV.azR,cL.azR,En.azR,aa,VV,seval];refine al (Mn 224 [.ptr J.length 0,.ptr (Y J+1) 0] a.length m (by omega) n (by kernel_rfl) (λk j=>?_)) rfl ?_;.obtain⟨y,d⟩:∃y,a[k]?=S y:=⟨_,aD j⟩;refine(Y1 _ J.length (Y J+1) a M (by simp only[aV.azR,cL.azR,En.azR,VV,seval]) (by simp only[aV.azR,cL.azR,En.azR,VV,seval]) k y d).mono ?_;rintro r p ⟨rfl,rfl⟩;refine⟨?_,rfl⟩;simp only[decide_eq_decide.2 (h1 k y d)]
 simp only[aa,VV,seval];have g:((decide ((m:Int)<(Y a:Int))==θ)=θ)<->m<Y a:=by simp
 cases d:a[m]? with
 |some y =>
  have f:m<Y a:=(ag.1 d).1;have l:(a.map aV.azR).getD m []=y.azR:=by simp[aA,d]
  have e:decide ((m:Int)<(Y a:Int))=θ:=by simp;omega
  rw[l,vW];refine⟨λ_=>⟨by omega,by omega⟩,.agg y.azR,λ_=>⟨rfl,by rw[ov];exact aM _⟩,?_⟩;refine bV (c:=θ) (by simp only[e,VV,seval]<;>rfl) (λ_=>D1 y M _) (by simp only[aV.azR,cL.azR,En.azR,VV,seval]) ?_;simp only[e,VV,seval];exact bA i (.inr rfl) (by simp only[RS,seval];rfl) (by simp[LW]) ⟨rfl,rfl⟩
 |none =>
 have f:¬m<Y a:=by simpa using d
 have e:decide ((m:Int)<(Y a:Int))=G:=by simp;omega
 refine⟨λh=>absurd (g.1 h) f,.u,λh=>absurd (g.1 h) f,?_⟩;refine bV (c:=G) (v:=.I 0) (by simp only[e,VV,seval]<;>rfl) (λh=>by simp at h) rfl ?_;simp only[e,VV,seval];exact bA i (.inr rfl) (by simp only[RS,seval];rfl) (by simp[LW]) ⟨rfl,rfl⟩
def acJ(l:List aV)(v:bT (J++[R]))(k:Y l<2^39):∀(b c:List aV) (d:gh),l=c++b ->((fj 3 (fh (.mp (Y J+1)) (fj 50 fo))) λt=>K (.exit 0) ⟨t,J++[R,.map 99 172 (uk (b.foldl (λd o=>HB d (oh o)) d))]⟩) ->gw (Y J) κ Sh K (Y b+1) ⟨(uu 3 (.mp (Y J+1)::uu 10 (.sl 13 (l.map aV.azR)::.I (Y l)::.I (Y c)::uu 37 []))),J++[R,.map 99 172 (uk d)]⟩:=by
 intro b;induction b with
 |nil =>intro c d f r;have f:=dL f;subst f;refine az λa n=>?_;simp only[Sh,VV,seval];exact⟨λh=>by simp at h,λ_=>r ..⟩
 |cons x b ih =>
 intro c d f r;subst f;have s:=dD c x (by simp at k;omega);have next:∀{e:aj} {a:ck} {q:aB},(∀p,gw (Y J) κ Sh K (Y b+1) p->a p) ->
   rk q (uu 3 (.mp (Y J+1)::uu 10 (.sl 13 ((c++x::b).map aV.azR)::.I (Y (c++x::b))::.I (Y (c++[x]))::uu 37 [])))->a ⟨q,J++(R::.map 99 172 (uk (HB d (oh x)))::e)⟩:=by
  intro e a q n u;refine n _ (cn [_,_] e ?_ u ?_ (ih (c++[x]) (HB d (oh x)) (by simp) r));.have:=cj v (l:=[.map 99 172 (uk (HB d (oh x)))]) (by simp);simpa using this
  simp only[LW,ae,ai,aG];omega
 refine az λa n=>?_;simp only[Sh,aV.azR,cL.azR,En.azR,s,VV,seval];refine⟨λ_=>⟨by simp;omega,?_⟩,λh=>by simp at h<;>omega⟩;have m:rI [] (.agg [])=.agg []:=rfl;rcases aed d (oh x)with⟨_,g,j⟩|⟨_,i,g,j⟩;.simp only[kV,oh]at g j;simp only[g,j,m,V.Hm,s,VV,seval];refine next n ?_;repeat' constructor
 simp only[kV,oh]at g j;simp only[g,j,m,V.Hm,s,VV,seval];refine next n ?_;repeat' constructor
def ky:aB:=w.map λn=>.I n
def NC:jt g (ky w):=ed.2 λi x a=>by simp only[ky,bR,aL]at a;obtain⟨n,_,rfl⟩:=a;exact .i _ _
def acI(z:bT (J++[R]))(g:gh)(o:Nat)(A:o<8)(c:Nat)(D:c<2^40)(h1:∀j:Nat,j<c->((o:Int),(j:Int)+1)∈g)(w:((o:Int),(c:Int)+1) ∉ g): ∀(N j:Nat) (b:bU),j+N=c->Y b=8->b[o]?=S (j:Int) ->(∀d e,Y d=8->d[o]?=S (c:Int)->(∀q,q≠o->d[q]?=b[q]?)->((fj 3 (fh (.mp (Y J+1)) (fj 2 (fh (.ptr (Y J+2) 0) (fj 23 (fh (.I o) (fj 23 fo))))))) λu=>K (.exit 4) ⟨u,J++(R::.map 99 172 (uk g)::.box 173 (ky d)::e)⟩)) ->gw (Y J) κ Sg K (N+1) ⟨(uu 3 (.mp (Y J+1)::uu 2 (.ptr (Y J+2) 0::.I o::uu 22 (.I o::uu 23 [])))),J++[R,.map 99 172 (uk g),.box 173 (ky b)]⟩:=by
 intro N;induction N with
 |zero =>
  intro j b C h k m;obtain rfl:j=c:=by omega
  have p:(ky b)[o]?=S (.I (j:Int)):=by simp[ky,k]
  have f:=Ku (n:=0) w;simp only[kV]at f;have r:IntKind.i64.wrap ((j:Int)+1)=(j:Int)+1:=IntWalk.i64_in _ (by omega);refine az λa t=>?_;simp only[Sg,r,p,QD,lH,f,VV,seval];exact⟨⟨by omega,by omega⟩,m b [_] h k (λ_ _=>rfl) ..⟩
 |succ N ih =>
 intro j b C h k m;have p:(ky b)[o]?=S (.I (j:Int)):=by simp[ky,k]
 obtain⟨i,f,_⟩:=Ks (n:=0) (h1 j (by omega));simp only[kV]at f;have r:IntKind.i64.wrap ((j:Int)+1)=(j:Int)+1:=IntWalk.i64_in _ (by omega);refine az λa t=>?_;simp only[Sg,r,p,QD,lH,f,VV,seval];refine⟨⟨by omega,by omega⟩,⟨by omega,by omega⟩,⟨by omega,by omega⟩,by simp[ky];omega,?_⟩;have B:List.take o (ky b)++.I ((j:Int)+1)::List.drop (o+1) (ky b)=ky (b.set o ((j+1:Nat):Int)):=by
  have:ky (b.set o ((j+1:Nat):Int))=(ky b).set o (.I ((j:Int)+1)):=by simp[ky]
  rw[this,List.set_eq_take_append_cons_drop,aQ (by simp[ky];omega)]
 rw[B];refine t _ (cn [_,_,_] [_] ?_ ?_ ?_ (ih (j+1) (b.set o ((j+1:Nat):Int)) (by omega) (by simpa using h) (by simp[h,A]) (λd e x y v=>m d e x y (λq s=>by rw[v q s];simp[EM s]))));.have:=cj z (l:=[.map 99 172 (uk g),.box 173 (ky (b.set o ((j+1:Nat):Int)))]) (by simp[NC]);simpa using this
 .repeat' constructor
 simp only[LW,ae,ai,aG];omega
def acH(t:bT (J++[R]))(d:gh)(c:Nat->Nat)(C:∀o:Nat,o<8->c o<2^40)(h1:∀o:Nat,o<8->∀j:Nat,j<c o->((o:Int),(j:Int)+1)∈d)(x:∀o:Nat,o<8->((o:Int),(c o:Int)+1) ∉ d): ∀(N o:Nat) (b:bU),o+N=8->Y b=8->(∀q,q<o->b[q]?=S (c q:Int))->(∀q,o<=q->q<8->b[q]?=S 0) ->(((fj 6 (fh (.ptr (Y J+2) 0) (fj 47 fo))) λw=>K (.exit 2) ⟨w,J++[R,.map 99 172 (uk d),.box 173 (ky ((List.range 8).map λq=>(c q:Int)))]⟩)) ->gw (Y J) κ W3 K (N+1) ⟨(uu 3 (.mp (Y J+1)::uu 2 (.ptr (Y J+2) 0::uu 23 (.I o::uu 23 [])))),J++[R,.map 99 172 (uk d),.box 173 (ky b)]⟩:=by
 intro N;induction N with
 |zero =>
  intro o b B r m i k;obtain rfl:o=8:=by omega
  have e:b=(List.range 8).map λq=>(c q:Int):=by
   apply kR;intro q;by_cases g:q<8;.rw[m q g];simp[g]
   rw[cH (by omega),cH (by simp;omega)]
  rw[e];refine az λa v=>?_;simp only[W3,VV,seval];exact⟨λh=>by simp at h,λ_=>k ..⟩
 |succ N ih =>
 intro o b B r m i k;have A:decide ((o:Int)<8)=θ:=by simp;omega
 have u:IntKind.i64.wrap ((o:Int)+1)=((o+1:Nat):Int):=da (by omega);refine az λa v=>?_;simp only[W3,A,u,VV,seval];refine cB.wk (Wk.fw ?_) (cB.kT (c o+1) (acI t d o (by omega) (c o) (C o (by omega)) (h1 o (by omega)) (x o (by omega)) (c o) 0 b (by omega) r (i o (aM _) (by omega)) ?_));.repeat' constructor
 intro f p y z s;simp only[JE];intros;simp only[u,VV,seval];refine v _ (cn [_,_,_] p ?_ ?_ ?_ (ih (o+1) f (by omega) y (λq g=>?_) (λq g n=>?_) k));.have:=cj t (l:=[.map 99 172 (uk d),.box 173 (ky f)]) (by simp[NC]);simpa using this
 .repeat' constructor
 .simp only[LW,ae,ai,aG];omega
 .by_cases e:q=o;.subst e;exact z
  rw[s q e];exact m q (by omega)
 rw[s q (by omega)];exact i q (by omega) n
structure s9 (l:List aV) (c:Nat->Nat):Prop where
 lt:∀o:Nat,o<8->c o<2^40
 has:∀o:Nat,o<8->∀j:Nat,j<c o->∃x∈l,oh x=((o:Int),(j:Int)+1)
 no:∀o:Nat,o<8->∀x∈l,oh x≠((o:Int),(c o:Int)+1)
def ly(c:Nat->Nat):bU:=(List.range 8).map λq=>(c q:Int)
def N4(w:L.azU)(u:L.down=G)(c:Nat->Nat)(l:s9 L.azS c)(J:aj):bh κ 87 [.agg L.azR] J (.sl 1 ((u9 (ly c) []).map cN)):=by
 refine aW func87 p87.2 λr A=>?_;simp only[p87,SS,seval];refine cB.cutAt (.more (.more (.more (.more (.more (.one _ _)))))) λR s=>?_;simp only[bO.azR,u,aa,VV,seval];have p:bT (J++[.box 61 [.I L.azW,.I L.az5,.sl 13 (L.azS.map aV.azR),.sl 1 (aN L.log),.I L.aAe,.b G]]):=cj r (by simp only[bF,bD,cA,cW,cK,LW]);refine cB.wk (Wk.fw ?_) (cB.kT (L.azS.length+1) (acJ L.azS p (by have:=w.len;omega) L.azS [] [] rfl ?_));.repeat' constructor
 simp only[JE];intros;simp only[VV,seval];have d:=λq=>ac2 L.azS [] q;generalize v:L.azS.foldl (λg L=>HB g (oh L)) []=g at d |-;refine cB.wk (Wk.fw ?_) (cB.kT (8+1) (acH p g c l.lt (λq a j z=>?_) (λq a h=>?_) 8 0 [0,0,0,0,0,0,0,0] rfl rfl (λq a=>by omega) (λq _ a=>?_) ?_));.repeat' constructor
 .obtain⟨x,i,f⟩:=l.has q a j z;exact(d _).2 (.inr ⟨x,i,f⟩)
 .rcases(d _).1 h with h|⟨x,i,f⟩;.simp at h
  exact l.no q a x i f
 .rcases q with _|_|_|_|_|_|_|_|q<;>first|rfl|omega
 simp only[JE];intros;simp only[VV,seval];refine s _ (cB.wk ((Wk.fw (ys:=(uu 6 (.ptr (Y J+2) 0::uu 47 []))) (by repeat' constructor)).trans (Wk.arW (T:=173) (cs:=ky (ly c)) (ys:=(uu 6 (.ep 8 [ky (ly c)] 0 0::uu 47 []))) 2 (aM _) r rfl ?_ ?_)) (aq ?_));.intro x o;simp only[ky,cv]at o;obtain⟨n,_,rfl⟩:=o;rfl
 .have e:Y (ky (ly c))=8:=by simp[ky,ly]
  have m:=Bv.ptr (n:=Y J) (k:=2) (cs:=ky (ly c)) 0;rw[e]at m;repeat first|exact .nil|refine .cons (.forget _) ?_|refine .cons m ?_
 clear s R;have y:Y (ky (ly c))=8:=by simp[ky,ly]
 have t:(ky (ly c)).map (λx=>[x])=(ly c).map cN:=by simp[ky,cN]
 simp only[y,t,VV,seval];refine al (QV (ly c) _) rfl ?_;simp only[VV,seval];exact bK (.inr rfl) rfl ⟨rfl,rfl⟩
set_option maxRecDepth 20000 in
def uc(a b:En)(J:aj):bh κ 34 [.agg a.azR,.agg b.azR] J (.b (Hv a b)):=by
 refine aW func34 p34.2 λc e=>aq ?_;simp only[p34,SS,seval];simp only[En.azR,VV,seval];refine al (Bo a.azZ b.azZ _) rfl ?_;simp only[VV,seval];have d:Hv a b=(jG a.azZ b.azZ&&(jG a.az0 b.az0&&(a.cM==b.cM&&(a.next==b.next&&(a.eu==b.eu&&(a.dC==b.dC&&(a.aAb==b.aAb&&a.aAc==b.aAc))))))):=rfl;rw[d];refine bV (by simp only[VV,seval]<;>rfl) (λ_=>Bo a.az0 b.az0 _) rfl ?_;simp only[VV,seval];cases jG a.azZ b.azZ<;>simp only[VV,seval];.exact gm c (by rfl) (by simp[LW])
 cases jG a.az0 b.az0<;>simp only[VV,seval];.exact gm c (by rfl) (by simp[LW])
 cases a.cM==b.cM<;>simp only[VV,seval];.exact gm c (by rfl) (by simp[LW])
 cases a.next==b.next<;>simp only[VV,seval];.exact gm c (by rfl) (by simp[LW])
 cases a.eu==b.eu<;>simp only[VV,seval];.exact gm c (by rfl) (by simp[LW])
 cases a.dC==b.dC<;>simp only[VV,seval];.exact gm c (by rfl) (by simp[LW])
 cases a.aAb==b.aAb<;>simp only[VV,seval];.exact gm c (by rfl) (by simp[LW])
 exact gm c (by rfl) (by simp[LW])
def akB(j:Y y<2^63)(q:Y y=Y A):∀(f d c i:List En),y=c++f->A=i++d->Y c=Y i ->(kU f d=θ->((fj 27 fo) λo=>K (.exit 0) ⟨o,J⟩))->(kU f d=G->((fj 4 (fh (.b G) (fj 22 fo))) λo=>K .ret ⟨o,J⟩)) ->gw k κ Xn K (Y f+1) ⟨(.sl 8 (y.map En.azR)::.sl 8 (A.map En.azR)::uu 10 (.I (Y y)::.I (Y c)::uu 13 [])),J⟩:=by
 intro f;induction f with
 |nil =>
  intro d c i g l r m n;have:d=[]:=by subst g;subst l;simp at q;exact cd (by omega)
  subst this;have g:=dL g;subst g;refine az λR s=>?_;simp only[Xn,VV,seval];exact⟨λh=>by simp at h,λ_=>m rfl ..⟩
 |cons x f ih =>
 intro d c i g l r m n;cases d with
 |nil=>subst g;subst l;simp at q;omega
 |cons a d =>
 subst g;subst l;have t:(List.map En.azR (i++a::d)).getD c.length []=a.azR:=by rw[r];exact dR
 have v:=dD c x (by simp at j;omega);refine az λR s=>?_;simp only[Xn,ak,t,En.azR,VV,seval];have u:(0:Int)<=Y c/\(Y c:Int)<Y (List.map En.azR (c++x::f)):=by simp;omega
 have p:(0:Int)<=Y c/\(Y c:Int)<Y (List.map En.azR (i++a::d)):=by simp at q |-;omega
 refine⟨λ_=>⟨u,p,?_⟩,λh=>by simp at h<;>omega⟩;refine al (uc x a _) rfl ?_;simp only[VV,seval];refine⟨λh=>?_,λh=>?_⟩
 .have h:Hv x a=G:=by rw[dG]at h;exact h
  exact n (by simp[kU,h]) ..
 have h:Hv x a=θ:=by rw[eP]at h;exact h
 have e:kU (x::f) (a::d)=kU f d:=by simp[kU,h]
 rw[e]at m n;refine s _ (bX ?_ (ih d (c++[x]) (i++[a]) (by simp) (by simp) (by simp[r]) m n));rw[v];repeat' constructor
def rH:bh κ 28 [.sl 8 (y.map En.azR),.sl 8 (A.map En.azR)] T (.b (kU y A)):=by
 refine aW func28 p28.2 λg f=>aq ?_;have a:=qP (f 0 _ rfl).1;rw[aa]at a;simp only[p28,SS,seval];simp only[aa,VV,seval];refine⟨λh=>?_,λh=>?_⟩
 .have h:Y y≠Y A:=by simp at h;omega
  have e:kU y A=G:=by cases d:kU y A with|false=>rfl|true=>exact absurd (Nr d) h
  exact bK (.inr rfl) rfl ⟨by rw[e];rfl,rfl⟩
 have h:Y y=Y A:=by simp at h;omega
 refine cB.bX ?_ (Y y+1) (akB y A a h y A [] [] rfl rfl rfl (λc=>?_) (λc=>?_));.repeat' constructor
 .simp only[JE];intros;simp only[VV,seval];exact bK (.inr rfl) rfl ⟨by rw[c];rfl,rfl⟩
 simp only[JE];intros;exact bK (.inr rfl) rfl ⟨by rw[c];rfl,rfl⟩
def Cv.iV(h:rk s t):Cv (.agg s) (.agg t):=.agg _ _ h.at.1 (λi x y a b=>h.at.2 i x y a b)
def CU(e:Ev)(i:e.azT=1\/e.azT=3\/e.azT=6\/e.azT=7)(J:aj):bh κ 41 [.agg P.azR,.agg e.azR] J (.b (kh P e)):=by
 refine aW func41 p41.2 λf k=>aq ?_;obtain⟨d,a,b,m,j⟩:=e;simp only at i;simp only[p41,SS,seval];rcases(show(d=1)\/(d=3\/d=7)\/(d=6)by omega)with h|h|h
 .subst h;all_goals
   simp only[Net.azR,Ev.azR,En.azR,aa,VV,seval];refine al (pK a P.an.length _) rfl ?_;simp only[VV,seval];exact bA f (.inr rfl) rfl (by simp[LW]) ⟨by simp[Pm.one,kh],rfl⟩
 .rcases h with rfl|rfl;all_goals
   simp only[Net.azR,Ev.azR,En.azR,aa,VV,seval];refine al (pK a P.an.length _) rfl ?_;cases g:LK a P.an.length;.simp only[aa,VV,seval];refine bV (c:=G) (v:=.u) (by simp only[VV,seval]<;>rfl) (λh=>by cases h) rfl ?_;simp only[VV,seval];exact bA f (.inr rfl) rfl (by simp[LW]) ⟨by simp[Pm.one,kh,g],rfl⟩
   simp only[aa,VV,seval];refine bV (c:=θ) (by simp only[VV,seval]<;>rfl) (λ_=>pK b P.an.length _) rfl ?_;simp only[VV,seval];exact bA f (.inr rfl) rfl (by simp[LW]) ⟨by simp[Pm.one,kh,g],rfl⟩
 subst h;all_goals
  simp only[Net.azR,Ev.azR,En.azR,aa,VV,seval];refine al (pK a P.an.length _) rfl ?_;simp only[aa,VV,seval];refine al (pK m P.ax.length _) rfl ?_;simp only[VV,seval];exact bA f (.inr rfl) rfl (by simp[LW]) ⟨by simp[Pm.one,kh],rfl⟩
def UQ(s b:Nat)(f:g*2^s<2^32)(c:s<=32)(d:b<2^s):IntKind.u32.wrap (((BitVec.ofInt IntKind.u32.bits ((g*2^s:Nat):Int) ||| BitVec.ofInt IntKind.u32.bits (b:Int)).toNat:Nat):Int)=((g*2^s+b:Nat):Int):=by
 have e:2^s<=2^32:=zC (by decide) c;have a:(BitVec.ofInt IntKind.u32.bits ((g*2^s:Nat):Int) ||| BitVec.ofInt IntKind.u32.bits (b:Int)).toNat=g*2^s+b:=by show(BitVec.ofInt 32 ((g*2^s:Nat):Int) ||| BitVec.ofInt 32 (b:Int)).toNat=g*2^s+b;rw[lK,lK,BitVec.toNat_or,mQ,mQ,jJ f,jJ (by omega),ju g];exact(aju d g).symm
 have h:g*2^s+b<2^32:=by have:=(BitVec.ofInt IntKind.u32.bits ((g*2^s:Nat):Int) ||| BitVec.ofInt IntKind.u32.bits (b:Int)).isLt;rw[a]at this;exact this
 rw[a,tC];omega
def QT(h:4<=Y p)(J:aj):bh κ 202 [.sl 1 (aN p)] J (.i .u32 (iL (p.take 4))):=by
 match p,h with
 |a::b::c::d::p,_ =>
 refine aW func202 aoX.2 λz t=>aq ?_;have x:=a.toNat_lt;have s:=b.toNat_lt;have y:=c.toNat_lt;have u:=d.toNat_lt;have w:∀k:Nat,k<2^32->IntKind.u32.wrap (k:Int)=k:=λk v=>by rw[tC];omega
 have o:gv (aN (a::b::c::d::p)) 0 0=S (.i .u8 a.toNat):=rfl;have n:gv (aN (a::b::c::d::p)) 1 0=S (.i .u8 b.toNat):=rfl;have j:gv (aN (a::b::c::d::p)) 2 0=S (.i .u8 c.toNat):=rfl;have m:gv (aN (a::b::c::d::p)) 3 0=S (.i .u8 d.toNat):=rfl;have r:Y (aN (a::b::c::d::p))=Y p+4:=by rw[bM];rfl
 have g:IntKind.u32.wrap ((a.toNat:Int)*2^min 24 IntKind.u32.bits)=((a.toNat*2^24:Nat):Int):=by rw[<- w (a.toNat*2^24) (by omega)];congr 1
 have q:IntKind.u32.wrap ((b.toNat:Int)*2^min 16 IntKind.u32.bits)=((b.toNat*2^16:Nat):Int):=by rw[<- w (b.toNat*2^16) (by omega)];congr 1
 have l:IntKind.u32.wrap ((c.toNat:Int)*2^min 8 IntKind.u32.bits)=((c.toNat*2^8:Nat):Int):=by rw[<- w (c.toNat*2^8) (by omega)];congr 1
 have o1:=UQ a.toNat 24 (b.toNat*2^16) (by omega) (by decide) (by omega);have o2:=UQ (a.toNat*2^8+b.toNat) 16 (c.toNat*2^8) (by omega) (by decide) (by omega);have f:=UQ (a.toNat*2^16+b.toNat*2^8+c.toNat) 8 d.toNat (by omega) (by decide) (by omega);rw[show(a.toNat*2^8+b.toNat)*2^16=a.toNat*2^24+b.toNat*2^16 by omega]at o2;rw[show(a.toNat*2^16+b.toNat*2^8+c.toNat)*2^8=a.toNat*2^24+b.toNat*2^16+c.toNat*2^8 by omega]at f;have e:iL ((a::b::c::d::p).take 4)=((a.toNat*2^24+b.toNat*2^16+c.toNat*2^8+d.toNat:Nat):Int):=by simp only[fe,jE,iL,bH,ja];omega
 rw[e];simp only[aoX,SS,seval];simp only[r,o,n,j,m,w a.toNat (by omega),w b.toNat (by omega),w c.toNat (by omega),w d.toNat (by omega),g,q,l,o1,o2,f,VV,Int.reduceBEq,Int.reduceBNe,Nat.reduceAdd,Nat.reduceSub,Nat.reduceLeDiff,Nat.reduceEqDiff,Int.reduceToNat,reduceIte,reduceCtorEq];refine⟨by omega,by omega,by omega,by omega,by omega,by omega,by omega,?_⟩;exact bK (.inr rfl) (by simp only[RS,seval];rfl) ⟨rfl,rfl⟩
def Tk(o:Y p<2^30)(J:aj):bh κ 160 [.sl 1 (aN p)] J (.I (kx p:Nat)):=by
 refine aW func160 apw.2 λm k=>aq ?_;simp only[apw,SS,seval];simp only[bM,VV,seval];refine⟨λh=>?_,λh=>?_⟩
 .have c:Y p<8:=by have:=ic h;omega
  rw[kx,aQ c];exact bK (.inr rfl) (by simp only[RS,seval];rfl) ⟨rfl,rfl⟩
 have c:¬Y p<8:=by have:=qM h;omega
 obtain⟨n,f⟩:∃n:Nat,iL (p.take 4)=n:=⟨(iL (p.take 4)).toNat,by have:=A7 (p.take 4) (by rw[bj];omega);omega⟩;have l:=A7 (p.take 4) (by rw[bj];omega);have j:IntKind.i64.wrap (n:Int)=n:=IntWalk.i64_in _ (by omega);have i:IntKind.i64.wrap ((Y p:Int) - 8)=((Y p - 8:Nat):Int):=by rw[IntWalk.i64_in _ (by omega)];omega
 rw[kx,aw c,f];refine al (QT p (by omega) _) rfl ?_;simp only[f,j,i,bM,VV,seval];refine⟨λh=>?_,λh=>?_⟩;.rw[aQ (by simpa using h)];exact bK (.inr rfl) (by simp only[RS,seval];rfl) ⟨rfl,rfl⟩
 have g:¬(65536<(n:Int)\/((Y p - 8:Nat):Int)<n):=by simpa using h
 rw[aw g];have a:IntKind.i64.wrap (8+(n:Int))=((8+n:Nat):Int):=by rw[IntWalk.i64_in _ (by omega)];omega
 have e:(aN p).take 4=aN (p.take 4):=by simp[aN,gD]
 have b:((aN p).drop 8).take n=aN ((p.drop 8).take n):=by simp[aN,gD,lY]
 have d:((aN p).drop 4).take (Y p - 4)=aN (p.drop 4):=by rw[cx (by simp[aN])];simp[aN,lY]
 simp only[a,e,b,d,ak,ee,VV,seval];refine⟨by omega,⟨by omega,by omega⟩,⟨by omega,by omega⟩,?_⟩;refine al (HP wZ (p.take 4) (by rw[bj];omega) _) rfl ?_;simp only[a,e,b,d,ak,ee,bM,VV,seval];refine⟨⟨⟨by omega,by omega⟩,by omega,by omega⟩,?_⟩;refine al (HP (mU wZ (p.take 4)) ((p.drop 8).take n) (by rw[bj,ca];omega) _) rfl ?_;simp only[a,e,b,d,ak,ee,bM,VV,seval];refine⟨⟨by omega,by omega⟩,?_⟩;refine al (QT (p.drop 4) (by rw[ca];omega) _) rfl ?_;simp only[a,VV,seval];refine⟨λh=>?_,λh=>?_⟩;.rw[aw (by simpa using h)];exact bK (.inr rfl) (by simp only[RS,seval];rfl) ⟨rfl,rfl⟩
 rw[aQ (by simpa using h)];exact bK (.inr rfl) (by simp only[RS,seval];rfl) ⟨rfl,rfl⟩
def Kp:∀a:gW,8*Y a<=Y (du a)|[]=>jK _|p::a=>by have:=Kp a;simp only[du,fK,ah,kq,ae]at this |-;omega
def aa7:Ti κ 59 1 24:=o8 (by kernel_rfl)
def B2:aB:=[.sl 1 (aN p)]
def Hc:Ob:=.row 59 1 24 g G (X.map B2)
def ag6(f:Y (du X++p)<2^30)(q:∀a∈X,Y a<=65536)(o:kx p=0):∀(c b:gW) (g:Nat),X=b++c ->(∀g,((fj 2 (fh (.own J.length g) (fh (.I (Y (du X))) (fj 23 fo)))) λl=>K .ret ⟨l,J++[Hc g X]⟩)) ->gw (Y J) κ Pq K (Y c+1) ⟨(.sl 1 (aN (du X++p))::uu 1 (.own J.length g::.I (Y (du b))::uu 23 [])),J++[Hc g b]⟩:=by
 intro c;induction c with
 |nil =>
  intro b g e h;have e:=dL e;subst e;have i:((aN (du X++p)).drop (Y (du X))).take (Y (du X++p) - Y (du X))=aN p:=by rw[cx (by simp[aN])];simp[aN]
  refine az λR k=>?_;simp only[Pq,bM,ak,i,VV,seval];refine⟨⟨by omega,by simp;omega⟩,?_⟩;refine al (Tk p (by simp at f;omega) _) rfl ?_;simp only[o,VV,seval];exact h g ..
 |cons a c ih =>
 intro b g e h;have n:=q a (by rw[e];simp);have r:du X=du b++(rD a++du c):=by rw[e];simp[du]
 have d:du X++p=du b++(rD a++(du c++p)):=by rw[r];simp
 have y:Y (du X++p)=Y (du b)+(8+Y a+Y (du c++p)):=by rw[d,ah,ah,kq]
 have i:((aN (du X++p)).drop (Y (du b))).take (Y (du X++p) - Y (du b))=aN (rD a++(du c++p)):=by rw[cx (by simp[aN]),d];simp[aN]
 have v:IntKind.i64.wrap ((Y (du b):Int)+8)=((Y (du b)+8:Nat):Int):=by rw[IntWalk.i64_in _ (by omega)];omega
 have j:IntKind.i64.wrap ((Y (du b):Int)+((8+Y a:Nat):Int))=((Y (du b)+(8+Y a):Nat):Int):=by rw[IntWalk.i64_in _ (by omega)];omega
 have t:(((aN (du X++p)).drop (Y (du b)+8)).take (Y (du b)+(8+Y a) - (Y (du b)+8)))=aN a:=by
  have m:(du X++p).drop (Y (du b)+8)=a++(du c++p):=by rw[d,<- List.drop_drop,List.drop_left,DF a (by omega),aO,aO,<- List.append_assoc];exact La (by rw[ah,lO,lO])
  rw[show(du b).length+(8+Y a) - (Y (du b)+8)=Y a by omega];simp only[aN,<- List.map_drop,<- List.map_take,m,nS]
 have w:(((8+Y a:Nat):Int)==0)=G:=by simp;omega
 have x:b.map B2++[[.sl 1 (aN a)]]=(b++[a]).map B2:=by simp[B2]
 have s:Y (du b)+(8+Y a)=Y (du (b++[a])):=by simp[du,kq]
 refine az λR k=>?_;simp only[Pq,Hc,bM,ak,i,VV,seval];refine⟨⟨by omega,by omega⟩,?_⟩;refine al (Tk (rD a++(du c++p)) (by rw[ah,kq];omega) _) rfl ?_;simp only[Nq a (du c++p) n,w,v,j,t,ak,bM,VV,seval];refine⟨⟨by omega,by omega,by omega⟩,?_⟩;refine al (xi a (by omega) _) rfl ?_;simp only[j,aa,V.pure,maxLen,VV,seval];have u:=Kp b;refine⟨by omega,?_⟩;rw[x];refine k _ (bX (fr':=(.sl 1 (aN (du X++p))::uu 1 (.own J.length (g+1)::.I (Y (du (b++[a])))::uu 23 []))) ?_ (ih (b++[a]) (g+1) (by rw[e];simp) h));rw[<- s];repeat' constructor
def Ww(a:gW)(b:aR)(c:Y (du a++b)<2^30)(f:∀p∈a,Y p<=65536)(d:kx b=0)(J:aj): bh κ 112 [.sl 1 (aN (du a++b))] J (.jg [.sl 1 (a.map B2),.I (Y (du a))]):=by
 refine aW func112 aqc.2 λe h=>aq ?_;simp only[aqc,SS,seval];simp only[VV,seval];refine cB.wk (((Wk.fw (ys:=(.sl 1 (aN (du a++b))::uu 1 (.nil::.I (Y (du []))::uu 23 []))) (by repeat' constructor)).trans (Wk.k9 (P:=κ) (k:=2) aa7 rfl)).trans (Wk.fw (ys:=(.sl 1 (aN (du a++b))::uu 1 (.own J.length 0::.I (Y (du []))::uu 23 []))) ?_)) (cB.kT (Y a+1) (ag6 a b c f d a [] 0 rfl ?_));.simp only[VV,seval];repeat' constructor
 intro g;simp only[JE];intros;simp only[Hc,VV,seval];refine iw 0 e (.inr rfl) (by simp only[RS,seval];rfl) rfl ?_ ?_;.simp only[aI,ar,Pm.fz,kE,cG,aU,cu,LW]
 simp only[aI,ar,Pm.fz,kE,cG,aU,cu];exact⟨rfl,trivial⟩
def YK(a:gW)(b:aR)(c:Y (du a++b)<2^30)(f:∀p∈a,Y p<=65536)(d:kx b=0)(J:aj): bh κ 111 [.sl 1 (aN (du a++b))] J (.sl 1 (aN (du a))):=by
 refine aW func111 aqd.2 λh g=>aq ?_;have e:(aN (du a++b)).take (Y (du a))=aN (du a):=by simp[aN]
 have i:Y (du a++b)=Y (du a)+Y b:=ah;simp only[aqd,SS,seval];simp only[VV,seval];refine al (Ww a b c f d _) rfl ?_;simp only[bM,ak,e,VV,seval];refine⟨⟨by omega,by omega⟩,?_⟩;refine al (xi (du a) (by omega) _) rfl ?_;simp only[VV,seval];exact bK (.inr rfl) (by simp only[RS,seval];rfl) ⟨rfl,rfl⟩
def rC{a:aR}{c d:Bool}(h:(Rb.mk E c).de 4=(v,⟨a,d⟩))(e:Y E<2^60):
  PC κ 157 [.ptr J.length 0,.I 4] (J++[.box 185 [.sl 1 (aN E),.b c]]) (λr f=>r=.I v/\f=J++[.box 185 [.sl 1 (aN a),.b d]]):=by have:=zX (J++[.dead]) J.length (by simp) ⟨E,c⟩ e 4 (by decide);rw[h]at this;simpa[Wt]using this
def as3(r:V):Prop:=∃v,r=.jg [v,.b (decide (kx p≠0))]/\(kx p≠0->v=.sl 1 (aN ((p.drop 8).take (kx p - 8))))
def Wx(A:Y p<2^30)(J:aj):PC κ 156 [.sl 1 (aN p)] J (λr t=>as3 p r/\t=J):=by
 refine aW func156 apA.2 λi z=>aq ?_;simp only[apA,SS,seval];simp only[VV,seval];by_cases l:Y p<4
 .have k:(Rb.mk p G).de 4=(0,⟨p,θ⟩):=by simp only[Rb.de,aQ l]
  have d:(Rb.mk p θ).de 4=(0,⟨p,θ⟩):=by simp only[Rb.de,aQ l]
  have b:kx p=0:=by rw[kx,aQ (by omega)]
  refine al (rC k (by omega)) rfl ?_;simp only[VV,seval];refine al (rC d (by omega)) rfl ?_;simp only[VV,seval];exact bA i (.inr rfl) (by simp only[RS,seval];rfl) (by simp[LW]) ⟨⟨_,by simp[b,Pm.one];rfl,λh=>absurd b h⟩,rfl⟩
 have k:(Rb.mk p G).de 4=(iL (p.take 4),⟨p.drop 4,G⟩):=by simp only[Rb.de,aw l]
 have e:Y (p.drop 4)=Y p - 4:=ca;refine al (rC k (by omega)) rfl ?_;simp only[VV,seval];by_cases m:Y p<8
 .have d:(Rb.mk (p.drop 4) G).de 4=(0,⟨p.drop 4,θ⟩):=by simp only[Rb.de];rw[aQ (by rw[e];omega)]
  have b:kx p=0:=by rw[kx,aQ m]
  refine al (rC d (by omega)) rfl ?_;simp only[VV,seval];exact bA i (.inr rfl) (by simp only[RS,seval];rfl) (by simp[LW]) ⟨⟨_,by simp[b,Pm.one];rfl,λh=>absurd b h⟩,rfl⟩
 have d:(Rb.mk (p.drop 4) G).de 4=(iL ((p.drop 4).take 4),⟨p.drop 8,G⟩):=by simp only[Rb.de];rw[aw (by rw[e];omega),Dg]
 refine al (rC d (by omega)) rfl ?_;obtain⟨n,q⟩:∃n:Nat,iL (p.take 4)=n:=⟨(iL (p.take 4)).toNat,by have:=A7 (p.take 4) (by rw[bj];omega);omega⟩;have g:Y (p.drop 8)=Y p - 8:=ca;have b:kx p=if 65536<(n:Int)\/((Y p - 8:Nat):Int)<n then 0 else if mU (mU wZ (p.take 4)) ((p.drop 8).take n)=iL ((p.drop 4).take 4)then 8+n else 0:=by rw[kx,aw m,q,ak]
 have u:(aN p).take 4=aN (p.take 4):=by simp[aN,gD]
 have x:(aN (p.take 4)).isEmpty=G:=by
  have:Y (aN (p.take 4))=4:=by rw[bM,bj];omega
  cases c:aN (p.take 4)with|nil=>rw[c]at this;simp at this|cons a r=>rfl
 have s:(aN (p.drop 8)).take n=aN ((p.drop 8).take n):=by simp[aN,gD]
 have f:Y (p.take 4)=4:=by rw[bj];omega
 simp only[q,bM,g,u,x,s,f,yZ,ah,ay,maxLen,ak,aP,bw,VV,seval];refine⟨λh=>?_,λh=>?_⟩
 .have j:65536<(n:Int)\/((Y p - 8:Nat):Int)<n:=by simpa using h
  rw[aQ j]at b;exact bA i (.inr rfl) (by simp only[RS,seval];rfl) (by simp[LW]) ⟨⟨_,by simp[b,Pm.one];rfl,λh=>absurd b h⟩,rfl⟩
 have j:¬(65536<(n:Int)\/((Y p - 8:Nat):Int)<n):=by simpa using h
 rw[aw j]at b;have o:Y ((p.drop 8).take n)=n:=by rw[bj,g];omega
 have w:mU wZ (p.take 4++(p.drop 8).take n)=mU (mU wZ (p.take 4)) ((p.drop 8).take n):=by simp only[mU,nF]
 simp only[o];refine⟨⟨by omega,by omega⟩,by omega,⟨by omega,by omega⟩,?_⟩;refine tv (Y J+1) (by simp only[kO];rfl) (DI (p.take 4++(p.drop 8).take n) (by rw[ah,o,f];omega) _) (by simp[fz,kE,ev]) ?_;simp only[w,VV,seval];have v:(mU (mU wZ (p.take 4)) ((p.drop 8).take n)==iL ((p.drop 4).take 4))=decide (kx p≠0):=by
  by_cases c:mU (mU wZ (p.take 4)) ((p.drop 8).take n)=iL ((p.drop 4).take 4);.rw[aQ c]at b;rw[b,c];simp
  rw[aw c]at b;rw[b];simpa using c
 rw[v];refine bA i (.inr rfl) (by simp only[RS,seval];rfl) (by simp[LW]) ⟨⟨_,rfl,λh=>?_⟩,rfl⟩;have c:mU (mU wZ (p.take 4)) ((p.drop 8).take n)=iL ((p.drop 4).take 4):=cp λy=>h (by rw[b,aw y]);rw[aQ c]at b;rw[b,ee]
def ag9{J:aj}(O:bT J)(f:gW)(e:aR)(m:Y (du f++e)<2^30)(Q:∀p∈f,Y p<=65536)(M:kx e=0):∀(d c:gW) (g:Nat),f=c++d ->(∀g loc,((fj 2 (fh (.own J.length g) (fh (.I (Y (du f))) (fj 26 fo)))) λF=>K .ret ⟨F,J++(Hc g f::loc)⟩)) ->gw (Y J) κ Pt K (Y d+1) ⟨(.sl 1 (aN (du f++e))::uu 3 (.own J.length g::.I (Y (du c))::uu 24 [])),J++[Hc g c]⟩:=by
 intro d;induction d with
 |nil =>
  intro c g i x;have i:=dL i;subst i;have y:((aN (du f++e)).drop (Y (du f))).take (Y (du f++e) - Y (du f))=aN e:=by rw[cx (by simp[aN])];simp[aN]
  refine az λR C=>?_;simp only[Pt,bM,ak,y,VV,seval];refine⟨⟨by omega,by simp;omega⟩,?_⟩;refine dZ (Wx e (by simp at m;omega) _) rfl ?_;rintro _ _ ⟨⟨v,rfl,_⟩,rfl⟩;have D:decide (kx e≠0)=G:=by simp[M]
  simp only[D,VV,seval];exact x g [] ..
 |cons p d ih =>
 intro c g i x;have L:=Q p (by rw[i];simp);have T:du f=du c++(rD p++du d):=by rw[i];simp[du]
 have l:du f++e=du c++(rD p++(du d++e)):=by rw[T];simp
 have X0:Y (du f++e)=Y (du c)+(8+Y p+Y (du d++e)):=by rw[l,ah,ah,kq]
 have y:((aN (du f++e)).drop (Y (du c))).take (Y (du f++e) - Y (du c))=aN (rD p++(du d++e)):=by rw[cx (by simp[aN]),l];simp[aN]
 have e1:IntKind.i64.wrap (8+(Y p:Int))=((8+Y p:Nat):Int):=by rw[IntWalk.i64_in _ (by omega)];omega
 have H:IntKind.i64.wrap ((Y (du c):Int)+((8+Y p:Nat):Int))=((Y (du c)+(8+Y p):Nat):Int):=by rw[IntWalk.i64_in _ (by omega)];omega
 have W:((rD p++(du d++e)).drop 8).take (8+Y p - 8)=p:=by rw[DF p (by omega),aO,aO,<- List.append_assoc,La (by rw[ah,lO,lO]),ee];exact nS rfl
 have U:Y (du c)+(8+Y p)=Y (du (c++[p])):=by simp[du,kq]
 have w:=Nq p (du d++e) L;have jw:decide (kx (rD p++(du d++e))≠0)=θ:=by rw[w];simp
 have e4:c.map B2++[[.sl 1 (aN p)]]=(c++[p]).map B2:=by simp[B2]
 have X:=Kp c;refine E7 λR C=>?_;simp only[Pt];refine cB.nQ ?_;refine cB.cut λq j=>?_;simp only[Hc,bM,ak,y,VV,seval];refine⟨⟨by omega,by omega⟩,?_⟩;refine dZ (Wx (rD p++(du d++e)) (by rw[ah,kq];omega) _) rfl ?_;rintro _ _ ⟨⟨v,rfl,o⟩,rfl⟩;have o:=o (by rw[w];omega);rw[w,W]at o;subst o;simp only[jw,VV,seval];refine j _ (cB.fw (fr':=(.sl 1 (aN (du f++e))::uu 3 (.own J.length g::.I (Y (du c))::.sl 1 (aN p)::.b θ::uu 22 []))) ?_ (by repeat' constructor));clear j q;refine cB.cut λq j=>?_;simp only[VV,seval];refine j _ (cB.fw (fr':=(.sl 1 (aN (du f++e))::uu 3 (.own J.length g::.I (Y (du c))::.sl 1 (aN p)::.b θ::uu 22 []))) ?_ (by repeat' constructor));clear j q;refine cB.aep λq j=>?_;refine cB.as0 4 (by simp[z,zm]) λR4 k=>?_;have h:∀{t:aB} {s:aj},Wk κ J.length t s (.sl 1 (aN (du f++e))::uu 3 (.own J.length g::.I (Y (du c))::.sl 1 (aN p)::uu 12 (.own J.length g::uu 2 (.sl 1 (aN p)::uu 7 [])))) (J++[Hc g c])->R4 ⟨t,s⟩:=by intro t s A;refine k _ _ _ _ A ?_;clear k A;simp only[kQ,oL,Hc,aa,V.pure,maxLen,VV,seval];refine⟨⟨by omega,by omega⟩,?_⟩;rw[e4];refine j _ (cB.fw (fr':=(.sl 1 (aN (du f++e))::uu 3 (.own J.length (g+1)::.I (Y (du c))::.sl 1 (aN p)::uu 23 []))) (aq ?_) (by repeat' constructor));simp only[bM,e1,H,VV,seval];refine C _ (bX (fr':=(.sl 1 (aN (du f++e))::uu 3 (.own J.length (g+1)::.I (Y (du (c++[p])))::uu 24 []))) ?_ (ih (c++[p]) (g+1) (by rw[i];simp) x));rw[<- U];repeat' constructor
 clear k;by_cases B:p=[];.subst B;have u:aN []=[]:=rfl;simp only[fe,jE,u,iZ,ay,aU,maxLen,VV,seval];exact h (Wk.fw (by repeat first|exact .nil|refine .cons (.refl _) ?_|refine .cons (.lit _ _) ?_|refine .cons (.forget _) ?_))
 have u:(aN p).isEmpty=G:=by cases p with|nil=>exact absurd rfl B|cons a r=>rfl
 simp only[fe,jE,u,ay,bM,aP,bw,maxLen,VV,seval];refine⟨⟨by omega,by omega⟩,h ((Wk.fz (Y J+1) (E:=5) (sz:=1) (by':=1) (g:=0) (sh:=G) (rows:=aN p) (by rw[kO];rfl)).trans ((Wk.fw (ys:=(.sl 1 (aN (du f++e))::uu 3 (.own J.length g::.I (Y (du c))::.sl 1 (aN p)::uu 12 (.own J.length g::uu 2 (.sl 1 (aN p)::uu 7 []))))) ?_).trans ?_))⟩
 .simp only[aI,ar,Pm.fz,kE,cG,aU];have N:(Y J=Y J+1/\g=0)=False:=by simp
  simp only[N,bw];repeat' constructor
 rw[kf];have:=Wk.lS (P:=κ) (n:=Y J) (xs:=(.sl 1 (aN (du f++e))::uu 3 (.own J.length g::.I (Y (du c))::.sl 1 (aN p)::uu 12 (.own J.length g::uu 2 (.sl 1 (aN p)::uu 7 []))))) (J:=J++[Hc g c]) (loc:=[.row 5 1 1 0 θ (aN p)]) (by simp) (cj O (by simp[Hc])) (ed.1 (by rw[ah];simp only[ae,ai,aG,LW];omega));rw[aO]at this;exact this
def Ry(a:gW)(b:aR)(c:Y (du a++b)<2^30)(h:∀p∈a,Y p<=65536)(e:kx b=0)(J:aj): bh κ 108 [.sl 1 (aN (du a++b))] J (.jg [.sl 1 (a.map B2),.I (Y (du a))]):=by
 refine aW func108 aqg.2 λd i=>aq ?_;simp only[aqg,SS,seval];simp only[VV,seval];refine cB.wk (((Wk.fw (ys:=(.sl 1 (aN (du a++b))::uu 3 (.nil::.I (Y (du []))::uu 24 []))) (by repeat' constructor)).trans (Wk.k9 (P:=κ) (k:=4) aa7 rfl)).trans (Wk.fw (ys:=(.sl 1 (aN (du a++b))::uu 3 (.own J.length 0::.I (Y (du []))::uu 24 []))) ?_)) (cB.kT (Y a+1) (ag9 d a b c h e a [] 0 rfl ?_));.simp only[VV,seval];repeat' constructor
 intro g f;simp only[JE];intros;simp only[Hc,VV,seval];refine iw 0 d (.inr rfl) (by simp only[RS,seval];rfl) rfl ?_ ?_;.simp only[aI,ar,Pm.fz,kE,cG,aU,cu,LW]
 simp only[aI,ar,Pm.fz,kE,cG,aU,cu];exact⟨rfl,trivial⟩
def UH(b:gW)(c:aR)(d:Y (du b++c)<2^30)(l:∀p∈b,Y p<=65536)(h:kx c=0)(J:aj): bh κ 107 [.sl 1 (aN (du b++c))] J (.sl 1 (aN (du b))):=by
 refine aW func107 aqh.2 λk m=>aq ?_;have e:(aN (du b++c)).take (Y (du b))=aN (du b):=by simp[aN]
 have n:Y (du b++c)=Y (du b)+Y c:=ah;simp only[aqh,SS,seval];simp only[VV,seval];refine al (Ry b c d l h _) rfl ?_;by_cases f:du b=[];.have g:aN []=[]:=rfl;simp only[f,g,ai]at e |-;simp only[bM,e,iZ,aU,maxLen,VV,seval];exact⟨by omega,dS (.inr rfl) (by simp only[RS,seval]) (Wk.fw (.cons (.lit 1 []) .nil)) rfl ⟨rfl,rfl⟩⟩
 have i:(aN (du b)).isEmpty=G:=by cases j:du b with|nil=>exact absurd j f|cons a r=>rfl
 simp only[bM,ak,e,i,ay,aP,bw,maxLen,VV,seval];refine⟨⟨by omega,by omega⟩,⟨by omega,by omega⟩,iw 0 k (.inr rfl) (by simp only[RS,seval];rfl) rfl ?_ ?_⟩;.simp only[aI,ar,Pm.fz,kE,cG,aU,cu,LW]
 simp only[aI,ar,Pm.fz,kE,cG,aU,cu];exact⟨rfl,trivial⟩
def oD:bh κ 58 [.agg M.azR,.agg i.azR] T (.b (Fb M i)):=by refine aW func58 p58.2 λa c=>aq ?_;simp only[p58,SS,seval];simp only[aV.azR,cL.azR,En.azR,iF,eQ,VV,seval];refine bV (by simp only[VV,seval]<;>rfl) (λ_=>uc M.azV i.azV _) rfl ?_;simp only[VV,seval];refine bV (by simp only[VV,seval]<;>rfl) (λ_=>Cg M.az1 i.az1 _) rfl ?_;simp only[VV,seval];refine bA a (.inr rfl) (by simp only[RS,seval];rfl) (by simp[LW]) ⟨?_,rfl⟩;simp only[Pm.one,Fb,afu,dB,aX]
def akC(j:Y a<2^63)(q:Y a=Y D):∀(f d c i:List aV),a=c++f->D=i++d->Y c=Y i ->(qj f d=θ->((fj 27 fo) λo=>K (.exit 0) ⟨o,J⟩))->(qj f d=G->((fj 4 (fh (.b G) (fj 22 fo))) λo=>K .ret ⟨o,J⟩)) ->gw k κ Xp K (Y f+1) ⟨(.sl 13 (a.map aV.azR)::.sl 13 (D.map aV.azR)::uu 10 (.I (Y a)::.I (Y c)::uu 13 [])),J⟩:=by
 intro f;induction f with
 |nil =>
  intro d c i g l r m n;have:d=[]:=by subst g;subst l;simp at q;exact cd (by omega)
  subst this;have g:=dL g;subst g;refine az λR s=>?_;simp only[Xp,VV,seval];exact⟨λh=>by simp at h,λ_=>m rfl ..⟩
 |cons x f ih =>
 intro d c i g l r m n;cases d with
 |nil=>subst g;subst l;simp at q;omega
 |cons y d =>
 subst g;subst l;have t:(List.map aV.azR (i++y::d)).getD c.length []=y.azR:=by rw[r];exact dR
 have v:=dD c x (by simp at j;omega);refine az λR s=>?_;simp only[Xp,ak,t,aV.azR,cL.azR,En.azR,VV,seval];have u:(0:Int)<=Y c/\(Y c:Int)<Y (List.map aV.azR (c++x::f)):=by simp;omega
 have p:(0:Int)<=Y c/\(Y c:Int)<Y (List.map aV.azR (i++y::d)):=by simp at q |-;omega
 refine⟨λ_=>⟨u,p,?_⟩,λh=>by simp at h<;>omega⟩;refine al (oD x y _) rfl ?_;simp only[VV,seval];refine⟨λh=>?_,λh=>?_⟩
 .have h:Fb x y=G:=by rw[dG]at h;exact h
  exact n (by simp[qj,h]) ..
 have h:Fb x y=θ:=by rw[eP]at h;exact h
 have e:qj (x::f) (y::d)=qj f d:=by simp[qj,h]
 rw[e]at m n;refine s _ (bX ?_ (ih d (c++[x]) (i++[y]) (by simp) (by simp) (by simp[r]) m n));rw[v];repeat' constructor
def nI:bh κ 26 [.sl 13 (a.map aV.azR),.sl 13 (D.map aV.azR)] T (.b (qj a D)):=by
 refine aW func26 p26.2 λi g=>aq ?_;have c:=qP (g 0 _ rfl).1;rw[aa]at c;simp only[p26,SS,seval];simp only[aa,VV,seval];refine⟨λh=>?_,λh=>?_⟩
 .have h:Y a≠Y D:=by simp at h;omega
  have e:qj a D=G:=by cases f:qj a D with|false=>rfl|true=>exact absurd (Y7 f) h
  exact bK (.inr rfl) rfl ⟨by rw[e];rfl,rfl⟩
 have h:Y a=Y D:=by simp at h;omega
 refine cB.bX ?_ (Y a+1) (akC a D c h a D [] [] rfl rfl rfl (λd=>?_) (λd=>?_));.repeat' constructor
 .simp only[JE];intros;simp only[VV,seval];exact bK (.inr rfl) rfl ⟨by rw[d];rfl,rfl⟩
 simp only[JE];intros;exact bK (.inr rfl) rfl ⟨by rw[d];rfl,rfl⟩
def aeC(f c g:Nat)(J:aj)(i:J[c]?=S (fX g [])):bh κ 89 [.own c g,.agg (cF U),.fn f []] J (.jg [.I 0,.b G]):=by
 refine aW func89 p89.2 λj k=>aq ?_;have a:∀d:aj,(J++d)[c]?=S (.row 99 2 16 g G []):=λd=>by rw[bg (ag.1 i).1];exact i
 simp only[p89,SS,seval];simp only[cF,a,ai,VV,seval];refine cB.kT 1 (az λR l=>?_);have e:(G==θ)=G:=rfl;simp only[MR,a,bZ,e,VV,seval];refine⟨.u,BL (c:=G) (v:=.I 0) (by simp only[e,VV,seval]<;>rfl) (λh=>by cases h) ?_⟩;simp only[e,VV,seval];exact bA j (.inr rfl) rfl (by simp[LW]) ⟨rfl,rfl⟩
def M6(c g a d:Nat)(b:Bool)(m:Y Q<2^30)(J:aj)(i:J[c]?=S (fX g Q))(j:J[a]?=S (.row 99 2 16 d b [cF U])):PC κ 94 [.own c g,.I (Y Q),.own a d] J (λr f=>r=.own c (g+1)/\f=J.set c (fX (g+1) (Q++[U]))):=by refine aW func94 p94.2 λl k=>aq ?_;have e:J[c]?=S (.row 99 2 16 g G (Q.map cF)):=i;simp only[p94,SS,seval];simp only[e,j,aa,VV,Int.reduceBEq,Int.reduceBNe,Nat.reduceAdd,Nat.reduceSub,Nat.reduceLeDiff,Nat.reduceEqDiff,Int.reduceToNat,reduceIte,reduceCtorEq];refine⟨⟨by omega,by omega⟩,λh=>by simp at h,λ_=>⟨⟨by omega,by unfold maxLen;omega⟩,?_⟩⟩;exact dS (.inr rfl) rfl (Wk.refl _ _) rfl ⟨rfl,by simp[fX]⟩
def PK{k a b c ga gb gc:Nat}(h:yj J k a b c)(A B:Ob)(o:oJ J.length A)(n:oJ J.length B)(e:Ev)(g:e.azT=7)(i:e.a≠e.b): PC κ 44 [.ptr k 0,.agg e.azR] (lA J k a b c (fE (.own a ga) (.own b gb) (.own c gc)) A B (fX gc [])) (λr l=>r=.I 0/\l=lA J k a b c (fE (.own a ga) (.own b gb) (.own c (gc+1))) A B (fX (gc+1) [gj e.a e.b])):=by
 obtain⟨j,d,f,s,t⟩:=e;simp only at g i;subst g;refine aW func44 p44.2 λm q=>aq ?_;have p:(d==f)=G:=by simpa using i
 simp only[p44,SS,seval];simp only[Ev.azR,En.azR,fE,fX,h.all,VV,seval];refine al (HN d f _) rfl ?_;simp only[cF,h.all,VV,seval];refine al (aeC (gj d f) 90 c gc _ (by simp only[h.all,fX,ar])) (by simp only[cF,VV,seval]) ?_;simp only[h.all,p,VV,seval];refine al (M6 [] (gj d f) c gc (Y J+2) 0 G (by simp) _ (by simp only[h.all,fX,ar]) (by simp only[h.all,cF,bY,aC])) (by simp only[cF,ai,VV,seval]) ?_;simp only[h.all,fX,cF,ay,aI,ar,VV,seval];exact lE m (lV h.la h.lb h.lc) o n trivial (.inr rfl) rfl (by simp[LW]) ⟨rfl,rfl⟩
def kinds:(n=1\/n=2\/n=9\/n=10\/n=11)\/(n=3\/n=7\/n=8)\/(n=4\/n=5\/n=6)\/(n<1\/11<n):=by omega
def noK(h:v<1\/11<v):(v==1)=G/\(v==2)=G/\(v==3)=G/\(v==4)=G/\(v==5)=G/\(v==6)=G/\(v==7)=G/\(v==8)=G/\(v==9)=G/\(v==10)=G/\(v==11)=G:=by simp only[gN,gA];omega
def HW{n:Net}{e:Ev}(h:e.azT<1\/11<e.azT):kh n e=G:=by rw[kh,aw (by omega),aw (by omega),aw (by omega)]
def Gu(e:Ev)(J:aj):bh κ 41 [.agg P.azR,.agg e.azR] J (.b (kh P e)):=by
 refine aW func41 p41.2 λd k=>?_;have g:=@HW P e;obtain⟨f,a,b,m,l⟩:=e;simp only at g;simp only[p41,SS,seval];refine cB.cutAt (.more (.one _ _)) λR j=>?_;simp only[Net.azR,Ev.azR,En.azR,aa,↓IT,VV,seval];refine al (pK a P.an.length _) rfl ?_;simp only[↓IT,VV,seval];refine j _ (cB.fw (fr':=(uu 2 (.ptr J.length 0::.ptr (Y J+1) 0::uu 1 (.b (LK a P.an.length)::uu 38 [])))) ?_ (by repeat' constructor));clear j R;refine aq ?_;rcases kinds f with h|h|h|h
 .rcases h with rfl|rfl|rfl|rfl|rfl;all_goals
   simp only[↓IT,VV,seval];exact bA d (.inr rfl) rfl (by simp[LW]) ⟨by simp[Pm.one,kh],rfl⟩
 .rcases h with rfl|rfl|rfl;all_goals
   cases i:LK a P.an.length;.simp only[aa,↓IT,VV,seval];refine bV (c:=G) (v:=.u) (by simp only[↓IT,VV,seval]<;>rfl) (λh=>by cases h) rfl ?_;simp only[↓IT,VV,seval];exact bA d (.inr rfl) rfl (by simp[LW]) ⟨by simp[Pm.one,kh,i],rfl⟩
   simp only[aa,↓IT,VV,seval];refine bV (c:=θ) (by simp only[↓IT,VV,seval]<;>rfl) (λ_=>pK b P.an.length _) rfl ?_;simp only[↓IT,VV,seval];exact bA d (.inr rfl) rfl (by simp[LW]) ⟨by simp[Pm.one,kh,i],rfl⟩
 .rcases h with rfl|rfl|rfl;all_goals
   simp only[aa,↓IT,VV,seval];refine al (pK m P.ax.length _) rfl ?_;simp only[↓IT,VV,seval];exact bA d (.inr rfl) rfl (by simp[LW]) ⟨by simp[Pm.one,kh],rfl⟩
 simp only[noK h,↓IT,VV,seval];exact bA d (.inr rfl) rfl (by simp[LW]) ⟨by rw[g h];rfl,rfl⟩
def xu:Bool×Bool×Bool×Bool :=if n=1\/n=2\/n=9\/n=10\/n=11 then(θ,G,G,θ)else if n=3\/n=7\/n=8 then(θ,θ,G,θ)
 else if n=4\/n=5\/n=6 then(G,G,θ,θ)else(G,G,G,G)
def abH:bh κ 99 [.I n] T (.jg [.b (xu n).1,.b (xu n).2.1,.b (xu n).2.2.1,.b (xu n).2.2.2]):=by
 refine aW func99 p99.2 λc a=>aq ?_;simp only[p99,SS,seval];rcases kinds n with h|h|h|h
 .rcases h with rfl|rfl|rfl|rfl|rfl;all_goals
   simp only[↓IT,VV,seval];exact bK (.inr rfl) rfl ⟨rfl,rfl⟩
 .rcases h with rfl|rfl|rfl;all_goals
   simp only[↓IT,VV,seval];exact bK (.inr rfl) rfl ⟨rfl,rfl⟩
 .rcases h with rfl|rfl|rfl;all_goals
   simp only[↓IT,VV,seval];exact bK (.inr rfl) rfl ⟨rfl,rfl⟩
 have e:xu n=(G,G,G,G):=by rw[xu,aw (by omega),aw (by omega),aw (by omega)]
 simp only[noK h,e,↓IT,VV,seval];exact bK (.inr rfl) rfl ⟨rfl,rfl⟩
set_option maxRecDepth 4000 in
def Mx(e:Ev)(J:aj):bh κ 47 [.agg P.azR,.agg e.azR] J (.b (!kh P e)):=by
 refine aW func47 p47.2 λg u=>?_;have n:=@HW P e;obtain⟨c,a,b,m,t⟩:=e;simp only at n;simp only[p47,SS,seval];refine cB.cutAt (.more (.one _ _)) λR r=>?_;simp only[Net.azR,Ev.azR,En.azR,aa,↓IT,VV,seval];refine al (abH c _) rfl ?_;simp only[↓IT,VV,seval];refine r _ (cB.fw (fr':=(uu 2 (.ptr J.length 0::.ptr (Y J+1) 0::uu 1 (.b (xu c).1::.b (xu c).2.1::.b (xu c).2.2.1::.b (xu c).2.2.2::uu 58 [])))) ?_ (by repeat' constructor));clear r R;refine aq ?_;have k:∀(i:Int) (l:Nat),LK i l=!(decide (i<0)||decide ((l:Int)<=i)):=λi l=>by simp only[LK];by_cases d:i<0<;>by_cases f:(l:Int)<=i<;>simp[d,f]<;>omega
 have e:=@xu.eq_1 c;have j:=@kh.eq_1 P ⟨c,a,b,m,t⟩;simp only[k]at j;rcases kinds c with h|h|h|h
 .rw[aQ h]at e j;rw[e,j];clear n e j h k;cases d:decide (a<0)
  .cases f:decide ((P.an.length:Int)<=a);.simp only[d,f,↓IT,aa,VV,seval];exact bA g (.inr rfl) rfl (by simp[LW]) ⟨rfl,rfl⟩
   simp only[d,f,↓IT,aa,VV,seval];exact bA g (.inr rfl) rfl (by simp[LW]) ⟨rfl,rfl⟩
  simp only[d,↓IT,aa,VV,seval];exact bA g (.inr rfl) rfl (by simp[LW]) ⟨rfl,rfl⟩
 .have o:¬(c=1\/c=2\/c=9\/c=10\/c=11):=by omega
  rw[aw o,aQ h]at e j;rw[e,j];clear n e j h o k;cases d:decide (a<0)
  .cases f:decide ((P.an.length:Int)<=a)
   .cases p:decide (b<0)
    .cases q:decide ((P.an.length:Int)<=b);.simp only[d,f,p,q,↓IT,aa,VV,seval];exact bA g (.inr rfl) rfl (by simp[LW]) ⟨rfl,rfl⟩
     simp only[d,f,p,q,↓IT,aa,VV,seval];exact bA g (.inr rfl) rfl (by simp[LW]) ⟨rfl,rfl⟩
    simp only[d,f,p,↓IT,aa,VV,seval];exact bA g (.inr rfl) rfl (by simp[LW]) ⟨rfl,rfl⟩
   simp only[d,f,↓IT,aa,VV,seval];exact bA g (.inr rfl) rfl (by simp[LW]) ⟨rfl,rfl⟩
  simp only[d,↓IT,aa,VV,seval];exact bA g (.inr rfl) rfl (by simp[LW]) ⟨rfl,rfl⟩
 .have o:¬(c=1\/c=2\/c=9\/c=10\/c=11):=by omega
  have f:¬(c=3\/c=7\/c=8):=by omega
  rw[aw o,aw f,aQ h]at e j;rw[e,j];clear n e j h o f k;cases d:decide (m<0)
  .cases f:decide ((P.ax.length:Int)<=m);.simp only[d,f,↓IT,aa,VV,seval];exact bA g (.inr rfl) rfl (by simp[LW]) ⟨rfl,rfl⟩
   simp only[d,f,↓IT,aa,VV,seval];exact bA g (.inr rfl) rfl (by simp[LW]) ⟨rfl,rfl⟩
  simp only[d,↓IT,aa,VV,seval];exact bA g (.inr rfl) rfl (by simp[LW]) ⟨rfl,rfl⟩
 have s:xu c=(G,G,G,G):=by rw[xu,aw (by omega),aw (by omega),aw (by omega)]
 rw[s,n h];simp only[↓IT,VV,seval];exact bA g (.inr rfl) rfl (by simp[LW]) ⟨rfl,rfl⟩
end Go.Proofs.Tryz

/- A part of a proof; the claim's last text says of what. -/
import Derived.Test.YtfeddmfijllgmaaGreatDoorB15
import Derived.Test.YtfeddmfijllgmaaGreatDoorB22
set_option linter.all false
set_option maxHeartbeats 4000000
open Bool renaming true->θ,false->G
open Go.Proofs.Tryz renaming prog->κ
open List renaming length->Y

namespace Go.Proofs.Tryz
open Go Go.Pm Go.Bt
variable(n:Int)(f:List It)(v:bU)(R:cL)(J:aj)(s:aR)(a:Nat)(c:UInt8)(x:It)(b:Bool)(Q:List It)(P:bU){T:List It}{U:Nat}{t:aR}{X:aj}{K:bL}
def He(a:Y f<2^40)(c:bo f<2^40)(J:aj):PC κ 185 [.sl 3 (f.map It.azR)] J (λr d=>r=.own J.length 0/\d=J++[.row 70 3 32 0 G ((az9 f).map It.azR)]):=by
 refine aW func185 afZ.2 λb h=>aq ?_;simp only[afZ,SS,seval];simp only[aa,VV,seval];refine cB.wk ((Wk.k9 (k:=3) Q9 rfl).trans (Wk.fw ?_)) (cB.kT (Y f+1) (XM f b a c f [] [] 0 rfl (aM _) (aM _) ?_));.simp only[VV,seval];repeat' constructor
 intro g;simp only[JE];intros;simp only[VV,seval];have e:f.foldl fg []=az9 f:=tR f;rw[e];exact DB 0 b (.inr rfl) rfl rfl rfl (by simp[LC,Ob.gen]) (by simp[Pm.one,mv1,Ob.fresh])
def Oq(e:Y f<2^39)(d:Y Q<2^39)(g:bo f<2^39)(a:bo Q<2^39)(J:aj):PC κ 134 [.sl 3 (f.map It.azR),.sl 3 (Q.map It.azR)] J (λr b=>r=.own J.length 0/\b=J++[.row 70 3 32 0 G ((az9 (f++Q)).map It.azR)]):=by refine aW func134 af2.2 λc h=>aq ?_;simp only[af2,SS,seval];simp only[aa,VV,seval];refine⟨by simp[maxLen];omega,by simp[maxLen];omega,?_⟩;refine tv J.length (by simp only[jD];rfl) (He (f++Q) (by simp;omega) (by rw[iz];omega) _) (by simp[fz,kE,ev]) ?_;simp only[VV,seval];exact DB 1 c (.inr rfl) rfl rfl rfl (by simp[LC,Ob.gen]) (by simp[Pm.one,mv1,Ob.fresh])
def zP:Y (fM s)<=Y s:=(BJ s 32).1
def tT:gW:=[[110],[110,97,109,101],[120,49]]
def yL:gW:=[[98,114],[105,109,103,32,97]]
def vR:gW:=[[98],[105],[97,32,104,61,49]]
def AR:∀s∈tT,aAa s=θ/\Y s<=5:=by decide +kernel
def LY:∀s∈yL,fB s=θ/\Y s<=5:=by decide +kernel
def GM:∀s∈vR,fB s=θ/\aAa (fM s)=θ/\Y s<=5:=by decide +kernel
def kD(f:List It):Ob:=.row 70 3 32 a b (f.map It.azR)
def Z5{l:bU}{k:Nat}{loc:aj}(g:bT (mb X U l k)){i j g1 g2:Nat}{a b:Bool}{o:List It}(f:i≠j)(h1:loc[i]?=some (kD g1 a T))(d:loc[j]?=some (kD g2 b o)) {xs ys:aB} (e:Mvs X.length loc [i,j] xs ys):Wk κ X.length xs (mb X U l k++loc) ys (mb X U l k++[kD 0 a T,kD 0 b o]):=by
 have:=Wk.SI (P:=κ) (xs:=xs) (ys:=ys) (J:=mb X U l k) (loc:=loc) (os:=[kD 0 a T,kD 0 b o]) [i,j] g (by simpa using f) rfl (λq h c=>by
  rcases q with _|_|q;.simp only[aC,ab]at c;subst c;exact⟨_,h1,rfl,rfl⟩
  .simp only[bY,aC,ab]at c;subst c;exact⟨_,d,rfl,rfl⟩
  simp at c) (by rw[cJ];exact e);rwa [cJ]at this
set_option maxRecDepth 20000 in
def Zq(l:bU)(k:Nat)(e:List It)(uj:Y e<=100)(Q:∀y∈e,Y y.azX<=5)(id:Nat)(P:id<=100)(t:Nat):∀(m:Nat) (g f:List It) (n:Nat),Y g=m->(∃d,e=g++d)->G6 f g id->Y f+m<=1000 ->(∀(o:List It) (n:Nat),cz [] o=0->Y o=Y f+m->bo o<=bo f+5*m->((fj 9 (fh (.own J.length n) (fj 131 fo))) λD=>K (.exit 3) ⟨D,mb J a l k++[kD n G o,kD t G e]⟩)) ->gw (Y J) κ O9 K (m+1) ⟨(uu 3 (.b θ::uu 5 (.own J.length n::.own (Y J+1) t::uu 4 (.I ((m:Int) - 1)::uu 125 [])))),mb J a l k++[kD n G f,kD t G e]⟩:=by
 intro m;induction m with
 |zero =>intro g f n r _ u F v;have U:decide ((0:Int)<=((0:Nat):Int) - 1)=G:=rfl;refine az λR z=>?_;simp only[O9,U,VV,Int.reduceBEq,Int.reduceBNe,Nat.reduceAdd,Nat.reduceSub,Nat.reduceLeDiff,Nat.reduceEqDiff,Int.reduceToNat,reduceIte,reduceCtorEq];exact v f n u.err (by omega) (by omega) ..
 |succ m ih =>
 intro g f n r q u F v;obtain⟨d,h⟩:=q;rcases gE g with p|⟨c,y,p⟩;.subst p;simp at r
 rw[fU]at p;subst p;have w:Y c=m:=by simpa using r
 subst w;rw[aO,yk]at h;have X:((Y c+1:Nat):Int) - 1=(Y c:Int):=by omega
 have qw:Y e=Y c+(Y d+1):=by rw[h];simp
 have B:IntKind.i64.wrap ((Y c:Int) - 1)=(Y c:Int) - 1:=IntWalk.i64_in _ (by omega);have x:∀j,gv (List.map It.azR e) c.length j=y.azR[j]?:=λj=>by rw[h];exact qK
 have C:=Q y (by rw[h];simp);have E:=zP y.azX;have T:decide ((0:Int)<=(Y c:Int))=θ:=by simp
 have A:(0:Int)<=(Y c:Int)/\(Y c:Int)<(Y (List.map It.azR e):Int):=⟨by omega,by rw[aa];omega⟩;obtain⟨W,_⟩:=u.close (by omega);rw[X];refine az λR z=>?_;simp only[O9,kD,T,B,ak,cJ,o5,nb,x,It.azR,VV,seval];refine⟨A,A,?_⟩;refine al (xF y.azX _) rfl ?_;simp only[cJ,o5,nb,jF,rn,x,It.azR,B,aa,VV,seval];refine⟨by omega,⟨by omega,by simp only[maxLen];omega⟩,?_⟩;have L:f.map It.azR++[[V.i .i64 3,.s (fM y.azX),.I y.id]]=(f++[(⟨3,fM y.azX,y.id⟩:It)]).map It.azR:=by simp[It.azR]
 rw[L];have M:bo (f++[⟨3,fM y.azX,y.id⟩])=bo f+Y (fM y.azX):=by simp[iz,bo]
 have H:Y (f++[(⟨3,fM y.azX,y.id⟩:It)])=Y f+1:=by simp
 refine z _ (bX ?_ (ih c _ (n+1) rfl ⟨y::d,h⟩ W (by omega) λo N O q2 q3=>v o N O (by omega) (by omega)));repeat' constructor
set_option maxRecDepth 20000 in
def Zr(P:a<J.length)(l:bU)(X:Nat)(S3:X<2^50)(bc:bT (mb J a l X))(N:Nat)(hN:N<=20):∀(m:Nat) (k:Nat) (f d:List It) (id g1 g2:Nat),m<=N->id+m<=N->d.length+m<=N ->(∀y∈d,y.azX.length<=5)->G6 f d id->f.length+m<=N->bo f+18*m<=18*N->(X<=k/\k+12*m<=X+12*N) ->(∀(k:Nat) (f d:List It) (id g1 g2:Nat),id<=N->d.length<=N->(∀y∈d,y.azX.length<=5)->G6 f d id->f.length<=N->bo f<=18*N->(X<=k/\k<=X+12*N) ->((fj 3 (fh (.b θ) (fj 5 (fh (.own J.length g1) (fh (.own (J.length+1) g2) (fj 130 fo)))))) λZZ=>K (.exit 0) ⟨ZZ,mb J a l k++[kD g1 G f,kD g2 G d]⟩)) ->gw J.length κ Pb K (m+1) ⟨(.ptr a 0::uu 1 (.b θ::.b θ::uu 5 (.own J.length g1::.own (J.length+1) g2::.I id::.I m::uu 128 []))),mb J a l k++[kD g1 G f,kD g2 G d]⟩:=by
 intro m;induction m with
 |zero =>intro k f d id g1 g2 hm an jU F H hf au hk h1;refine az λR hR=>?_;simp only[Pb,VV,Int.reduceBEq,Int.reduceBNe,Nat.reduceAdd,Nat.reduceSub,Nat.reduceLeDiff,Nat.reduceEqDiff,Int.reduceToNat,reduceIte,reduceCtorEq];exact⟨λh=>by simp at h,λ_=>h1 k f d id g1 g2 (by omega) (by omega) F H (by omega) (by omega) (by omega) ..⟩
 |succ m ih =>
 intro k f d id g1 g2 hm an jU F H hf au hk h1;have hw:IntKind.i64.wrap (((m+1:Nat):Int) - 1)=(m:Int):=by rw[IntWalk.i64_in _ (by omega)];omega
 refine E7 λR hR=>?_;simp only[Pb];refine cB.cut λR1 Qc=>?_;simp only[VV,Int.reduceBEq,Int.reduceBNe,Nat.reduceAdd,Nat.reduceSub,Nat.reduceLeDiff,Nat.reduceEqDiff,Int.reduceToNat,reduceIte,reduceCtorEq];refine⟨λ_=>?_,λh=>by simp at h<;>omega⟩;refine Qc _ (cB.fw (fr':=(.ptr a 0::uu 1 (.b θ::.b θ::uu 5 (.own J.length g1::.own (J.length+1) g2::.I id::.I (m+1:Nat)::uu 128 [])))) ?_ (by repeat' constructor));clear Qc R1;refine cB.aep λR2 Fu=>cB.nQ ?_;refine cB.cut λR3 ac=>?_;simp only[kD,cJ,o5,nb,jF,rn,VV,Int.reduceBEq,Int.reduceBNe,Nat.reduceAdd,Nat.reduceSub,Nat.reduceLeDiff,Nat.reduceEqDiff,Int.reduceToNat,reduceIte,reduceCtorEq];refine dZ (XO J a P l k (by omega) 3 (by decide) _) rfl ?_;rintro _ _ ⟨t,r,rfl,ht,tX,rfl⟩;simp only[cJ,o5,nb,jF,rn,VV,Int.reduceBEq,Int.reduceBNe,Nat.reduceAdd,Nat.reduceSub,Nat.reduceLeDiff,Nat.reduceEqDiff,Int.reduceToNat,reduceIte,reduceCtorEq];refine ac _ (cB.fw (fr':=(.ptr a 0::uu 1 (.b θ::.b θ::uu 5 (.own J.length g1::.own (J.length+1) g2::.I id::.I (m+1:Nat)::.ptr (J.length+2) 0::uu 127 [])))) ?_ (by repeat' constructor));clear ac R3;refine cB.aep λR4 af=>?_;have e:∀(x:It) (r1:Ob) (ext:aj) (j Q:Nat) (o:List It) (q B:Nat) {fr:aB},(kD g1 θ f::r1::.box 70 x.azR::(ext++[kD 0 G (az9 (f++[x]))]))[j]?=some (kD B G o)->ext.length+3≠j ->
   q+m<=N->o.length+m<=N->(∀y∈o,y.azX.length<=5)->G6 (az9 (f++[x])) o q->x.azX.length<=18->(k<=Q/\Q<=k+12) ->
   rk fr (.ptr a 0::uu 1 (.b θ::.b θ::uu 5 (.own J.length g1::.own (J.length+j) B::.I q::.I (m+1:Nat)::.ptr (J.length+2) 0::uu 127 [])))->R4 ⟨fr,mb J a l Q++(kD g1 G f::r1::.box 70 x.azR::ext)⟩:=by
  intro x r1 ext j Q o q B fr hj jw c1 c2 c3 c4 c5 c6 hc;have hb:=ql x H.err;refine af _ (cB.fw ?_ hc);clear af hc;refine aq ?_;simp only[kD,It.azR,cJ,o5,nb,jF,rn,VV,Int.reduceBEq,Int.reduceBNe,Nat.reduceAdd,Nat.reduceSub,Nat.reduceLeDiff,Nat.reduceEqDiff,Int.reduceToNat,reduceIte,reduceCtorEq];refine aiB (zs:=[.sl 3 (f.map It.azR),.sl 3 ([x].map It.azR)]) (σ1:=mb J a l Q++(kD g1 θ f::r1::.box 70 x.azR::ext)) ?_ (Oq f [x] (by omega) (by simp) (by omega) (by simp[bo];omega) _) ?_;.refine(Wk.fz J.length (E:=70) (sz:=3) (by':=32) (g:=g1) (sh:=G) (rows:=f.map It.azR) (by rw[o5];rfl)).trans ?_;rw[jF];simp only[aI,ar,ev,iM,aX,bB,cC,cT,fz,kE,cG,aU];exact Wk.fw (.cons (.refl _) (.cons (.lit _ _) .nil))
  simp only[cJ,o5,nb,jF,rn,VV,Int.reduceBEq,Int.reduceBNe,Nat.reduceAdd,Nat.reduceSub,Nat.reduceLeDiff,Nat.reduceEqDiff,Int.reduceToNat,reduceIte,reduceCtorEq];refine Fu _ (cB.fw (fr':=(.ptr a 0::uu 1 (.b θ::.b θ::uu 5 (.own (J.length+(ext.length+1+1+1)) 0::.own (J.length+j) B::.I q::.I (m+1:Nat)::uu 128 [])))) (aq ?_) (by repeat' constructor));simp only[hw,VV,Int.reduceBEq,Int.reduceBNe,Nat.reduceAdd,Nat.reduceSub,Nat.reduceLeDiff,Nat.reduceEqDiff,Int.reduceToNat,reduceIte,reduceCtorEq];refine hR _ (ub (fr':=(.ptr a 0::uu 1 (.b θ::.b θ::uu 5 (.own (J.length+0) 0::.own (J.length+1) 0::.I q::.I m::uu 128 [])))) (J':=mb J a l Q++[kD 0 G (az9 (f++[x])),kD 0 G o])
   ((Wk.fw (ys:=(.ptr a 0::uu 1 (.b θ::.b θ::uu 5 (.own (J.length+(ext.length+1+1+1)) 0::.own (J.length+j) B::.I q::.I m::uu 128 [])))) (by repeat' constructor)).trans
    (Z5 (i:=ext.length+1+1+1) (j:=j) (g1:=0) (g2:=B) (pn bc) jw (by simp[kD]) hj ?_)) (ih Q (az9 (f++[x])) o q 0 0 (by omega) c1 c2 c3 c4 (by omega) (by omega) (by omega) h1));repeat first|exact .nil|refine .cons (.forget _) ?_|refine .cons (.own 0 (ext.length+1+1+1) 70 3 32 0 G ((az9 (f++[x])).map It.azR) rfl (by simp;rfl)) ?_|refine .cons (.own 1 j 70 3 32 B G (o.map It.azR) rfl hj) ?_|refine .cons (.eY _ (by simp only[P,LW])) ?_
 refine cB.cut λR5 ad=>?_;simp only[cJ,VV,Int.reduceBEq,Int.reduceBNe,Nat.reduceAdd,Nat.reduceSub,Nat.reduceLeDiff,Nat.reduceEqDiff,Int.reduceToNat,reduceIte,reduceCtorEq];refine dZ (kJ J a P l r (by omega) 8 (by decide) (by decide) _) rfl ?_;rintro _ _ ⟨v,rfl,hv,rfl⟩;simp only[cJ,VV,Int.reduceBEq,Int.reduceBNe,Nat.reduceAdd,Nat.reduceSub,Nat.reduceLeDiff,Nat.reduceEqDiff,Int.reduceToNat,reduceIte,reduceCtorEq];refine ad _ (cB.fw (fr':=(.ptr a 0::uu 1 (.b θ::.b θ::uu 5 (.own J.length g1::.own (J.length+1) g2::.I id::.I (m+1:Nat)::.ptr (J.length+2) 0::uu 14 (.I v::uu 112 []))))) (aq ?_) (by repeat' constructor));clear ad R5;have W:IntKind.i64.wrap ((id:Int)+1)=((id+1:Nat):Int):=da (by omega);have U:((id+1:Nat):Int)=(id:Int)+1:=by omega
 have A:(v=0\/v=1)\/v=2\/(v=3\/v=4)\/(v=5\/v=6)\/v=7:=by omega
 rcases A with A|rfl|A|A|rfl
 .have slot:∀{w:aR},w∈tT->G6 (az9 (f++[⟨5,w,0⟩])) d id:=λh=>H.slot (AR _ h).1;rcases A with rfl|rfl;.simp only[cJ,o5,nb,jF,rn,VV,Int.reduceBEq,Int.reduceBNe,Nat.reduceAdd,Nat.reduceSub,Nat.reduceLeDiff,Nat.reduceEqDiff,Int.reduceToNat,reduceIte,reduceCtorEq];refine dZ (kJ J a P l (r+1) (by omega) 3 (by decide) (by decide) _) rfl ?_;rintro _ _ ⟨u,rfl,hu,rfl⟩;obtain⟨w,L,C⟩:=pD (ws:=tT) (n:=u.toNat) (by simp[tT];omega);simp only[tT,aI,ar]at C;simp only[C,cJ,o5,nb,jF,rn,VV,Int.reduceBEq,Int.reduceBNe,Nat.reduceAdd,Nat.reduceSub,Nat.reduceLeDiff,Nat.reduceEqDiff,Int.reduceToNat,reduceIte,reduceCtorEq];refine⟨by omega,?_⟩;exact e ⟨5,w,0⟩ (kD g2 G d) [] 1 (r+1+1) d id g2 rfl (by simp) (by omega) (by omega) F (slot L) (by have:=(AR _ L).2;simp only;omega) (by omega) (by repeat' constructor)
  simp only[cJ,o5,nb,jF,rn,VV,Int.reduceBEq,Int.reduceBNe,Nat.reduceAdd,Nat.reduceSub,Nat.reduceLeDiff,Nat.reduceEqDiff,Int.reduceToNat,reduceIte,reduceCtorEq];refine dZ (kJ J a P l (r+1) (by omega) 3 (by decide) (by decide) _) rfl ?_;rintro _ _ ⟨u,rfl,hu,rfl⟩;obtain⟨w,L,C⟩:=pD (ws:=tT) (n:=u.toNat) (by simp[tT];omega);simp only[tT,aI,ar]at C;simp only[C,cJ,o5,nb,jF,rn,VV,Int.reduceBEq,Int.reduceBNe,Nat.reduceAdd,Nat.reduceSub,Nat.reduceLeDiff,Nat.reduceEqDiff,Int.reduceToNat,reduceIte,reduceCtorEq];refine⟨by omega,?_⟩;exact e ⟨5,w,0⟩ (kD g2 G d) [] 1 (r+1+1) d id g2 rfl (by simp) (by omega) (by omega) F (slot L) (by have:=(AR _ L).2;simp only;omega) (by omega) (by repeat' constructor)
 .simp only[cJ,o5,nb,jF,rn,W,VV,Int.reduceBEq,Int.reduceBNe,Nat.reduceAdd,Nat.reduceSub,Nat.reduceLeDiff,Nat.reduceEqDiff,Int.reduceToNat,reduceIte,reduceCtorEq];refine dZ (kJ J a P l (r+1) (by omega) 2 (by decide) (by decide) _) rfl ?_;rintro _ _ ⟨u,rfl,hu,rfl⟩;obtain⟨w,L,C⟩:=pD (ws:=yL) (n:=u.toNat) (by simp[yL];omega);simp only[yL,aI,ar]at C;obtain⟨w1,w3⟩:=LY _ L;simp only[C,cJ,o5,nb,jF,rn,W,VV,Int.reduceBEq,Int.reduceBNe,Nat.reduceAdd,Nat.reduceSub,Nat.reduceLeDiff,Nat.reduceEqDiff,Int.reduceToNat,reduceIte,reduceCtorEq];refine⟨by omega,?_⟩;have D:=H.empty w1 (by omega) (by omega);rw[<- U]at D;exact e ⟨4,w,((id+1:Nat):Int)⟩ (kD g2 G d) [] 1 (r+1+1) d (id+1) g2 rfl (by simp) (by omega) (by omega) F D (by simp only;omega) (by omega) (by repeat' constructor)
 .rcases A with rfl|rfl
  .simp only[cJ,o5,nb,jF,rn,W,VV,Int.reduceBEq,Int.reduceBNe,Nat.reduceAdd,Nat.reduceSub,Nat.reduceLeDiff,Nat.reduceEqDiff,Int.reduceToNat,reduceIte,reduceCtorEq];refine dZ (kJ J a P l (r+1) (by omega) 3 (by decide) (by decide) _) rfl ?_;rintro _ _ ⟨u,rfl,hu,rfl⟩;obtain⟨w,L,C⟩:=pD (ws:=vR) (n:=u.toNat) (by simp[vR];omega);simp only[vR,aI,ar]at C;obtain⟨w1,w2,w3⟩:=GM _ L;simp only[C,cJ,o5,nb,jF,rn,W,aa,VV,Int.reduceBEq,Int.reduceBNe,Nat.reduceAdd,Nat.reduceSub,Nat.reduceLeDiff,Nat.reduceEqDiff,Int.reduceToNat,reduceIte,reduceCtorEq];refine⟨by omega,⟨by omega,by simp only[maxLen];omega⟩,?_⟩;have e3:d.map It.azR++[[V.i .i64 2,.s w,.I ((id+1:Nat):Int)]]=(d++[(⟨2,w,((id+1:Nat):Int)⟩:It)]).map It.azR:=by simp[It.azR]
   rw[e3];have D:=H.opens w1 w2 (by omega) (by omega);rw[<- U]at D;refine e ⟨2,w,((id+1:Nat):Int)⟩ (kD (g2+1) G (d++[⟨2,w,((id+1:Nat):Int)⟩])) [] 1 (r+1+1) (d++[⟨2,w,((id+1:Nat):Int)⟩]) (id+1) (g2+1) rfl (by simp) (by omega) (by simp;omega) (λz p=>by
    rcases bW.1 p with p|p;.exact F z p
    rw[dn]at p;subst p;exact w3) D ?_ ?_ ?_;.simp only;omega
   .omega
   repeat' constructor
  simp only[cJ,o5,nb,jF,rn,W,VV,Int.reduceBEq,Int.reduceBNe,Nat.reduceAdd,Nat.reduceSub,Nat.reduceLeDiff,Nat.reduceEqDiff,Int.reduceToNat,reduceIte,reduceCtorEq];refine dZ (kJ J a P l (r+1) (by omega) 3 (by decide) (by decide) _) rfl ?_;rintro _ _ ⟨u,rfl,hu,rfl⟩;obtain⟨w,L,C⟩:=pD (ws:=vR) (n:=u.toNat) (by simp[vR];omega);simp only[vR,aI,ar]at C;obtain⟨w1,w2,w3⟩:=GM _ L;simp only[C,cJ,o5,nb,jF,rn,W,aa,VV,Int.reduceBEq,Int.reduceBNe,Nat.reduceAdd,Nat.reduceSub,Nat.reduceLeDiff,Nat.reduceEqDiff,Int.reduceToNat,reduceIte,reduceCtorEq];refine⟨by omega,⟨by omega,by simp only[maxLen];omega⟩,?_⟩;have e3:d.map It.azR++[[V.i .i64 2,.s w,.I ((id+1:Nat):Int)]]=(d++[(⟨2,w,((id+1:Nat):Int)⟩:It)]).map It.azR:=by simp[It.azR]
  rw[e3];have D:=H.opens w1 w2 (by omega) (by omega);rw[<- U]at D;refine e ⟨2,w,((id+1:Nat):Int)⟩ (kD (g2+1) G (d++[⟨2,w,((id+1:Nat):Int)⟩])) [] 1 (r+1+1) (d++[⟨2,w,((id+1:Nat):Int)⟩]) (id+1) (g2+1) rfl (by simp) (by omega) (by simp;omega) (λz p=>by
   rcases bW.1 p with p|p;.exact F z p
   rw[dn]at p;subst p;exact w3) D ?_ ?_ ?_;.simp only;omega
  .omega
  repeat' constructor
 .rcases A with rfl|rfl
  .rcases gE d with M|⟨c,y,M⟩;.subst M;have O:decide ((0:Int)<=IntKind.i64.wrap (((0:Nat):Int) - 1))=G:=rfl;simp only[cJ,o5,nb,jF,rn,ar,ai,O,VV,Int.reduceBEq,Int.reduceBNe,Nat.reduceAdd,Nat.reduceSub,Nat.reduceLeDiff,Nat.reduceEqDiff,Int.reduceToNat,reduceIte,reduceCtorEq];exact e ⟨1,t,0⟩ (kD g2 G []) [] 1 (r+1) [] id g2 rfl (by simp) (by omega) (by simp;omega) (by simp) (H.azX t) (by simp only;omega) (by omega) (by repeat' constructor)
   rw[fU]at M;subst M;have uj:(c++[y]).length=c.length+1:=by simp
   have M9:IntKind.i64.wrap (((c.length+1:Nat):Int) - 1)=(c.length:Int):=by rw[IntWalk.i64_in _ (by omega)];omega
   have Ee:IntKind.i64.wrap ((c.length:Int)+1)=((c.length+1:Nat):Int):=da (by omega);have O:decide ((0:Int)<=(c.length:Int))=θ:=by simp
   have am:=F y (by simp);have ap:=zP y.azX;have dz:∀j,gv (List.map It.azR (c++[y])) c.length j=y.azR[j]?:=λj=>qK;have T:(0:Int)<=(c.length:Int)/\(c.length:Int)<((c.length+1:Nat):Int):=⟨by omega,by omega⟩;obtain⟨D,hn⟩:=H.close (by omega);simp only[cJ,o5,nb,jF,rn,aa,uj,M9,O,dz,It.azR,ak,VV,Int.reduceBEq,Int.reduceBNe,Nat.reduceAdd,Nat.reduceSub,Nat.reduceLeDiff,Nat.reduceEqDiff,Int.reduceToNat,reduceIte,reduceCtorEq];refine⟨T,T,?_⟩;refine al (xF y.azX _) rfl ?_;simp only[cJ,o5,nb,jF,rn,aa,uj,M9,Ee,O,dz,It.azR,ak,VV,Int.reduceBEq,Int.reduceBNe,Nat.reduceAdd,Nat.reduceSub,Nat.reduceLeDiff,Nat.reduceEqDiff,Int.reduceToNat,reduceIte,reduceCtorEq];have e4:List.take c.length (List.map It.azR (c++[y]))=List.map It.azR c:=by rw[fQ];exact nS (by simp)
   have e5:List.take (c.length+1 - (c.length+1)) (List.drop (c.length+1) (List.map It.azR (c++[y])))=[]:=by simp
   simp only[e4,e5,bI,aa,ai,cu];refine⟨T,by omega,by omega,⟨by omega,by simp only[maxLen];omega⟩,by omega,⟨by omega,by simp only[maxLen];omega⟩,?_⟩;exact e ⟨3,fM y.azX,y.id⟩ (kD g2 G (c++[y])) [kD 1 G c] 3 (r+1) c id 1 rfl (by simp) (by omega) (by omega) (λz p=>F z (by simp[p])) (by rw[hn];exact D) (by simp only;omega) (by omega) (by repeat' constructor)
  rcases gE d with M|⟨c,y,M⟩;.subst M;have O:decide ((0:Int)<=IntKind.i64.wrap (((0:Nat):Int) - 1))=G:=rfl;simp only[cJ,o5,nb,jF,rn,ar,ai,O,VV,Int.reduceBEq,Int.reduceBNe,Nat.reduceAdd,Nat.reduceSub,Nat.reduceLeDiff,Nat.reduceEqDiff,Int.reduceToNat,reduceIte,reduceCtorEq];exact e ⟨1,t,0⟩ (kD g2 G []) [] 1 (r+1) [] id g2 rfl (by simp) (by omega) (by simp;omega) (by simp) (H.azX t) (by simp only;omega) (by omega) (by repeat' constructor)
  rw[fU]at M;subst M;have uj:(c++[y]).length=c.length+1:=by simp
  have M9:IntKind.i64.wrap (((c.length+1:Nat):Int) - 1)=(c.length:Int):=by rw[IntWalk.i64_in _ (by omega)];omega
  have Ee:IntKind.i64.wrap ((c.length:Int)+1)=((c.length+1:Nat):Int):=da (by omega);have O:decide ((0:Int)<=(c.length:Int))=θ:=by simp
  have am:=F y (by simp);have ap:=zP y.azX;have dz:∀j,gv (List.map It.azR (c++[y])) c.length j=y.azR[j]?:=λj=>qK;have T:(0:Int)<=(c.length:Int)/\(c.length:Int)<((c.length+1:Nat):Int):=⟨by omega,by omega⟩;obtain⟨D,hn⟩:=H.close (by omega);simp only[cJ,o5,nb,jF,rn,aa,uj,M9,O,dz,It.azR,ak,VV,Int.reduceBEq,Int.reduceBNe,Nat.reduceAdd,Nat.reduceSub,Nat.reduceLeDiff,Nat.reduceEqDiff,Int.reduceToNat,reduceIte,reduceCtorEq];refine⟨T,T,?_⟩;refine al (xF y.azX _) rfl ?_;simp only[cJ,o5,nb,jF,rn,aa,uj,M9,Ee,O,dz,It.azR,ak,VV,Int.reduceBEq,Int.reduceBNe,Nat.reduceAdd,Nat.reduceSub,Nat.reduceLeDiff,Nat.reduceEqDiff,Int.reduceToNat,reduceIte,reduceCtorEq];have e4:List.take c.length (List.map It.azR (c++[y]))=List.map It.azR c:=by rw[fQ];exact nS (by simp)
  have e5:List.take (c.length+1 - (c.length+1)) (List.drop (c.length+1) (List.map It.azR (c++[y])))=[]:=by simp
  simp only[e4,e5,bI,aa,ai,cu];refine⟨T,by omega,by omega,⟨by omega,by simp only[maxLen];omega⟩,by omega,⟨by omega,by simp only[maxLen];omega⟩,?_⟩;exact e ⟨3,fM y.azX,y.id⟩ (kD g2 G (c++[y])) [kD 1 G c] 3 (r+1) c id 1 rfl (by simp) (by omega) (by omega) (λz p=>F z (by simp[p])) (by rw[hn];exact D) (by simp only;omega) (by omega) (by repeat' constructor)
 simp only[cJ,o5,nb,jF,rn,VV,Int.reduceBEq,Int.reduceBNe,Nat.reduceAdd,Nat.reduceSub,Nat.reduceLeDiff,Nat.reduceEqDiff,Int.reduceToNat,reduceIte,reduceCtorEq];exact e ⟨1,t,0⟩ (kD g2 G d) [] 1 (r+1) d id g2 rfl (by simp) (by omega) (by omega) F (H.azX t) (by simp only;omega) (by omega) (by repeat' constructor)
set_option maxRecDepth 4000 in
def Te(c:aj)(a:Nat)(p:a<Y c)(l:bU)(k:Nat)(B:k<2^49)(N:Nat)(L:N<=20): PC κ 137 [.ptr a 0,.I N,.b θ,.b θ] (mb c a l k) (λr x=>∃(f:List It) (k':Nat),r=.sl 3 (f.map It.azR)/\cz [] f=0/\Y f<=2*N/\bo f<=23*N/\(k<=k'/\k'<=k+12*N+1)/\x=mb c a l k'):=by
 refine aW func137 apP.2 λq y=>?_;have s:IntKind.i64.wrap ((N:Int)+1)=((N+1:Nat):Int):=da (by omega);simp only[apP,SS,seval];refine cB.cut λR e=>?_;simp only[cJ,VV,seval];refine e _ ?_;clear e R;refine cB.cut λR e=>?_;simp only[cJ,VV,seval];refine e _ ?_;clear e R;refine cB.cut λR e=>?_;simp only[cJ,VV,seval];refine e _ ?_;clear e R;refine cB.cut λR e=>?_;simp only[cJ,s,VV,seval];refine dZ (D5 c a p l k (by omega) ((N+1:Nat):Int) (by omega) (by omega)) rfl ?_;rintro _ _ ⟨v,rfl,A,rfl⟩;obtain⟨m,rfl⟩:∃m:Nat,v=m:=⟨v.toNat,by omega⟩;simp only[cJ,s,VV,seval];refine cB.wk (((Wk.fw (ys:=(.ptr a 0::uu 1 (.b θ::.b θ::uu 5 (.nil::.nil::.I (0:Nat)::.I m::uu 128 [])))) (by repeat' constructor)).trans (Wk.k9 (P:=κ) (J:=mb c a l (k+1)) (k:=9) Q9 rfl)).trans ((Wk.ph (P:=κ) (J:=mb c a l (k+1)) [_] (k:=10) Q9 rfl).trans (Wk.fw (ys:=(.ptr a 0::uu 1 (.b θ::.b θ::uu 5 (.own c.length 0::.own (Y c+1) 0::.I (0:Nat)::.I m::uu 128 [])))) ?_)))
  (cB.kT (m+1) (Zr c a p l (k+1) (by omega) (pn q) m (by omega) m (k+1) [] [] 0 0 0 (aM _) (by omega) (by simp) (by simp) G6.nil (by simp) (by simp[bo]) (by omega) ?_));.simp only[cJ,ae,ai,VV,seval];repeat' constructor
 intro k' f d id n j z K t w H F M;simp only[JE];intros;simp only[VV,seval];refine e _ (cB.fw (fr':=(uu 3 (.b θ::uu 5 (.own c.length n::.own (Y c+1) j::uu 130 [])))) ?_ (by repeat' constructor));clear e R;refine cB.cut λR e=>?_;simp only[kD,cJ,o5,nb,jF,rn,aa,VV,seval];have o:IntKind.i64.wrap ((Y d:Int) - 1)=(Y d:Int) - 1:=IntWalk.i64_in _ (by omega);rw[o];refine cB.bX (fr':=(uu 3 (.b θ::uu 5 (.own c.length n::.own (Y c+1) j::uu 4 (.I ((Y d:Int) - 1)::uu 125 []))))) (by repeat' constructor) (Y d+1) (Zq c a l k' d (by omega) t id (by omega) j d.length d f n rfl ⟨[],by simp⟩ w (by omega) ?_);intro h i u D C;simp only[JE];intros;simp only[kD,VV,seval];refine e _ (aq ?_);clear e R;simp only[kD,cJ,o5,nb,jF,rn,VV,seval];refine dS (xs':=[.sl 3 (h.map It.azR)]) (.inr rfl) rfl ((Wk.fz c.length (E:=70) (sz:=3) (by':=32) (g:=i) (sh:=G) (rows:=h.map It.azR) (by rw[o5];rfl)).trans ?_) ?_ ⟨h,k',rfl,u,by omega,by omega,by omega,rfl⟩;.rw[jF];simp only[aI,ar,ev,iM,aX,bB,cC,cT,fz,kE,cG,aU];have:=Wk.yQ (P:=κ) (xs:=[.sl 3 (h.map It.azR)]) (loc:=[Ob.row 70 3 32 i θ (h.map It.azR),Ob.row 70 3 32 j G (d.map It.azR)]) (pn (k':=k') q) (by simp only[cJ,LW]);rw[cJ]at this;exact this
 rfl
def aid(e:a<Y J)(l:bU)(k:Nat)(o:k<2^49)(N:Nat)(i:N<=20)(c:aj): PC κ 137 [.ptr a 0,.I N,.b θ,.b θ] (mb J a l k++c) (λr g=>∃(f:List It) (d:Nat),r=.sl 3 (f.map It.azR)/\cz [] f=0/\Y f<=2*N/\bo f<=23*N/\(k<=d/\d<=k+12*N+1)/\g=mb J a l d++c):=by rw[oZ e];refine(Te (J++c) a (by rw[ah];omega) l k o N i).mono ?_;rintro r g ⟨f,d,m,p,h,j,q,n⟩;exact⟨f,d,m,p,h,j,q,by rw[n,oZ e]⟩
def Yr(h:a<Y J)(l:bU)(k:Nat)(j:k<2^50)(src:List It)(p:cz [] src=0)(d:Y src<=100)(e:bo src<=10000)(b:aj): PC κ 138 [.ptr a 0,.sl 3 (src.map It.azR)] (mb J a l k++b) (λr g=>∃(f:List It) (c:Nat),r=.sl 3 (f.map It.azR)/\cz [] f=0/\Y f<=2*Y src/\bo f<=bo src+20*Y src/\(k<=c/\c<=k+10*Y src)/\g=mb J a l c++b):=by rw[oZ h];refine(Yq (J++b) a (by rw[ah];omega) l k j src p d e).mono ?_;rintro r g ⟨f,c,i,m,n,o,s,q⟩;exact⟨f,c,i,m,n,o,s,by rw[q,oZ h]⟩
def ab5(o:Option Int):List It:=match o with|some b=>f++[⟨x.azT,x.azX,b⟩]|none=>f
def Zv(F L I:V)(b c:bU)(a:List It)(x:It)(g:Nat)(y:Y b<2^62)(f:(Y a+1)*32<=2^47/\Y a+1<=maxLen): ∀(m k:Nat),k+m=min b.length (Y c) ->(∀g,((fh (F) (fh (.sl 1 (b.map cN)) (fh (.sl 1 (c.map cN)) (fj 4 (fh (.own X.length g) (fj 4 (fh (L) (fh (I) (fj 47 fo))))))))) λn=>K (.exit 2) ⟨n,X++[.row 70 3 32 g G ((ab5 a x (Lh (b.drop k) (c.drop k) x.id)).map It.azR),.box 70 x.azR]⟩)) ->gw (Y X) κ Jm K (m+1) ⟨(F::.sl 1 (b.map cN)::.sl 1 (c.map cN)::uu 4 (.own X.length g::uu 1 (.ptr (Y X+1) 0::.I k::uu 1 (L::I::uu 47 [])))),X++[.row 70 3 32 g G (a.map It.azR),.box 70 x.azR]⟩:=by
 intro m;induction m with
 |zero =>
  intro k o d;rw[Wl (by omega)]at d;have t:((decide ((k:Int)<(Y b:Int)))&&decide ((k:Int)<(Y c:Int)))=G:=by rw[Bool.and_eq_false_iff];simp;omega
  refine az λR l=>?_;simp only[Jm,aa,t,VV,seval];exact d g ..
 |succ m ih =>
 intro k o d;have i:k<Y b:=by omega
 have j:k<Y c:=by omega
 rw[Q8 i j]at d;have u:decide ((k:Int)<(Y b:Int))=θ:=by simp;omega
 have p:decide ((k:Int)<(Y c:Int))=θ:=by simp;omega
 have r:IntKind.i64.wrap ((k:Int)+1)=((k+1:Nat):Int):=by rw[IntWalk.i64_in _ (by omega)];omega
 refine az λR l=>?_;simp only[Jm,It.azR,aa,u,p,r,ak,v8 i,v8 j,VV,seval];have w:(0:Int)<=(k:Int)/\(k:Int)<(Y b:Int):=by omega
 have q:(0:Int)<=(k:Int)/\(k:Int)<(Y c:Int):=by omega
 refine⟨w,λh=>⟨q,f,?_⟩,λh=>?_⟩
 .have h:x.id=b.getD k 0:=by rw[ez]at h;exact h.symm
  rw[aQ h]at d;have v:a.map It.azR++[[.I x.azT,.s x.azX,.I (c.getD k 0)]]=(ab5 a x (some (c.getD k 0))).map It.azR:=by simp[ab5,It.azR]
  rw[v];exact d (g+1) ..
 have h:¬x.id=b.getD k 0:=by rw[gN]at h;exact λe=>h e.symm
 rw[aw h]at d;refine l _ (bX ?_ (ih (k+1) (by omega) d));repeat' constructor
def Zu(B:bT X)(j:Y f<2^40)(A:Y v<2^62):∀(a c b:List It) (g:Nat),f=c++a->Y b<=Y c ->(∀g,((fj 7 (fh (.own X.length g) (fj 53 fo))) λu=>K (.exit 0) ⟨u,X++[.row 70 3 32 g G ((b++aAk a v P).map It.azR)]⟩)) ->gw (Y X) κ Jl K (Y a+1) ⟨(.sl 3 (f.map It.azR)::.sl 1 (v.map cN)::.sl 1 (P.map cN)::uu 4 (.own X.length g::uu 4 (.I (Y f)::.I (Y c)::uu 47 []))),X++[.row 70 3 32 g G (b.map It.azR)]⟩:=by
 intro a;induction a with
 |nil =>
  intro c b g m y n;have m:=dL m;subst m;have e:b++aAk [] v P=b:=by simp[aAk]
  rw[e]at n;refine az λR p=>?_;simp only[Jl,VV,seval];exact⟨λh=>by simp at h,λ_=>n g ..⟩
 |cons x a ih =>
 intro c b g m y n;subst m;have next:∀(d:List It) (l:Nat) {k:aj},b++aAk (x::a) v P=d++aAk a v P->Y d<=Y b+1->∀{R:ck} {r:aB},(∀q,gw (Y X) κ Jl K (Y a+1) q->R q) ->
   rk r (.sl 3 ((c++x::a).map It.azR)::.sl 1 (v.map cN)::.sl 1 (P.map cN)::uu 4 (.own X.length l::uu 4 (.I (Y (c++x::a))::.I (IntKind.i64.wrap ((Y c:Int)+1))::uu 47 [])))->R ⟨r,X++(.row 70 3 32 l G (d.map It.azR)::k)⟩:=by intro d l k C D R r p t;have w:=dD c x (by simp at j;omega);rw[w]at t;rw[C]at n;refine p _ (cn [_] k (cj B (by simp)) t ?_ (ih (c++[x]) d l (by simp) (by simp;omega) n));simp only[LW,ae,ai,aG];omega
 have o:(Y b+1)*32<=2^47/\Y b+1<=maxLen:=by simp at j;simp[maxLen];omega
 refine az λR p=>?_;simp only[Jl,It.azR,VV,seval];refine⟨λ_=>⟨by simp;omega,?_⟩,λh=>by simp at h<;>omega⟩;refine al (CP x _) rfl ?_;simp only[VV,seval];refine⟨λi=>?_,λi=>?_⟩
 .have i:fp x=G:=by rw[dG]at i;exact i
  have z:b.map It.azR++[[.I x.azT,.s x.azX,.I x.id]]=(b++[x]).map It.azR:=by simp[It.azR]
  refine⟨by rw[aa];exact o,?_⟩;rw[z];refine next (b++[x]) (g+1) (by simp[aAk,Wu,i]) (by simp) p ?_;repeat' constructor
 have i:fp x=θ:=by rw[eP]at i;exact i
 refine cB.bX ?_ (min v.length (Y P)+1) (Zv (.sl 3 ((c++x::a).map It.azR)) (.I (Y (c++x::a))) (.I (Y c)) v P b x g A o (min v.length (Y P)) 0 (by omega) ?_);.simp only[It.azR,kC];repeat' constructor
 intro l;simp only[JE];intros;simp only[VV,seval];refine next _ l ?_ ?_ p ?_;.simp only[oL,aAk,nZ,Wu,i,aU,ab5];cases Lh v P x.id<;>simp
 .simp only[ab5];split<;>simp
 repeat' constructor
def Ge(a:Y f<2^40)(c:bo f<2^40)(d:Y v<2^62)(J:aj):bh κ 132 [.sl 3 (f.map It.azR),.sl 1 (v.map cN),.sl 1 (P.map cN)] J (.sl 3 ((rename f v P).map It.azR)):=by
 refine aW func132 apT.2 λb e=>aq ?_;simp only[apT,SS,seval];simp only[aa,VV,seval];refine cB.wk ((Wk.k9 (k:=7) Q9 rfl).trans (Wk.fw ?_)) (cB.kT (Y f+1) (Zu f v P b a d f [] [] 0 rfl (aM _) ?_));.simp only[VV,seval];repeat' constructor
 intro g;simp only[JE];intros;simp only[ay,VV,seval];refine tv J.length (by simp only[jD];rfl) (Ak (aAk f v P) (wh (F4 _ _ _) a) (wh (DC _ _ _) c) _) (by simp[fz,kE,ev]) ?_;simp only[VV,seval];exact gm b (by rfl) (by simp[LW])
def Al(d:Y f<2^38)(e:Y Q<2^38)(g:bo f<2^38)(b:bo Q<2^38)(J:aj):bh κ 71 [.sl 3 (f.map It.azR),.sl 3 (Q.map It.azR)] J (.jg [.sl 3 ((kc f Q).map It.azR),.sl 3 ((k6 f Q).map It.azR)]):=by refine aW func71 p71.2 λa h=>aq ?_;simp only[p71,SS,seval];simp only[aa,VV,seval];refine⟨by simp[maxLen];omega,by simp[maxLen];omega,?_⟩;refine tv J.length (by simp only[jD];rfl) (Oo (f++Q) (by simp;omega) _) (by simp[fz,kE,ev]) ?_;have c:=tP (f++Q);rw[vy,ah]at c;rw[vy];simp only[aa,VV,seval];refine al (YU (dh f Q).length (by omega) _) rfl ?_;simp only[VV,seval];refine al (Ge f (dh f Q) (eH (Y (dh f Q))) (by omega) (by omega) (by omega) _) rfl ?_;simp only[VV,seval];refine al (Ge Q (dh f Q) (eH (Y (dh f Q))) (by omega) (by omega) (by omega) _) rfl ?_;simp only[VV,seval];exact bA a (.inr rfl) (by simp only[RS,seval];rfl) (by simp[LW]) ⟨rfl,rfl⟩
def Ek:gW:=[[83,97,118,101],[114,101,100,32,99,97,114],[82,101,100,32,99,97,114,115]]
def Tc:∀s∈Ek,cz [] [⟨1,s,0⟩]=0/\Y s<=8:=by decide +kernel
def El:gW:=[[],[],[83,97,118,101],[114,101,100,32,99,97,114]]
def Em:gW:=[[],[],[120],[83,97,118,101]]
def yM:gW:=[[],[97,110,110],[98,111,98]]
def wR:gW:=[[],[112],[113]]
def alS:(∀s∈El,s∈Kj)/\(∀s∈Em,s∈Kj)/\(∀s∈yM,s∈AS)/\∀s∈wR,s∈AS:=by decide +kernel
set_option maxRecDepth 20000 in
def aeb(c:a<Y J)(l:bU)(k:Nat)(hk:k<2^48): PC κ 79 [.ptr a 0] (mb J a l k) (λr J'=>∃(e:En) (k':Nat),r=.agg e.azR/\NN e/\(k<=k'/\k'<=k+200)/\J'=mb J a l k'):=by
 refine aW func79 p79.2 λbc dQ=>?_;simp only[p79,SS,seval];refine cB.cut λR b=>?_;simp only[cJ,VV,seval];refine b _ ?_;clear b R;refine cB.cut λR b=>?_;simp only[cJ,VV,seval];refine dZ (aid J a c l k (by omega) 4 (by decide) _) rfl ?_;rintro _ _ ⟨D,E,rfl,f1,f2,f3,f4,rfl⟩;simp only[cJ,o5,nb,jF,rn,VV,seval];refine b _ (cB.fw (fr':=(.ptr a 0::uu 1 (.ptr J.length 0::.sl 3 (D.map It.azR)::uu 52 []))) ?_ (by repeat' constructor));clear b R;refine cB.cut λR b=>?_;have g:∀(f:List It) (z:Nat) {B:aB},cz [] f=0->f≠[]->Y f<=8->bo f<=92->(k<=z/\z<=k+50)->rk B (.ptr a 0::uu 1 (.ptr J.length 0::.sl 3 (f.map It.azR)::uu 52 [])) ->
   R ⟨B,mb J a l z++[.box 36 [.nil,.nil,.s [],.s [],.s [],.s [],.I 0,.I 0]]⟩:=by
  intro f z B K c2 c3 c4 c5 hc;refine b _ (cB.fw ?_ hc);clear b R;refine cB.cut λR b=>?_;simp only[cJ,o5,nb,jF,rn,VV,seval];refine dZ (Yr J a c l z (by omega) f K (by omega) (by omega) _) rfl ?_;rintro _ _ ⟨t,d,rfl,t1,t2,t3,t4,rfl⟩;simp only[cJ,o5,nb,jF,rn,VV,seval];refine b _ (cB.fw (fr':=(.ptr a 0::uu 1 (.ptr J.length 0::.sl 3 (f.map It.azR)::.sl 3 (t.map It.azR)::uu 51 []))) ?_ (by repeat' constructor));clear b R;refine cB.cut λR b=>?_;simp only[cJ,o5,nb,jF,rn,VV,seval];refine al (Al f t (by omega) (by omega) (by omega) (by omega) _) rfl ?_;simp only[cJ,o5,nb,jF,rn,VV,seval];refine b _ (cB.fw (fr':=(.ptr a 0::uu 1 (.ptr J.length 0::uu 2 (.sl 3 ((kc f t).map It.azR)::.sl 3 ((k6 f t).map It.azR)::uu 49 [])))) (aq ?_) (by repeat' constructor));clear b R;simp only[cJ,o5,nb,jF,rn,VV,seval];refine dZ (kJ J a c l d (by omega) 4 (by decide) (by decide) _) rfl ?_;rintro _ _ ⟨v1,rfl,W,rfl⟩;obtain⟨i,Q,j⟩:=pD (ws:=El) (n:=v1.toNat) (by simp[El];omega);simp only[El,aI,ar]at j;simp only[j,cJ,o5,nb,jF,rn,VV,seval];refine⟨by omega,?_⟩;refine dZ (kJ J a c l (d+1) (by omega) 4 (by decide) (by decide) _) rfl ?_;rintro _ _ ⟨v2,rfl,N,rfl⟩;obtain⟨p,O,o⟩:=pD (ws:=Em) (n:=v2.toNat) (by simp[Em];omega);simp only[Em,aI,ar]at o;simp only[j,o,cJ,o5,nb,jF,rn,VV,seval];iterate 3 (try refine aH (by omega) ?_)
  refine dZ (kJ J a c l (d+1+1) (by omega) 3 (by decide) (by decide) _) rfl ?_;rintro _ _ ⟨T,rfl,X,rfl⟩;obtain⟨q,C,x⟩:=pD (ws:=yM) (n:=T.toNat) (by simp[yM];omega);simp only[yM,aI,ar]at x;simp only[j,o,x,cJ,o5,nb,jF,rn,VV,seval];iterate 4 (try refine aH (by omega) ?_)
  refine dZ (kJ J a c l (d+1+1+1) (by omega) 3 (by decide) (by decide) _) rfl ?_;rintro _ _ ⟨v4,rfl,ad,rfl⟩;obtain⟨y,H,A⟩:=pD (ws:=wR) (n:=v4.toNat) (by simp[wR];omega);simp only[wR,aI,ar]at A;simp only[j,o,x,A,cJ,o5,nb,jF,rn,VV,seval];iterate 6 (try refine aH (by omega) ?_)
  refine dZ (kJ J a c l (d+1+1+1+1) (by omega) 50 (by decide) (by decide) _) rfl ?_;rintro _ _ ⟨u,rfl,U,rfl⟩;simp only[j,o,x,A,cJ,o5,nb,jF,rn,VV,seval];iterate 6 (try refine aH (by omega) ?_)
  refine dZ (kJ J a c l (d+1+1+1+1+1) (by omega) 3 (by decide) (by decide) _) rfl ?_;rintro _ _ ⟨m,rfl,ac,rfl⟩;have F:IntKind.i64.wrap (1+m)=1+m:=IntWalk.i64_in _ (by omega);simp only[j,o,x,A,F,cJ,o5,nb,jF,rn,VV,seval];refine⟨by omega,?_⟩;obtain⟨V,L,i3,M⟩:=alS;have hE:NN ⟨kc f t,k6 f t,i,p,q,y,u,1+m⟩:=Z0 K t1 c2 (by omega) (by omega) (by omega) (by omega) (V _ Q) (L _ O) (i3 _ C) (M _ H) (by omega) (by omega);refine dS (xs:=[.agg (En.azR ⟨kc f t,k6 f t,i,p,q,y,u,1+m⟩)]) (xs':=[.agg (En.azR ⟨kc f t,k6 f t,i,p,q,y,u,1+m⟩)]) (.inr rfl) (by simp only[mS,yy,o5,VV,seval];rfl) ?_ rfl ⟨_,d+1+1+1+1+1+1,rfl,hE,by omega,rfl⟩;have:=Wk.yQ (P:=κ) (xs:=[.agg (En.azR ⟨kc f t,k6 f t,i,p,q,y,u,1+m⟩)]) (loc:=[Ob.box 36 (En.azR ⟨kc f t,k6 f t,i,p,q,y,u,1+m⟩)]) (pn (k':=d+1+1+1+1+1+1) bc) (by simp only[En.azR,cJ,LW]);rw[cJ]at this;exact this
 simp only[aa,cJ,o5,nb,jF,rn,VV,seval];refine⟨λh=>?_,λh=>?_⟩;.refine dZ (kJ J a c l E (by omega) 3 (by decide) (by decide) _) rfl ?_;rintro _ _ ⟨v,rfl,hv,rfl⟩;obtain⟨w,hw,e⟩:=pD (ws:=Ek) (n:=v.toNat) (by simp[Ek];omega);obtain⟨i,p⟩:=Tc _ hw;simp only[Ek,aI,ar]at e;simp only[e,cJ,o5,nb,jF,rn,VV,seval];refine⟨by omega,?_⟩;refine g [⟨1,w,0⟩] (E+1) i (by simp) (by simp) (by simp[bo];omega) (by omega) ?_;simp only[aI,ar,It.azR];repeat first|exact .nil|refine .cons (.refl _) ?_|refine .cons (.lit _ _) ?_|refine .cons (.forget _) ?_
 have h:D≠[]:=by rintro rfl;simp at h
 refine g D E f1 h (by omega) (by omega) (by omega) ?_;repeat' constructor
def aec(d:a<Y J)(l:bU)(k:Nat)(j:k<2^48)(b:aj): PC κ 79 [.ptr a 0] (mb J a l k++b) (λr f=>∃(e:En) (c:Nat),r=.agg e.azR/\NN e/\(k<=c/\c<=k+200)/\f=mb J a l c++b):=by rw[oZ d];refine(aeb (J++b) a (by rw[ah];omega) l k j).mono ?_;rintro r f ⟨e,c,h,m,g,i⟩;exact⟨e,c,h,m,g,by rw[i,oZ d]⟩
def RR:bh κ 172 [.agg R.azR] J (.I (if k8 R=G then 1 else 0)):=by
 refine aW func172 apn.2 λa b=>aq ?_;simp only[apn,SS,seval];simp only[cL.azR,VV,seval];have e:(decide (R.time<1)||decide (1073741824<R.time)||decide (R.bS<0)||decide (8<=R.bS)||decide (R.azW<1)||decide (128<R.azW))=!k8 R:=by simp only[k8];rw[eD];simp;omega
 rw[e];refine⟨λh=>?_,λh=>?_⟩;.refine bA a (.inr rfl) (by simp only[RS,seval];rfl) (by simp[LW]) ⟨?_,rfl⟩;rw[dG]at h;rw[h];rfl
 refine bA a (.inr rfl) (by simp only[RS,seval];rfl) (by simp[LW]) ⟨?_,rfl⟩;rw[eP]at h;rw[h];rfl
def pg(b:Int)(J:aj):bh κ 178 [.I n,.I b] J (.I (gJ n b)):=by
 refine aW func178 aph.2 λc d=>aq ?_;simp only[aph,SS,seval];simp only[VV,seval];refine⟨λh=>?_,λh=>⟨λa=>?_,λa=>?_⟩⟩<;>simp at h;.exact bK (.inr rfl) (by simp only[RS,seval];rfl) ⟨by simp[Pm.one,gJ,h],rfl⟩
 .simp at a;exact bK (.inr rfl) (by simp only[RS,seval];rfl) ⟨by simp[Pm.one,gJ,Wc.2 h,a],rfl⟩
 simp at a;exact bK (.inr rfl) (by simp only[RS,seval];rfl) ⟨by simp[Pm.one,gJ,Wc.2 h,Wc.2 a],rfl⟩
def BS(b:cL)(J:aj):bh κ 127 [.agg R.azR,.agg b.azR] J (.I (jH R b)):=by
 refine aW func127 apY.2 λc e=>aq ?_;simp only[apY,SS,seval];simp only[cL.azR,VV,seval];refine al (pg R.time b.time _) rfl ?_;simp only[VV,seval];refine⟨λh=>?_,λh=>?_⟩
 .have h:gJ R.time b.time≠0:=by simpa using h
  exact bA c (.inr rfl) (by simp only[RS,seval];rfl) (by simp[LW]) ⟨by simp[Pm.one,jH,wj,h],rfl⟩
 have h:gJ R.time b.time=0:=by simpa using h
 refine al (pg R.bS b.bS _) rfl ?_;simp only[VV,seval];refine⟨λa=>?_,λa=>?_⟩
 .have a:gJ R.bS b.bS≠0:=by simpa using a
  exact bA c (.inr rfl) (by simp only[RS,seval];rfl) (by simp[LW]) ⟨by simp[Pm.one,jH,wj,h,a],rfl⟩
 have a:gJ R.bS b.bS=0:=by simpa using a
 refine al (pg R.azW b.azW _) rfl ?_;simp only[VV,seval];refine bA c (.inr rfl) (by simp only[RS,seval];rfl) (by simp[LW]) ⟨?_,rfl⟩;by_cases d:gJ R.azW b.azW=0;.simp[Pm.one,jH,wj,h,a,d]
 simp[Pm.one,jH,wj,h,a,d]
def Ao(o:Int)(J:aj):bh κ 173 [.sl 1 (v.map cN),.I o] J (.I (ox v o)):=by
 refine aW func173 apm.2 λc b=>aq ?_;simp only[apm,SS,seval];simp only[aa,VV,seval];have e:(decide (o<0)||decide ((Y v:Int)<=o)||decide (8<=o))=decide (o<0\/(Y v:Int)<=o\/8<=o):=by rw[eD];simp[or_assoc]
 rw[e];refine⟨λh=>?_,λh=>?_⟩;.have h:=ic h;exact bK (.inr rfl) (by simp only[RS,seval];rfl) ⟨by simp only[ox,aQ h];rfl,rfl⟩
 have h:=qM h;obtain⟨n,rfl⟩:∃n:Nat,o=n:=⟨o.toNat,by omega⟩;have a:n<Y v:=by omega
 simp only[ak,v8 a,VV,seval];refine⟨by omega,?_⟩;refine bK (.inr rfl) (by simp only[RS,seval];rfl) ⟨?_,rfl⟩;simp only[ox,aw h,ak];rfl
def Ou:bh κ 154 [.sl 1 (v.map cN),.agg R.azR] J (.b (VN v R)):=by refine aW func154 apC.2 λa c=>aq ?_;simp only[apC,SS,seval];simp only[cL.azR,VV,seval];refine bV (by simp only[VV,seval]<;>rfl) (λ_=>Ao v R.bS _) rfl ?_;simp only[VV,seval];exact gm a (by rfl) (by simp[LW])
def wz(e:En)(J:aj):bh κ 101 [.agg e.azR] J (.agg (aAd e).azR):=by refine aW func101 aqn.2 λa b=>aq ?_;simp only[aqn,SS,seval];simp only[En.azR,VV,seval];exact bA a (.inr rfl) (by simp only[RS,seval];rfl) (by simp[LW]) ⟨rfl,rfl⟩
def L0(h:¬U<10):Lib.decDigits U=Lib.decDigits (U / 10)++[UInt8.ofNat (48+U % 10)]:=by rw[Lib.decDigits,dif_neg h]
def Tr:UInt8.ofNat ((IntKind.u8.wrap (IntKind.i64.wrap (48+(U:Int).tmod 10))).toNat)=UInt8.ofNat (48+U % 10):=by
 have h:(U:Int).tmod 10=((U % 10:Nat):Int):=by rw[amu (by omega)];rfl
 rw[h,IntWalk.i64_in _ (by omega)];have a:IntKind.u8.wrap (48+((U % 10:Nat):Int))=((48+U % 10:Nat):Int):=by rw[IntWalk.u8_in _ (by omega)];omega
 rw[a];rfl
def Yb(h:U<2^62):IntKind.i64.wrap ((U:Int).tdiv 10)=((U / 10:Nat):Int):=by
 have e:(U:Int).tdiv 10=((U / 10:Nat):Int):=by rw[Int.tdiv_eq_ediv_of_nonneg (by omega)];rfl
 rw[e,IntWalk.i64_in _ (by omega)]
def agS:∀(k n:Nat) (s:aR),n<10^(k+1)->n<2^62->Y s+k<2^40 ->(((fj 2 (fh (.s (Lib.decDigits n++s)) (fj 14 fo))) λf=>K .ret ⟨f,X⟩)) ->gw (Y X) κ Jh K (k+1) ⟨(.I n::uu 2 (.s s::uu 13 [])),X⟩:=by
 have last:∀(k n:Nat) (s:aR),n<10->n<2^62->Y s+k<2^40->(((fj 2 (fh (.s (Lib.decDigits n++s)) (fj 14 fo))) λf=>K .ret ⟨f,X⟩)) ->gw (Y X) κ Jh K (k+1) ⟨(.I n::uu 2 (.s s::uu 13 [])),X⟩:=by
  intro k n s c b d a;refine az λR i=>?_;simp only[Jh,Yb b,Tr,VV,Int.reduceBEq,Int.reduceBNe,Nat.reduceAdd,Nat.reduceSub,Nat.reduceLeDiff,Nat.reduceEqDiff,Int.reduceToNat,reduceIte,reduceCtorEq];rw[Lib.decDigits_one c]at a;have e:n % 10=n:=by omega
  have l:n / 10=0:=by omega
  rw[e,l];exact⟨by decide,by simp[maxLen];omega,by decide,λh=>a ..,λh=>by simp at h⟩
 intro k;induction k with
 |zero=>intro n s g b d a;exact last 0 n s (by omega) b d a
 |succ k ih =>
 intro n s g b d a;by_cases c:n<10;.exact last (k+1) n s c b d a
 rw[L0 c,aO]at a;have j:n / 10<10^(k+1):=by rw[aaF]at g;omega
 refine az λR i=>?_;simp only[Jh,Yb b,Tr,VV,Int.reduceBEq,Int.reduceBNe,Nat.reduceAdd,Nat.reduceSub,Nat.reduceLeDiff,Nat.reduceEqDiff,Int.reduceToNat,reduceIte,reduceCtorEq];refine⟨by decide,by simp[maxLen];omega,by decide,λh=>by simp at h;omega,λh=>?_⟩;refine i _ (bX ?_ (ih (n / 10) (UInt8.ofNat (48+n % 10)::s) j (by omega) (by simp;omega) a));repeat' constructor
def Ov(b:a<2^62)(J:aj):bh κ 139 [.I a] J (.s (Lib.decDigits a)):=by
 refine aW func139 apN.2 λd c=>aq ?_;simp only[apN,SS,seval];simp only[VV,seval];refine cB.bX ?_ 19 (agS 18 a [] (by omega) b (by simp) ?_);.repeat' constructor
 simp only[JE];intros;simp only[VV,seval];exact bK (.inr rfl) (by simp only[RS,seval];rfl) ⟨by simp[Pm.one],rfl⟩
def DQ(c:a<2^62)(J:aj):bh κ 80 [.I a] J (.s (Lib.itoa a)):=by
 refine aW func80 p80.2 λg f=>aq ?_;have d:decide ((a:Int)<0)=G:=by simp
 have b:(if(a:Int)<0 then(0:Int)else a)=a:=aw (by omega);simp only[p80,SS,seval];simp only[d,b,VV,seval];refine al (Ov a c _) rfl ?_;simp only[VV,seval];refine bK (.inr rfl) (by simp only[RS,seval];rfl) ⟨?_,rfl⟩;have e:Lib.itoa (a:Int)=Lib.decDigits a:=by unfold Lib.itoa;rw[aw (by omega)];rfl
 rw[e];rfl
def T4:∀c:UInt8,((((c.toNat:Int)==92||(c.toNat:Int)==60)||(c.toNat:Int)==123)=θ->ig c=[92,c]) /\((((c.toNat:Int)==92||(c.toNat:Int)==60)||(c.toNat:Int)==123)=G->(((c.toNat:Int)==10)=θ->ig c=[92,110]) /\(((c.toNat:Int)==10)=G->(((c.toNat:Int)==9)=θ->ig c=[92,116]) /\(((c.toNat:Int)==9)=G->(((c.toNat:Int)==13||pP c==1)=θ->ig c=[92,120,mM (c.toNat / 16),mM (c.toNat % 16)]) /\(((c.toNat:Int)==13||pP c==1)=G->ig c=[c])))):=lq (by decide +kernel)
def ali:∀c:UInt8,(0<=IntKind.u8.wrap ((c.toNat:Int).tdiv 16)/\IntKind.u8.wrap ((c.toNat:Int).tdiv 16)<((16:Nat):Int))/\(0<=(c.toNat:Int).tmod 16/\(c.toNat:Int).tmod 16<((16:Nat):Int)) /\([48,49,50,51,52,53,54,55,56,57,97,98,99,100,101,102]:aR).getD (IntKind.u8.wrap ((c.toNat:Int).tdiv 16)).toNat 0=mM (c.toNat / 16) /\([48,49,50,51,52,53,54,55,56,57,97,98,99,100,101,102]:aR).getD ((c.toNat:Int).tmod 16).toNat 0=mM (c.toNat % 16):=lq (by decide +kernel)
def DP(J:aj):bh κ 187 [.i .u8 c.toNat] J (.s (ig c)):=by
 refine aW func187 ao9.2 λo n=>aq ?_;obtain⟨h,e⟩:=T4 c;simp only[ao9,SS,seval];simp only[VV,seval];refine⟨λa=>⟨by decide,?_⟩,λa=>⟨λb=>?_,λb=>⟨λd=>?_,λd=>?_⟩⟩⟩;.exact bK (.inr rfl) (by simp only[RS,seval];rfl) ⟨by rw[h a];rfl,rfl⟩
 .exact bK (.inr rfl) (by simp only[RS,seval];rfl) ⟨by rw[(e a).1 b];rfl,rfl⟩
 .exact bK (.inr rfl) (by simp only[RS,seval];rfl) ⟨by rw[((e a).2 b).1 d];rfl,rfl⟩
 have g:=((e a).2 b).2 d;refine bV (by simp only[VV,seval]<;>rfl) (λ_=>UN c _) rfl ?_;simp only[VV,Int.reduceBEq,Int.reduceBNe,Nat.reduceAdd,Nat.reduceSub,Nat.reduceLeDiff,Nat.reduceEqDiff,Int.reduceToNat,reduceIte,reduceCtorEq];obtain⟨l,j,k,m⟩:=ali c;refine⟨λf=>⟨by decide,l,by decide,j,by decide,?_⟩,λf=>?_⟩;.refine bK (.inr rfl) (by simp only[RS,seval];rfl) ⟨?_,rfl⟩;rw[g.1 f,<- k,<- m];rfl
 exact bK (.inr rfl) (by simp only[RS,seval];rfl) ⟨by rw[g.2 f];rfl,rfl⟩
def ug(n:Int):Nat->aR|0=>[]|m+1=>ll (n / 2^(8*m))::ug n m
def PE:ug n 4=G4 n:=by
 have e:n / 65536 / 256=n / 16777216:=by omega
 simp[ug,G4,wm,e]
def acr:ug n 2=wm n:=by simp[ug,wm]
def Ea:IntKind.u8.wrap n=((ll n).toNat:Int):=by
 have a:IntKind.u8.wrap n=n % 256:=by simp[IntKind.wrap,IntKind.bits,IntKind.signed]
 rw[a];have c:0<=n % 256:=aiN _ (by decide);have b:n % 256<256:=Wd _ (by decide);simp only[ll,qN];omega
def ajL:Ti κ 5 1 1:=o8 (by kernel_rfl)
def agL:∀(m:Nat) (a:aR) (g:Nat),m<=8->Y a+m<=8 ->(∀g,((fj 5 (fh (.own X.length g) (fj 16 fo))) λd=>K (.exit 0) ⟨d,X++[.row 5 1 1 g G (aN (a++ug n m))]⟩)) ->gw (Y X) κ O1 K (m+1) ⟨(.I n::uu 4 (.own X.length g::.I ((m:Int) - 1)::uu 15 [])),X++[.row 5 1 1 g G (aN a)]⟩:=by
 intro m;induction m with
 |zero =>intro a g j p b;simp only[ug,bI]at b;refine az λR c=>?_;have l:decide ((0:Int)<=((0:Nat):Int) - 1)=G:=rfl;simp only[O1,l,VV,Int.reduceBEq,Int.reduceBNe,Nat.reduceAdd,Nat.reduceSub,Nat.reduceLeDiff,Nat.reduceEqDiff,Int.reduceToNat,reduceIte,reduceCtorEq];exact b g ..
 |succ m ih =>
 intro a g j p b;have r:((m+1:Nat):Int) - 1=(m:Int):=by omega
 have k:IntKind.i64.wrap ((m:Int) - 1)=(m:Int) - 1:=IntWalk.i64_in _ (by omega);have e:IntKind.i64.wrap (8*(m:Int))=((8*m:Nat):Int):=by rw[IntWalk.i64_in _ (by omega)];omega
 rw[r];refine az λR c=>?_;have o:min (8*m) IntKind.i64.bits=8*m:=fP (show 8*m<=64 by omega);have f:n.fdiv (2^(8*m))=n / 2^(8*m):=jd _ (amv (by decide));simp only[O1,k,e,o,f,Ea,ak,VV,seval];have q:aN a++[[V.i .u8 ((ll (n / 2^(8*m))).toNat:Int)]]=aN (a++[ll (n / 2^(8*m))]):=by simp[aN]
 have s:Y (aN a)=Y a:=by simp[aN]
 rw[q,s];refine⟨λ_=>⟨by omega,by simp only[maxLen];omega,?_⟩,λh=>by simp at h<;>omega⟩;refine c _ (bX ?_ (ih (a++[ll (n / 2^(8*m))]) (g+1) (by omega) (by simp;omega) ?_));.repeat' constructor
 simpa only[ug,aO,aF,ay]using b
def Ch(b:a<=8)(J:aj):PC κ 174 [.I n,.I a] J (λr c=>r=.own J.length 0/\c=J++[.row 5 1 1 0 G (aN (ug n a))]):=by
 refine aW func174 apl.2 λd f=>aq ?_;have e:IntKind.i64.wrap ((a:Int) - 1)=(a:Int) - 1:=IntWalk.i64_in _ (by omega);simp only[apl,SS,seval];simp only[e,VV,seval];refine cB.wk ((Wk.k9 (k:=5) ajL rfl).trans (Wk.fw ?_)) (cB.kT (a+1) (agL n a [] 0 b (by simpa using b) ?_));.simp only[VV,seval];repeat' constructor
 intro g;simp only[JE];intros;simp only[ay,VV,seval];exact DB 0 d (.inr rfl) rfl rfl rfl (by simp[LC,Ob.gen]) (by simp[Pm.one,mv1,Ob.fresh])
def pF(c:a<=8)(J:aj):bh κ 174 [.I n,.I a] J (.sl 1 (aN (ug n a))) :=PC.closed λb=>PC.fz b (Ch n a c J)
def vn(s:aR)(d:Y s<2^40)(J:aj):bh κ 176 [.s s] J (.sl 1 (aN (fH s))):=by
 refine aW func176 apj.2 λc f=>aq ?_;simp only[apj,SS,seval];simp only[VV,seval];refine al (Ch (Y s:Int) 4 (by decide) _) rfl ?_;simp only[VV,seval];have e:aN (ug (Y s:Int) 4)++aN s=aN (fH s):=by rw[PE];simp[aN,fH]
 have a:Y (aN (ug (Y s:Int) 4))=4:=by rw[PE];simp[aN,gz]
 have b:Y (aN s)=Y s:=by simp[aN]
 rw[e,a,b];refine⟨⟨by omega,by simp only[maxLen];omega⟩,?_⟩;refine iw 0 c (.inr rfl) (by simp only[RS,seval];rfl) rfl ?_ ⟨?_,rfl⟩;.simp[fz,kE,jt,Az]
 simp[fz,kE,Pm.one]
def agI{n:Nat}{J:aj}{K:bL}(s:aR)(f:Y s<2^63):∀(a d:aR),s=d++a ->(a.all (λb=>!kM b)=θ->((fh (.s s) (fj 66 fo)) λk=>K (.exit 0) ⟨k,J⟩))->(a.all (λb=>!kM b)=G->((fj 2 (fh (.b G) (fj 64 fo))) λk=>K .ret ⟨k,J⟩)) ->gw n κ OY K (Y a+1) ⟨(.s s::uu 2 (.I (Y d)::uu 63 [])),J⟩:=by
 intro a;induction a with
 |nil =>intro d g i j;have g:=dL g;subst g;refine az λR l=>?_;simp only[OY,VV,seval];exact⟨λh=>by simp at h,λ_=>i rfl ..⟩
 |cons c a ih =>
 intro d g i j;subst g;have m:kM c=(((((decide ((c.toNat:Int)<32)||decide (126<(c.toNat:Int)))||((c.toNat:Int)==60))||((c.toNat:Int)==62))||((c.toNat:Int)==123))||((c.toNat:Int)==125)):=by clear i j ih f;revert c;exact lq (by decide +kernel)
 refine az λR l=>?_;simp only[OY,VV,seval];rw[<- m];refine⟨λ_=>⟨by simp;omega,λh=>?_,λh=>?_⟩,λh=>by simp at h<;>omega⟩;.exact j (by simp[h]) ..
 have e:(c::a).all (λb=>!kM b)=a.all (λb=>!kM b):=by simp[h]
 rw[e]at i j;refine l _ (bX ?_ (ih (d++[c]) (by simp) i j));rw[da (by simp at f;omega)];simp only[ah,ae,ai];repeat' constructor
def aeo:oA s=(aAa (fM s)&&(decide (Y (fM s)=Y s)||decide (Y (fM s)+1<Y s))):=by
 have e:=pL s 32;by_cases h:0<=Lib.indexByte s 32
 .have a:az2 s 32=(s.take (Lib.indexByte s 32).toNat,s.drop ((Lib.indexByte s 32).toNat+1),θ):=by simp only[az2,aQ h]
  have b:fM s=s.take (Lib.indexByte s 32).toNat:=by simp only[fM,a]
  simp only[oA,a,b];have d:Y (s.take (Lib.indexByte s 32).toNat)=(Lib.indexByte s 32).toNat:=by rw[bj];omega
  have c:Y (s.drop ((Lib.indexByte s 32).toNat+1))=Y s - ((Lib.indexByte s 32).toNat+1):=by simp
  simp only[d,c,k7,ow];congr 1;rw[eD];simp;omega
 have a:az2 s 32=(s,[],G):=by simp only[az2,aw h]
 have b:fM s=s:=by simp only[fM,a]
 simp only[oA,a,b];simp
def vm(s:aR)(J:aj):bh κ 181 [.s s] J (.b (fB s)):=by
 refine aW func181 ape.2 λq i=>aq ?_;have a:=Ld (i 0 _ rfl).1;simp only[ape,SS,seval];simp only[VV,seval];refine⟨λh=>?_,λh=>?_⟩
 .refine bK (.inr rfl) rfl ⟨?_,rfl⟩;have h:¬Y s<=64:=by simp at h;omega
  simp[Pm.one,fB,mz,h]
 have d:Y s<=64:=by simp at h;omega
 refine cB.bX ?_ (Y s+1) (agI s a s [] rfl (λe=>?_) (λe=>?_));.repeat' constructor
 .simp only[JE];intros;simp only[VV,seval];refine al (xF s _) rfl ?_;simp only[VV,seval];refine al (qY (fM s) _) rfl ?_;simp only[VV,seval];have k:Y (fM s)<=Y s:=(BJ s 32).1;have o:IntKind.i64.wrap ((Y (fM s):Int)+1)=(Y (fM s):Int)+1:=IntWalk.i64_in _ (by omega);have n:((Y (fM s):Int)==(Y s:Int))=decide (Y (fM s)=Y s):=by rw[eD];simp;omega
  have j:decide ((Y (fM s):Int)+1<(Y s:Int))=decide (Y (fM s)+1<Y s):=by rw[eD];simp;omega
  rw[o,n,j,<- aeo];have g:oA s=θ->0<Y s:=λh=>by cases s with|nil=>revert h;decide|cons c s=>simp
  refine⟨λh=>?_,?_⟩
  .have h:oA s=θ:=by simpa using h
   have:=g h;rw[IntWalk.i64_in _ (by omega)];omega
  refine bK (.inr rfl) rfl ⟨?_,rfl⟩;cases f:oA s with
  |false=>simp[Pm.one,fB,f]
  |true =>
  have p:=g f;have l:(IntKind.i64.wrap ((Y s:Int) - 1)).toNat=Y s - 1:=by rw[IntWalk.i64_in _ (by omega)];omega
  simp only[Pm.one,aX,bB,l,fB,mz,f,e,dp,dB,d,bt];have m:Y s≠0:=by omega
  simp only[m,gA,fi,bt,dp,V.b.injEq];rw[eD];simp;omega
 simp only[JE];intros;exact bK (.inr rfl) rfl ⟨by simp[Pm.one,fB,e],rfl⟩
def Mw(n:Int):(b&&decide (1<=n)&&decide (n<=999))=!(!b||decide (n<1)||decide (999<n)):=by rw[eD];simp[Wc]
def agY(t:bT X)(g:Y f<2^63):∀(a b:List It),f=b++a ->((a.all λy=>!iK x y)=θ->((fj 114 fo) λo=>K (.exit 1) ⟨o,X++[.box 70 x.azR]⟩))->((a.all λy=>!iK x y)=G->∀c,((fj 4 (fh (.I 7) (fj 109 fo))) λo=>K .ret ⟨o,X++(.box 70 x.azR::c)⟩)) ->gw (Y X) κ Fa K (Y a+1) ⟨(.sl 3 (f.map It.azR)::uu 2 (.ptr X.length 0::uu 75 (.I (Y f)::.I (Y b)::uu 33 []))),X++[.box 70 x.azR]⟩:=by
 intro a;induction a with
 |nil =>intro b d k l;have d:=dL d;subst d;refine az λR i=>?_;simp only[Fa,VV,seval];exact⟨λh=>by simp at h,λ_=>k rfl ..⟩
 |cons y a ih =>
 intro b d k l;subst d;have u:=dD b y (by simp at g;omega);have next:iK x y=G->∀{c:aj} {R:ck} {m:aB},(∀j,gw (Y X) κ Fa K (Y a+1) j->R j) ->
   rk m (.sl 3 ((b++y::a).map It.azR)::uu 2 (.ptr X.length 0::uu 75 (.I (Y (b++y::a))::.I (IntKind.i64.wrap ((Y b:Int)+1))::uu 33 [])))->R ⟨m,X++(.box 70 x.azR::c)⟩:=by
  intro s c R m i r;rw[u]at r;have e:((y::a).all λy=>!iK x y)=a.all λy=>!iK x y:=by simp[s]
  rw[e]at k l;refine i _ (cn [_] c (cj t (by simp only[bF,It.azR,LW];simp)) r ?_ (ih (b++[y]) (by simp) k l));simp only[LW,ae,ai,aG];omega
 refine az λR i=>?_;simp only[Fa,It.azR,VV,seval];refine⟨λ_=>⟨by simp;omega,?_⟩,λh=>by simp at h<;>omega⟩;refine al (CP y _) rfl ?_;simp only[VV,seval];have p:iK x y=(!(!fp y||y.id != x.id)&&(x.azT != 3||y.azT != 2||!(fM y.azX==x.azX))):=rfl;refine⟨λh=>?_,λh=>?_⟩;.refine next (by rw[p,h];rfl) i ?_;repeat' constructor
 refine bV (by simp only[VV,seval]<;>rfl) (λ_=>xF y.azX _) rfl ?_;simp only[VV,seval];refine⟨λq=>?_,λq=>?_⟩
 .have n:iK x y=θ:=by rw[p,h];simpa[bne]using q
  exact l (by simp[n]) _ ..
 have n:iK x y=G:=by rw[p,h];simpa[bne]using q
 refine next n i ?_;repeat' constructor
set_option maxRecDepth 4000 in
def IX(before:List It)(x:It)(J:aj):bh κ 129 [.sl 3 (before.map It.azR),.agg x.azR] J (.I (js before x)):=by
 refine aW func129 apW.2 λd z=>aq ?_;have b:=qP (z 0 _ rfl).1;rw[aa]at b;simp only[apW,SS,seval];have loop:∀{q:aB},cP before.getLast? x=θ->fp x=θ->rk q (.sl 3 (before.map It.azR)::uu 2 (.ptr J.length 0::uu 75 (.I (Y before)::.I ((0:Nat):Int)::uu 33 []))) ->
   cB (Y J) κ (.loop Fa) (HA 1 (abr (G7 (Y J) κ (.seq (.ij [] [⟨some 4,[],.nL (.c (.I 0))⟩]) .ret) (zy κ J.length [.t 4] λr u=>r=.I (js before x)/\u=J)) (zy κ J.length [.t 4] λr u=>r=.I (js before x)/\u=J)))
    ⟨q,J++[.box 70 x.azR]⟩:=by
  intro q w l F;refine cB.bX F (Y before+1) (agY before x d b before [] rfl (λs=>?_) (λs=>?_));.simp only[JE];intros;simp only[VV,seval];refine bA d (.inr rfl) (by simp only[RS,seval];rfl) (by simp[LW]) ⟨?_,rfl⟩;have j:fits before x=θ:=s;simp[Pm.one,js,w,l,j]
  simp only[JE];intros;simp only[VV,seval];refine bA d (.inr rfl) (by simp only[RS,seval];rfl) (by simp[LW]) ⟨?_,rfl⟩;have j:fits before x=G:=s;simp[Pm.one,js,w,l,j]
 have early:fp x=G->js before x=if cP before.getLast? x=G then 1 else 0:=by intro h;simp[js,h]
 by_cases g:x.azT=1
 .have m:fp x=G:=by simp[fp,g]
  rw[early m];rcases gE before with p|⟨i,y,p⟩
  .subst p;have v:decide ((0:Int)<(Y ([]:aB):Int))=G:=rfl;simp only[It.azR,g,ar,v,VV,seval];refine⟨λh=>by simp at h,.I 0,λh=>by simp at h,?_⟩;simp only[VV,seval];refine⟨λh=>?_,λh=>?_⟩ <;>
   .refine bA d (.inr rfl) (by simp only[RS,seval];rfl) (by simp[LW]) ⟨?_,rfl⟩;have a:cP ([]:List It).getLast? x=!(x.azX==[]||x.id != 0):=by simp[cP,g,bne]
    rw[a,h];rfl
  rw[fU]at p;subst p;have C:IntKind.i64.wrap ((Y (i++[y]):Int) - 1)=Y i:=by have:Y (i++[y])<2^63:=b;rw[IntWalk.i64_in _ (by simp at this |-;omega)];simp
  have B:gv (List.map It.azR (i++[y])) i.length 0=some (.I y.azT):=by rw[qK];rfl
  have v:decide ((0:Int)<(Y (List.map It.azR (i++[y])):Int))=θ:=by simp
  have a:cP (i++[y]).getLast? x=!((x.azX==[]||x.id != 0)||y.azT==1):=by simp[cP,g,bne]
  rw[a];simp only[It.azR,g,VV,seval];simp only[v,aa,C,ak,B,VV,seval];refine⟨λ_=>by simp;omega,.I y.azT,λ_=>?_,?_⟩;.rfl
  have E:decide ((0:Int)<(Y (i++[y]):Int))=θ:=by simp
  simp only[E,VV,seval];refine⟨λh=>?_,λh=>?_⟩ <;>
  .refine bA d (.inr rfl) (by simp only[RS,seval];rfl) (by simp[LW]) ⟨?_,rfl⟩;rw[h];rfl
 by_cases o:x.azT=5
 .have m:fp x=G:=by simp[fp,o]
  rw[early m];have a:cP before.getLast? x=!(!aAa x.azX||x.id != 0):=by simp[cP,o,bne]
  rw[a];simp only[It.azR,o,VV,seval];refine al (qY _ _) rfl ?_;simp only[VV,seval];refine⟨λh=>?_,λh=>?_⟩ <;>
  .refine bA d (.inr rfl) (by simp only[RS,seval];rfl) (by simp[LW]) ⟨?_,rfl⟩;rw[h];rfl
 have e:cP before.getLast? x=G->js before x=1:=λh=>by simp[js,h]
 have skip:cP before.getLast? x=θ->fp x=G->js before x=0:=λh A=>by simp[js,h,A]
 by_cases f:x.azT=2\/x.azT=4
 .have l:fp x=θ:=by simp[fp];rcases f with h|h<;>simp[h]
  have a:cP before.getLast? x=!(!fB x.azX||decide (x.id<1)||decide (999<x.id)):=by rw[<- Mw];simp[cP,f,g,o]
  rcases f with k|k;.rw[It.azR,k]at loop;simp only[It.azR,k,VV,seval];refine al (vm _ _) rfl ?_;simp only[VV,seval];refine⟨λh=>?_,λh=>loop (by rw[a,h];rfl) l (by simp only[aa,kC];repeat' constructor)⟩;refine bA d (.inr rfl) (by simp only[RS,seval];rfl) (by simp[LW]) ⟨?_,rfl⟩;rw[e (by rw[a,h];rfl)];rfl
  rw[It.azR,k]at loop;simp only[It.azR,k,VV,seval];refine al (vm _ _) rfl ?_;simp only[VV,seval];refine⟨λh=>?_,λh=>loop (by rw[a,h];rfl) l (by simp only[aa,kC];repeat' constructor)⟩;refine bA d (.inr rfl) (by simp only[RS,seval];rfl) (by simp[LW]) ⟨?_,rfl⟩;rw[e (by rw[a,h];rfl)];rfl
 by_cases n:x.azT=3
 .have l:fp x=θ:=by simp[fp,n]
  have a:cP before.getLast? x=!(!aAa x.azX||decide (x.id<1)||decide (999<x.id)):=by rw[<- Mw];simp[cP,n]
  rw[It.azR,n]at loop;simp only[It.azR,n,VV,seval];refine al (qY _ _) rfl ?_;simp only[VV,seval];refine⟨λh=>?_,λh=>loop (by rw[a,h];rfl) l (by simp only[aa,kC];repeat' constructor)⟩;refine bA d (.inr rfl) (by simp only[RS,seval];rfl) (by simp[LW]) ⟨?_,rfl⟩;rw[e (by rw[a,h];rfl)];rfl
 have n1:(x.azT==1)=G:=by simpa using g
 have n2:(x.azT==2)=G:=by simp;omega
 have n3:(x.azT==3)=G:=by simpa using n
 have n4:(x.azT==4)=G:=by simp;omega
 have D:(x.azT==5)=G:=by simpa using o
 have a:cP before.getLast? x=G:=by simp[cP,g,f,n,o]
 rw[e a];simp only[It.azR,n1,n2,n3,n4,D,VV,seval];exact gm d (by rfl) (by simp[LW])
def akt(n:bT X)(g:Y f<2^63):∀(a b:List It),f=b++a ->(cz b a=0->((fj 30 fo) λk=>K (.exit 0) ⟨k,X⟩))->(cz b a≠0->((fj 2 (fh (.I (cz b a)) (fj 27 fo))) λk=>K .ret ⟨k,X⟩)) ->gw (Y X) κ Xb K (Y a+1) ⟨(.sl 3 (f.map It.azR)::uu 13 (.I (Y f)::.I (Y b)::uu 14 [])),X⟩:=by
 intro a;induction a with
 |nil =>intro b c i d;have c:=dL c;subst c;refine az λR l=>?_;simp only[Xb,VV,seval];exact⟨λh=>by simp at h,λ_=>i rfl ..⟩
 |cons y a ih =>
 intro b c i d;subst c;refine az λR l=>?_;have m:List.take b.length (List.map It.azR (b++y::a))=b.map It.azR:=by simp
 simp only[Xb,It.azR,VV,seval];refine⟨λ_=>?_,λh=>by simp at h;omega⟩;refine⟨by simp;omega,by simp;omega,?_⟩;rw[m];refine al (IX b y _) rfl ?_;simp only[VV,seval];refine⟨λh=>?_,λh=>?_⟩
 .have j:js b y≠0:=by simpa using h
  have e:cz b (y::a)=js b y:=by rw[AG,aQ j]
  rw[e]at d;exact d j ..
 have j:js b y=0:=by simpa using h
 have e:cz b (y::a)=cz (b++[y]) a:=by rw[AG,j];simp
 rw[e]at i d;refine l _ (bX ?_ (ih (b++[y]) (by simp) i d));rw[da (by simp at g;omega)];simp only[ah,ae,ai];repeat' constructor
def w8:bh κ 70 [.sl 3 (f.map It.azR)] J (.I (dq f)):=by
 refine aW func70 p70.2 λd e=>aq ?_;have a:=qP (e 0 _ rfl).1;rw[aa]at a;simp only[p70,SS,seval];simp only[aa,VV,seval];refine bV (by simp only[VV,seval]<;>rfl) (λ_=>RQ f _) rfl ?_;simp only[aa,VV,seval];refine⟨λh=>?_,λh=>?_⟩
 .refine bK (.inr rfl) (by simp only[RS,seval];rfl) ⟨?_,rfl⟩;simp at h;have:512<Y f\/1024<iJ 0 f:=by omega
  simp only[Pm.one,dq,this,aU,aX,bB]
 simp at h;have b:¬(512<Y f\/1024<iJ 0 f):=by omega
 refine cB.bX ?_ (Y f+1) (akt f d a f [] rfl (λc=>?_) (λc=>?_));.simp only[VV,seval];repeat' constructor
 .simp only[JE];intros;simp only[VV,seval];exact bK (.inr rfl) (by simp only[RS,seval];rfl) ⟨by simp only[Pm.one,dq,b,c,bw,aX,bB],rfl⟩
 simp only[JE];intros;simp only[VV,seval];exact bK (.inr rfl) (by simp only[RS,seval];rfl) ⟨by simp only[Pm.one,dq,b,bw,aX,bB],rfl⟩
def agU(d:Int)(s:aR)(g:Y s<2^40):∀(a b t:aR),s=b++a->Y t<=4*Y b ->(((fj 3 (fh (.s (t++a.flatMap ig)) (fj 57 fo))) λj=>K (.exit 1) ⟨j,X++[.box 70 [.I n,.s s,.I d]]⟩)) ->gw (Y X) κ Pc K (Y a+1) ⟨(uu 1 (.ptr X.length 0::uu 1 (.s t::.I (Y b)::uu 56 []))),X++[.box 70 [.I n,.s s,.I d]]⟩:=by
 intro a;induction a with
 |nil =>intro b t e k f;have e:=dL e;subst e;rw[mP,bI]at f;refine az λR i=>?_;simp only[Pc,VV,seval];exact⟨λh=>by simp at h,λ_=>f ..⟩
 |cons c a ih =>
 intro b t e k f;subst e;rw[fK,<- List.append_assoc]at f;have m:Y b+Y a+1<2^40:=by simp at g;omega
 have l:=Mf c;refine az λR i=>?_;simp only[Pc,VV,seval];refine⟨λ_=>⟨by simp;omega,?_⟩,λh=>by simp at h<;>omega⟩;refine al (DP c _) rfl ?_;simp only[VV,seval];refine⟨by simp only[maxLen];omega,?_⟩;refine i _ (bX ?_ (ih (b++[c]) (t++ig c) (by simp) (by simp;omega) f));rw[da (by omega)];simp only[ah,ae,ai];repeat' constructor
def On(f:1<=x.azT/\x.azT<=5)(e:0<=x.id/\x.id<2^62)(a:Y x.azX<2^40)(J:aj):bh κ 136 [.agg x.azR] J (.s (dP x)):=by
 refine aW func136 apQ.2 λb m=>aq ?_;obtain⟨k,t,d⟩:=x;simp only at f e a;obtain⟨n,rfl⟩:∃n:Nat,d=n:=⟨d.toNat,by omega⟩;have o:=Lib.itoa_length_le (n:Int) (by omega) (by omega);have c:=DQ n (by omega) (J++[.box 70 [.I k,.s t,.I n]]);simp only[apQ,SS,seval];by_cases g:k=1
 .subst g;simp only[It.azR,VV,seval];refine cB.bX ?_ (Y t+1) (agU 1 n t a t [] [] rfl (aM _) ?_);.simp only[ai,kC];repeat' constructor
  simp only[JE];intros;simp only[ay,VV,seval];exact bA b (.inr rfl) (by simp only[RS,seval];rfl) (by simp[LW]) ⟨by simp[Pm.one,dP],rfl⟩
 by_cases j:k=2;.subst j;simp only[It.azR,VV,seval];refine al c rfl ?_;simp only[VV,seval];refine⟨by simp only[maxLen];omega,by simp only[maxLen];omega,by simp only[maxLen,ah,ae,ai];omega,by simp only[maxLen,ah,ae,ai];omega,?_⟩;exact bA b (.inr rfl) (by simp only[RS,seval];rfl) (by simp[LW]) ⟨by simp[Pm.one,dP],rfl⟩
 by_cases h:k=3;.subst h;simp only[It.azR,VV,seval];refine al c rfl ?_;simp only[VV,seval];refine⟨by simp only[maxLen];omega,by simp only[maxLen];omega,by simp only[maxLen,ah,ae,ai];omega,by simp only[maxLen,ah,ae,ai];omega,?_⟩;exact bA b (.inr rfl) (by simp only[RS,seval];rfl) (by simp[LW]) ⟨by simp[Pm.one,dP],rfl⟩
 by_cases l:k=4;.subst l;simp only[It.azR,VV,seval];refine al c rfl ?_;simp only[VV,seval];refine⟨by simp only[maxLen];omega,by simp only[maxLen];omega,by simp only[maxLen,ah,ae,ai];omega,by simp only[maxLen,ah,ae,ai];omega,?_⟩;exact bA b (.inr rfl) (by simp only[RS,seval];rfl) (by simp[LW]) ⟨by simp[Pm.one,dP],rfl⟩
 have i:k=5:=by omega
 subst i;simp only[It.azR,VV,seval];refine⟨by simp only[maxLen];omega,by simp only[maxLen];omega,?_⟩;exact bA b (.inr rfl) (by simp only[RS,seval];rfl) (by simp[LW]) ⟨by simp[Pm.one,dP],rfl⟩
def ako(k:Y f<=512)(l:∀x∈f,(1<=x.azT/\x.azT<=5)/\(0<=x.id/\x.id<2^62)/\Y x.azX<=2^30/\Y (dP x)<2^33):∀(a b:List It) (s:aR),f=b++a->Y s<=2^33*Y b ->(((fj 5 (fh (.s (s++a.flatMap dP)) (fj 20 fo))) λi=>K (.exit 0) ⟨i,X⟩)) ->gw (Y X) κ W6 K (Y a+1) ⟨(.sl 3 (f.map It.azR)::uu 4 (.s s::uu 7 (.I (Y f)::.I (Y b)::uu 11 []))),X⟩:=by
 intro a;induction a with
 |nil =>intro b s c m d;have c:=dL c;subst c;rw[mP,bI]at d;refine az λR g=>?_;simp only[W6,VV,seval];exact⟨λh=>by simp at h,λ_=>d ..⟩
 |cons x a ih =>
 intro b s c m d;subst c;rw[fK,<- List.append_assoc]at d;obtain⟨j,e,o,n⟩:=l x (by simp);have p:Y b+Y a+1<=512:=by simp at k;omega
 refine az λR g=>?_;simp only[W6,It.azR,VV,seval];refine⟨λ_=>⟨by simp;omega,?_⟩,λh=>by simp at h<;>omega⟩;refine al (On x j e (by omega) _) rfl ?_;simp only[VV,seval];refine⟨by simp only[maxLen];omega,?_⟩;refine g _ (bX ?_ (ih (b++[x]) (s++dP x) (by simp) (by simp;omega) d));rw[da (by omega)];simp only[ah,ae,ai];repeat' constructor
def QU(j:bo T<2^30)(h:dq T=0):Y T<=512/\∀x∈T,(1<=x.azT/\x.azT<=5)/\(0<=x.id/\x.id<2^62)/\Y x.azX<=2^30/\Y (dP x)<2^33:=by
 have f:=zh h;simp only[dq]at h;split at h;.simp at h
 rename_i i;refine⟨by omega,λx b=>?_⟩;have a:=oR T [] h x b;have c:∀T:List It,x∈T->Y x.azX<=bo T:=by
  intro T;induction T with
  |nil=>simp
  |cons y T ih =>
  intro e;simp only[bo];rcases bd.1 e with rfl|e;.omega
  have:=ih e;omega
 have k:=c T b;have d:0<=x.id/\x.id<2^62:=by
  simp only[cP]at a;split at a;.simp at a;omega
  split at a;.simp at a;omega
  split at a;.simp at a;omega
  split at a;.simp at a;omega
  simp at a
 have g:=uJ x (by omega);exact⟨f x b,d,by omega,by omega⟩
def Gf(a:bo f<2^30)(J:aj):bh κ 77 [.sl 3 (f.map It.azR)] J (.jg [.s (aAh f).1,.I (aAh f).2]):=by
 refine aW func77 p77.2 λe d=>aq ?_;simp only[p77,SS,seval];simp only[VV,seval];refine al (w8 f _) rfl ?_;simp only[aa,VV,seval];refine⟨λh=>?_,λh=>?_⟩
 .have h:dq f≠0:=by simpa using h
  refine bK (.inr rfl) (by simp only[RS,seval];rfl) ⟨?_,rfl⟩;simp only[aAh,aQ h];rfl
 have h:dq f=0:=by simpa using h
 obtain⟨b,c⟩:=QU a h;refine cB.bX ?_ (Y f+1) (ako f b c f [] [] rfl (jK _) ?_);.simp only[ai,kC];repeat' constructor
 simp only[JE];intros;simp only[ay,VV,seval];refine bK (.inr rfl) (by simp only[RS,seval];rfl) ⟨?_,rfl⟩;simp[aAh,h,Pm.one]
def Am(c:Y f<2^30)(b:bo f<2^30)(a:∀x∈f,-9223372036854775808<=x.id/\x.id<=9223372036854775807)(J:aj):bh κ 175 [.sl 3 (f.map It.azR)] J (.sl 1 (aN (fH (aAh f).1))):=by refine aW func175 apk.2 λd e=>aq ?_;have g:=qH f c b a;simp only[apk,SS,seval];simp only[VV,seval];refine al (Gf f b _) rfl ?_;simp only[VV,seval];refine al (vn (aAh f).1 (by omega) _) rfl ?_;simp only[VV,seval];exact bK (.inr rfl) (by simp only[RS,seval];rfl) ⟨rfl,rfl⟩
def aqs:((c.toNat:Int) != 62)=(c != 62):=by revert c;exact lq (by decide +kernel)
def ain:(decide (48<=(c.toNat:Int))&&decide ((c.toNat:Int)<=57))=gC c:=by revert c;exact lq (by decide +kernel)
def aej{c:UInt8}(a:∀c∈t,gC c=θ)(d:Y t<=4)(b:gC c=θ): IntKind.i64.wrap (IntKind.i64.wrap (10*gH 0 t)+IntKind.i64.wrap (IntKind.u8.wrap ((c.toNat:Int) - 48)))=gH 0 (t++[c]):=by
 have h:=KB t 0 t.length rfl (df.2 a) (mi 0);have g:(10:Int)^Y t<=10^4:=by
  have:Y t=0\/Y t=1\/Y t=2\/Y t=3\/Y t=4:=by omega
  rcases this with h|h|h|h|h<;>rw[h]<;>decide
 simp only[gC,aZ,bE]at b;have e:IntKind.u8.wrap ((c.toNat:Int) - 48)=(c.toNat:Int) - 48:=IntWalk.u8_in _ (by omega);have f:gH 0 t<10000:=by omega
 rw[e,IntWalk.i64_in (10*gH 0 t) (by omega),IntWalk.i64_in ((c.toNat:Int) - 48) (by omega),IntWalk.i64_in _ (by omega)];simp[gH]
def T9{a:aR}(b:∀c∈t,gC c=θ):Y ((t++a).takeWhile gC)=Y t+Y (a.takeWhile gC):=by rw[List.takeWhile_append_of_pos b,ah]
set_option maxRecDepth 4000 in
def Zn(A:V)(s:aR)(f:Y s<2^62):∀(a b:aR),s=b++a ->(((fh (.s s) (fj 1 (fh (A) (fj 1 (fh (.I ((Y b+Y (a.takeWhile λc=>c != 62):Nat):Int)) (fj 134 fo)))))) λm=>K (.exit 0) ⟨m,X⟩)) ->gw U κ OV K (Y a+1) ⟨(.s s::uu 1 (A::uu 1 (.I (Y b)::uu 134 []))),X⟩:=by
 intro a;induction a with
 |nil =>
  intro b e d;have e:=dL e;subst e;have i:decide ((Y s:Int)<(Y s:Int))=G:=by simp
  simp only[List.takeWhile_nil,ai,cu]at d;refine az λR l=>?_;simp only[OV,i,VV,seval];exact⟨λh=>by simp at h,d ..⟩
 |cons c a ih =>
 intro b e d;subst e;have i:decide ((Y b:Int)<(Y (b++c::a):Int))=θ:=by simp;omega
 refine az λR l=>?_;simp only[OV,i,VV,seval];refine⟨by simp;omega,λj=>?_,λj=>?_⟩
 .have k:(c != 62)=θ:=by rw[<- aqs];exact j
  have g:Y b+Y ((c::a).takeWhile λc=>c != 62)=Y (b++[c])+Y (a.takeWhile λc=>c != 62):=by rw[ft,aQ k];simp;omega
  rw[g]at d;refine l _ (bX ?_ (ih (b++[c]) (by simp) d));rw[da (by simp at f;omega)];simp only[ah,ae,ai];repeat' constructor
 have k:¬(c != 62)=θ:=by rw[<- aqs,j];simp
 have g:Y b+Y ((c::a).takeWhile λc=>c != 62)=Y b:=by rw[ft,aw k];simp
 rw[g]at d;exact d ..
set_option maxRecDepth 4000 in
def Zm(A B C:V)(t:aR)(q:Y t<2^62):∀(m:Nat) (a b:aR),t=a++b->Y a+m=4->(∀c∈a,gC c=θ) ->(∀k:Nat,k=min 4 (Y (t.takeWhile gC))->((fj 2 (fh (A) (fj 1 (fh (B) (fh (.s t) (fh (C) (fh (.I (gH 0 (t.take k))) (fh (.I k) (fj 130 fo))))))))) λr=>K (.exit 2) ⟨r,X⟩)) ->gw U κ Je K (m+1) ⟨(uu 2 (A::uu 1 (B::.s t::C::.I (gH 0 a)::.I (Y a)::uu 130 []))),X⟩:=by
 intro m;induction m with
 |zero =>
  intro a b l u f d;subst l;have g:decide ((Y a:Int)<4)=G:=by simp;omega
  refine az λR p=>?_;simp only[Je,g,VV,seval];have:=d a.length (by rw[T9 f];omega);rw[pZ]at this;exact⟨λh=>by simp at h,λh=>by simp at h,this ..⟩
 |succ m ih =>
 intro a b l u f d;subst l;have g:decide ((Y a:Int)<4)=θ:=by simp;omega
 cases b with
 |nil =>
  have o:decide ((Y a:Int)<(Y a:Int))=G:=by simp
  have n:=d a.length (by rw[T9 f];simp;omega);rw[pZ]at n;clear d ih;simp only[bI]at n |-;refine az λR p=>?_;simp only[Je,o,g,VV,seval];exact⟨λh=>by simp at h,λh=>by simp at h,n ..⟩
 |cons c b =>
 have o:decide ((Y a:Int)<(Y (a++c::b):Int))=θ:=by simp;omega
 refine az λR p=>?_;simp only[Je,o,g,VV,seval];have j:(0:Int)<=(Y a:Int)/\(Y a:Int)<(Y (a++c::b):Int):=by simp;omega
 rw[ain];refine⟨j,λ_=>j,λi=>⟨j,?_⟩,λi=>?_⟩
 .rw[aej f (by omega) i];refine p _ (bX ?_ (ih (a++[c]) b (by simp) (by simp;omega) (by
   intro x e;rcases bW.1 e with e|e;.exact f x e
   simp only[bd,bD,mZ]at e;subst e;exact i) d));rw[da (by omega)];simp only[ah,ae,ai];repeat' constructor
 have:=d a.length (by rw[T9 f,ft,aw (by rw[i];simp)];simp;omega);rw[pZ]at this;exact this ..
def ac7(c:UInt8):∀l:aR,Lib.indexByte l c=if(l.takeWhile λx=>x != c).length<Y l then(Y (l.takeWhile λx=>x != c):Int)else -1
 |[]=>by simp[Lib.indexByte]
 |a::l=>by
  by_cases d:a=c;.subst d;simp[Lib.indexByte]
  have g:(a==c)=G:=by simpa using d
  have f:(a != c)=θ:=by simpa using d
  have ih:=ac7 c l;simp only[Lib.indexByte,g,aP,bw,ft,f,aU,ae];generalize (Y (l.takeWhile λx=>x != c))=b at ih;by_cases h:b<Y l
  .rw[aQ h]at ih;have e:((b:Int) == -1)=G:=by rw[gN];omega
   rw[ih,aQ (show b+1<Y l+1 by omega),e];rfl
  rw[aw h]at ih;rw[ih,aw (show ¬b+1<Y l+1 by omega)];rfl
def Ut:oa (60::s)=if(s.takeWhile λx=>x != 62).length<Y s then
  (if(N8 (s.take (Y (s.takeWhile λx=>x != 62)))).2=θ then((N8 (s.take (Y (s.takeWhile λx=>x != 62)))).1,(Y (s.takeWhile λx=>x != 62):Int)+2)else(sv,0))else(sv,0):=by
 have a:=ac7 62 (60::s);simp only[ft,show((60:UInt8) != 62)=θ from rfl,aU,ae]at a;rw[YG rfl];by_cases h:Y (s.takeWhile λx=>x != 62)<Y s
 .rw[aQ (by omega)]at a;rw[a,aQ h,aw (by omega)];have e:((60::s).take ((Y (s.takeWhile λx=>x != 62)+1:Nat):Int).toNat).drop 1=s.take (Y (s.takeWhile λx=>x != 62)):=by rw[ak,fe];rfl
  rw[e];congr 2
 rw[aw (by omega)]at a;rw[a,aw h,aQ (by decide)]
def u47:((c.toNat:Int)==47)=(c==47):=by revert c;exact lq (by decide +kernel)
def u48:((c.toNat:Int)==48)=(c==48):=by revert c;exact lq (by decide +kernel)
def u58:((c.toNat:Int) != 58)=(c != 58):=by revert c;exact lq (by decide +kernel)
def an7(h:t≠[]):aAj t [47]=(((t.getD 0 0).toNat:Int)==47):=by cases t with|nil=>exact absurd rfl h|cons a t=>rw[u47];simp[aAj]
def am5(h:t≠[]):aAm t [47]=(((t.getD (Y t - 1) 0).toNat:Int)==47):=by
 rcases gE t with b|⟨c,a,b⟩;.exact absurd b h
 rw[fU]at b;subst b;rw[u47,rY];simp[aA]
set_option maxRecDepth 8000 in
def Om(s:aR)(h0:s.getD 0 0=60)(n:Y s<2^62)(J:aj):bh κ 186 [.s s] J (.jg [.agg (oa s).1.azR,.I (oa s).2]):=by
 obtain⟨d,rfl⟩:∃d,s=60::d:=by cases s with|nil=>simp at h0|cons a r=>simp only[aX]at h0;exact⟨r,by rw[h0]⟩
 refine aW func186 apa.2 λy dQ=>?_;simp only[apa,SS,seval];refine cB.cut λR g=>?_;simp only[VV,seval];refine g _ (cB.fw (fr':=(.s (60::d)::uu 1 (.ptr J.length 0::uu 136 []))) ?_ (by repeat' constructor));clear g R;refine cB.cut λR g=>?_;simp only[VV,seval];refine g _ (cB.fw (fr':=(.s (60::d)::uu 1 (.ptr J.length 0::uu 1 (.I ((1:Nat):Int)::uu 134 [])))) ?_ (by repeat' constructor));clear g R;refine cB.cut λR g=>?_;simp only[VV,seval];have p:=Ut d;refine cB.bX ?_ (Y d+1) (Zn (.ptr J.length 0) (60::d) n d [60] rfl ?_);.simp only[ae,ai];repeat' constructor
 generalize Q:Y (d.takeWhile λx=>x != 62)=e at p;have V:e<=Y d:=by rw[<- Q];exact(List.takeWhile_prefix _).length_le
 simp only[JE];intros;simp only[ae,ai,aG,VV,seval];refine g _ (cB.fw (fr':=(.s (60::d)::uu 1 (.ptr J.length 0::uu 1 (.I ((1+e:Nat):Int)::uu 134 [])))) ?_ (by repeat' constructor));clear g R;refine cB.cut λR g=>?_;simp only[ae,VV,seval];refine⟨λh=>?_,λh=>?_⟩
 .have h:¬e<Y d:=by simp at h;omega
  rw[aw h]at p;refine bA y (.inr rfl) (by simp only[RS,seval];rfl) (by simp[LW]) ⟨?_,rfl⟩;rw[p];rfl
 have h:e<Y d:=by simp at h;omega
 rw[aQ h]at p;refine g _ (cB.fw (fr':=(.s (60::d)::uu 1 (.ptr J.length 0::uu 1 (.I ((1+e:Nat):Int)::uu 134 [])))) ?_ (by repeat' constructor));clear g R;generalize C:d.take e=t at p;have M:Y t<2^62:=by rw[<- C,bj];simp at n;omega
 refine cB.cut λR g=>?_;simp only[ae,VV,seval];refine⟨by omega,?_⟩;have W:List.take (1+e - 1) d=t:=by rw[<- C];congr 1;omega
 rw[W];refine g _ (cB.fw (fr':=(uu 2 (.ptr J.length 0::uu 1 (.I ((1+e:Nat):Int)::.s t::.I 2::uu 132 [])))) ?_ (by repeat' constructor));clear g R;refine cB.cut λR g=>?_;have l:∀(f:Int) (u:aR),Y u<2^62->oa (60::d)=(if(Ac f u).2=θ then((Ac f u).1,(e:Int)+2)else(sv,0))->(f=2\/f=3\/f=4) ->
   ∀{q:aB},rk q (uu 2 (.ptr J.length 0::uu 1 (.I ((1+e:Nat):Int)::.s u::.I f::uu 132 [])))->R ⟨q,J++[.box 70 [.I 0,.s [],.I 0]]⟩:=by
  intro f u X m N q D;refine g _ (cB.fw ?_ D);clear g R;refine cB.cut λR g=>?_;simp only[VV,seval];refine g _ (cB.fw (fr':=(uu 2 (.ptr J.length 0::uu 1 (.I ((1+e:Nat):Int)::.s u::.I f::.I (gH 0 [])::.I (Y ([]:aR):Nat)::uu 130 [])))) ?_ (by repeat' constructor));clear g R;refine cB.cut λR g=>?_;simp only[VV,seval];refine cB.bX ?_ 5 (Zm (.ptr J.length 0) (.I ((1+e:Nat):Int)) (.I f) u X 4 [] u rfl rfl (by simp) ?_);.repeat' constructor
  intro k F;simp only[JE];intros;simp only[VV,seval];refine g _ (cB.fw (fr':=(uu 2 (.ptr J.length 0::uu 1 (.I ((1+e:Nat):Int)::.s u::.I f::.I (gH 0 (u.take k))::.I k::uu 130 [])))) ?_ (by repeat' constructor));clear g R;have j:Ac f u=if k=0\/Y u<=k\/u.getD 0 0=48\/999<gH 0 (u.take k)\/u.getD k 0≠58 then(sv,G)else
    if(f=3/\aAa (u.drop (k+1))=G)\/(f≠3/\fB (u.drop (k+1))=G)then(sv,G)else(⟨f,u.drop (k+1),gH 0 (u.take k)⟩,θ):=by rw[F];rfl
  refine cB.cut λR g=>?_;simp only[ak,VV,seval];have H:(((((k:Int)==0||decide ((Y u:Int)<=(k:Int)))||((u.getD 0 0).toNat:Int)==48)||decide (999<gH 0 (u.take k)))||((u.getD k 0).toNat:Int) != 58)=decide (k=0\/Y u<=k\/u.getD 0 0=48\/999<gH 0 (u.take k)\/u.getD k 0≠58):=by rw[u48,u58,eD];simp[or_assoc]
  rw[H];refine⟨λh=>by simp at h;omega,λh=>by simp at h;omega,λh=>?_,λh=>?_⟩;.rw[aQ (by simpa using h)]at j;refine bA y (.inr rfl) (by simp only[RS,seval];rfl) (by simp[LW]) ⟨?_,rfl⟩;rw[m,j];rfl
  have h:=qM h;rw[aw h]at j;simp only[Bb]at h;refine g _ (cB.fw (fr':=(uu 2 (.ptr J.length 0::uu 1 (.I ((1+e:Nat):Int)::.s u::.I f::.I (gH 0 (u.take k))::.I k::uu 130 [])))) ?_ (by repeat' constructor));clear g R;have T:IntKind.i64.wrap ((k:Int)+1)=((k+1:Nat):Int):=by rw[IntWalk.i64_in _ (by omega)];omega
  refine cB.cut λR g=>?_;simp only[T,ak,VV,seval];have E:List.take (Y u - (k+1)) (List.drop (k+1) u)=u.drop (k+1):=cx (by simp);rw[E];refine⟨by omega,?_⟩;refine g _ (cB.fw (fr':=(uu 2 (.ptr J.length 0::uu 1 (.I ((1+e:Nat):Int)::uu 1 (.I f::uu 2 (.ptr (Y J+1) 0::uu 129 [])))))) ?_ (by repeat' constructor));clear g R;have B:IntKind.i64.wrap (((1+e:Nat):Int)+1)=(e:Int)+2:=by rw[IntWalk.i64_in _ (by simp at n;omega)];omega
  refine cB.cut λR g=>?_;have z:∀{q:aB},oa (60::d)=(⟨f,u.drop (k+1),gH 0 (u.take k)⟩,(e:Int)+2)->rk q (uu 2 (.ptr J.length 0::uu 1 (.I ((1+e:Nat):Int)::uu 4 (.ptr (Y J+1) 0::uu 129 [])))) ->
    R ⟨q,J++[.box 70 [.I 0,.s [],.I 0],.box 70 [.I f,.s (u.drop (k+1)),.I (gH 0 (u.take k))]]⟩:=by intro q K D;refine g _ (cB.fw ?_ D);clear g R;refine aq ?_;simp only[B,VV,seval];refine bA y (.inr rfl) (by simp only[RS,seval];rfl) (by simp[LW]) ⟨?_,rfl⟩;rw[K];rfl
  by_cases w:f=3
  .subst w;simp only[VV,seval];refine bV (by simp only[VV,seval]<;>rfl) (λ_=>qY _ _) rfl ?_;simp only[VV,seval];refine bV (c:=G) (v:=.b G) (by simp only[VV,seval]<;>simp) (λh=>by simp at h) rfl ?_;simp only[VV,seval];refine⟨λi=>?_,λi=>?_⟩
   .have i:aAa (u.drop (k+1))=G:=by rw[dG]at i;exact i
    rw[aQ (.inl ⟨rfl,i⟩)]at j;refine bA y (.inr rfl) (by simp only[RS,seval];rfl) (by simp[LW]) ⟨?_,rfl⟩;rw[m,j];rfl
   have i:aAa (u.drop (k+1))=θ:=by rw[eP]at i;exact i
   rw[aw (by simp only[i];simp)]at j;exact z (by rw[m,j];rfl) (by repeat' constructor)
  have n3:(f==3)=G:=by simpa using w
  have A:(f != 3)=θ:=by simpa using w
  simp only[n3,A,VV,seval];refine bV (c:=G) (v:=.b G) (by simp only[VV,seval]<;>rfl) (λh=>by simp at h) rfl ?_;simp only[n3,A,VV,seval];refine bV (by simp only[VV,seval]<;>rfl) (λ_=>vm _ _) rfl ?_;simp only[VV,seval];refine⟨λi=>?_,λi=>?_⟩
  .have i:fB (u.drop (k+1))=G:=by rw[dG]at i;exact i
   rw[aQ (.inr ⟨w,i⟩)]at j;refine bA y (.inr rfl) (by simp only[RS,seval];rfl) (by simp[LW]) ⟨?_,rfl⟩;rw[m,j];rfl
  have i:fB (u.drop (k+1))=θ:=by rw[eP]at i;exact i
  rw[aw (by simp only[i,w];simp)]at j;exact z (by rw[m,j];rfl) (by repeat' constructor)
 simp only[VV,seval];have L:Y t<=Y d:=by rw[<- C,bj];omega
 by_cases o:t=[]
 .subst o;refine⟨λh=>by simp at h,λh=>by simp at h,λ_=>⟨λh=>by simp at h,λh=>by simp at h,λ_=>l 2 [] (by simp) ?_ (.inl rfl) ?_⟩⟩;.exact p
  repeat' constructor
 have P7:0<Y t:=fJ.2 o;have O:IntKind.i64.wrap ((Y t:Int) - 1)=((Y t - 1:Nat):Int):=by rw[IntWalk.i64_in _ (by omega)];omega
 have U:decide ((0:Int)<(Y t:Int))=θ:=by simp;omega
 have P:List.take (Y t - 1) (List.drop 1 t)=t.drop 1:=cx (by simp);simp only[O,U,P,ak,dp,<- an7 o,<- am5 o];refine⟨λ_=>by omega,λh=>⟨by omega,l 3 (t.drop 1) (by simp;omega) ?_ (.inr (.inl rfl)) ?_⟩,λh=>⟨λ_=>by omega,λi=>⟨by omega,l 4 (t.take (Y t - 1)) (by simp;omega) ?_ (.inr (.inr rfl)) ?_⟩,λi=>l 2 t M ?_ (.inl rfl) ?_⟩⟩;.rw[p];simp only[N8,h,aU]
 .repeat' constructor
 .rw[p];simp only[N8,h,i,aP,bw,aU]
 .repeat' constructor
 .rw[p];simp only[N8,h,i,aP,bw]
 repeat' constructor
def N1:Prop:=s.getD a 0=125/\aAa ((s.take a).drop 1)=θ
def asW:((c.toNat:Int)==125)=(c==125):=by revert c;exact lq (by decide +kernel)
def Zt{J:aj}{K:bL}(s:aR)(u:Y s<2^62):∀(m k:Nat),k+m=26->1<=k->(∀j,1<=j->j<k->j<Y s->¬N1 s j) ->((∀j,1<=j->j<Y s->j<=25->¬N1 s j)->((fj 2 (fh (.ptr J.length 0) (fj 71 fo))) λi=>K (.exit 1) ⟨i,J++[.box 70 [.I 0,.s [],.I 0]]⟩)) ->(∀k:Nat,1<=k->k<Y s->N1 s k->((fj 2 (fh (.ptr J.length 0) (fh (.I ((k+1:Nat):Int)) (fj 70 fo)))) λi=>K .ret ⟨i,J++[.box 70 [.I 5,.s ((s.take k).drop 1),.I 0]]⟩)) ->gw (Y J) κ Jk K (m+1) ⟨(.s s::uu 1 (.ptr J.length 0::uu 1 (.I k::uu 69 []))),J++[.box 70 [.I 0,.s [],.I 0]]⟩:=by
 intro m;induction m with
 |zero =>
  intro k v r c d n;have f:decide ((k:Int)<=25)=G:=by simp;omega
  refine az λR p=>?_;simp only[Jk,f,eV,VV,seval];exact d (λj a e g=>c j a (by omega) e) ..
 |succ m ih =>
 intro k v r c d n;have f:decide ((k:Int)<=25)=θ:=by simp;omega
 have q:IntKind.i64.wrap ((k:Int)+1)=((k+1:Nat):Int):=by rw[IntWalk.i64_in _ (by omega)];omega
 by_cases l:k<Y s
 .have o:decide ((k:Int)<(Y s:Int))=θ:=by simp;omega
  refine az λR p=>?_;have b:List.take (k - 1) (List.drop 1 s)=(s.take k).drop 1:=by rw[amt]
  simp only[Jk,o,f,q,ak,b,VV,seval];refine⟨by omega,λ_=>by omega,bV (by simp only[VV,seval]<;>rfl) (λ_=>qY _ _) rfl ?_⟩;simp only[q,b,asW,ak,VV,seval];refine⟨λh=>⟨by omega,?_⟩,λh=>?_⟩;.exact n k r l (by simpa[N1]using h) ..
  refine p _ (bX ?_ (ih (k+1) (by omega) (by omega) (λj a e g=>?_) d n));.repeat' constructor
  by_cases w:j=k;.subst w;intro t;rw[t.1,t.2]at h;simp at h
  exact c j a (by omega) g
 have o:decide ((k:Int)<(Y s:Int))=G:=by simp;omega
 refine az λR p=>?_;simp only[Jk,o,f,q,ak,VV,seval];exact d (λj a e g=>c j a (by omega) e) ..
def Zs{J:aj}{K:bL}(s:aR)(n:Y s<2^62):∀(m c:Nat),c+m=256->(∀j,j<c->aAj s (ig (UInt8.ofNat j))=G) ->((∀j,j<256->aAj s (ig (UInt8.ofNat j))=G)->((fj 2 (fh (.ptr J.length 0) (fj 71 fo))) λa=>K (.exit 3) ⟨a,J++[.box 70 [.I 0,.s [],.I 0]]⟩)) ->(∀b:UInt8,aAj s (ig b)=θ->((fj 2 (fh (.ptr J.length 0) (fh (.I (Y (ig b))) (fj 70 fo)))) λa=>K .ret ⟨a,J++[.box 70 [.I 1,.s [b],.I 0]]⟩)) ->gw (Y J) κ Pd K (m+1) ⟨(.s s::uu 1 (.ptr J.length 0::uu 2 (.I c::uu 68 []))),J++[.box 70 [.I 0,.s [],.I 0]]⟩:=by
 intro m;induction m with
 |zero =>
  intro c i f e d;have i:c=256:=by omega
  subst i;refine az λR o=>?_;simp only[Pd,VV,seval];exact⟨λh=>by simp at h,λ_=>e f ..⟩
 |succ m ih =>
 intro c i f e d;have l:IntKind.i64.wrap ((c:Int)+1)=((c+1:Nat):Int):=by rw[IntWalk.i64_in _ (by omega)];omega
 have k:IntKind.u8.wrap (c:Int)=((UInt8.ofNat c).toNat:Int):=by rw[IntWalk.u8_in _ (by omega)];simp;omega
 have q:decide ((c:Int)<256)=θ:=by simp;omega
 refine az λR o=>?_;simp only[Pd,q,k,l,VV,seval];refine al (DP (UInt8.ofNat c) _) rfl ?_;simp only[k,l,ak,VV,seval];have p:(decide ((Y (ig (UInt8.ofNat c)):Int)<=(Y s:Int))&&List.take (ig (UInt8.ofNat c)).length s==ig (UInt8.ofNat c))=aAj s (ig (UInt8.ofNat c)):=by simp only[aAj,aaK]
 rw[p];refine⟨λh=>by simp at h;omega,λh=>d _ h ..,λh=>?_⟩;refine o _ (bX ?_ (ih (c+1) (by omega) (λj r=>?_) e d));.repeat' constructor
 by_cases g:j=c;.subst g;exact h
 exact f j (by omega)
def YT(s:aR)(q:s≠[])(e:Y s<2^62)(J:aj):bh κ 133 [.s s] J (.jg [.agg (oa s).1.azR,.I (oa s).2]):=by
 refine aW func133 apS.2 λi v=>aq ?_;have x:0<Y s:=fJ.2 q;have d:(((s.getD 0 0).toNat:Int)==123)=(s.getD 0 0==123):=by generalize s.getD 0 0=a;revert a;exact lq (by decide +kernel)
 have l:(((s.getD 0 0).toNat:Int)==60)=(s.getD 0 0==60):=by generalize s.getD 0 0=a;revert a;exact lq (by decide +kernel)
 have g:(0:Int)<=0/\(0:Int)<(Y s:Int):=by omega
 simp only[apS,SS,seval];by_cases h:s.getD 0 0=123
 .have m:(s.getD 0 0==123)=θ:=by simpa using h
  simp only[d,m,VV,Int.reduceBEq,Int.reduceBNe,Nat.reduceAdd,Nat.reduceSub,Nat.reduceLeDiff,Nat.reduceEqDiff,Int.reduceToNat,reduceIte,reduceCtorEq];refine⟨g,?_⟩;refine cB.bX ?_ 26 (Zt s e 25 1 rfl (aM _) (λj w y=>by omega) (λo=>?_) (λk r u p=>?_));.simp only[Int.natCast_one];repeat' constructor
  .simp only[JE];intros;simp only[VV,seval];refine bA i (.inr rfl) (by simp only[RS,seval];rfl) (by simp[LW]) ⟨?_,rfl⟩;rw[N9 h o];rfl
  simp only[JE];intros;simp only[VV,seval];refine bA i (.inr rfl) (by simp only[RS,seval];rfl) (by simp[LW]) ⟨?_,rfl⟩;rw[Us h r u p.1 p.2];rfl
 have m:(s.getD 0 0==123)=G:=by simpa using h
 by_cases f:s.getD 0 0=60
 .have n:(s.getD 0 0==60)=θ:=by simpa using f
  simp only[d,l,m,n,VV,Int.reduceBEq,Int.reduceBNe,Nat.reduceAdd,Nat.reduceSub,Nat.reduceLeDiff,Nat.reduceEqDiff,Int.reduceToNat,reduceIte,reduceCtorEq];refine⟨g,g,?_⟩;refine al (Om s f e _) rfl ?_;simp only[It.azR,VV,seval];refine bA i (.inr rfl) (by simp only[RS,seval];rfl) (by simp[LW]) ⟨?_,rfl⟩;rfl
 have n:(s.getD 0 0==60)=G:=by simpa using f
 simp only[d,l,m,n,VV,Int.reduceBEq,Int.reduceBNe,Nat.reduceAdd,Nat.reduceSub,Nat.reduceLeDiff,Nat.reduceEqDiff,Int.reduceToNat,reduceIte,reduceCtorEq];refine⟨g,g,?_⟩;refine cB.bX ?_ 257 (Zs s e 256 0 rfl (λj z=>by omega) (λo=>?_) (λb t=>?_));.simp only[kC];repeat' constructor
 .simp only[JE];intros;simp only[VV,seval];refine bA i (.inr rfl) (by simp only[RS,seval];rfl) (by simp[LW]) ⟨?_,rfl⟩;rw[Uu q f h (λc=>by have:=o c.toNat c.toNat_lt;rwa [UInt8.ofNat_toNat]at this)];rfl
 simp only[JE];intros;simp only[VV,seval];refine bA i (.inr rfl) (by simp only[RS,seval];rfl) (by simp[LW]) ⟨?_,rfl⟩;rw[Uv t];rfl
end Go.Proofs.Tryz

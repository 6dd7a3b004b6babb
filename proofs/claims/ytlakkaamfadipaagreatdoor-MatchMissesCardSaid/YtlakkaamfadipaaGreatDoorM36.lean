/- A part of a proof; the claim's last text says of what. -/
import Derived.Test.YtlakkaamfadipaaGreatDoorM26
import Derived.Test.YtlakkaamfadipaaGreatDoorM29
import Derived.Test.YtlakkaamfadipaaGreatDoorM35
set_option linter.all false
set_option maxHeartbeats 2000000
open Option renaming some->N
open Bool renaming true->A,false->Z
open Go.Proofs.Tryz renaming prog->θ
open List renaming length->F

namespace Go.Proofs.Tryz
open Go Go.Pm Go.Bt
variable(X:List It)(t:It)(U:List It)(n:Int)(d:Nat)(T:List En)(Q:ag)(P:List Pn)(L:Pn)(H:Nat){R:ag}{K:bj}
def ry:bO θ 217 [.agg t.aoZ] Q (.I (weight t)):=by
 refine a6 func217 aiu λi o=>ay ?_;obtain⟨k,a,d⟩:=t;simp only[ab1,It.aoZ,SS,seval];have b:∀(w:Int) {g:ao} {f:ag},weight ⟨k,a,d⟩=w->g.getD 2 .u=.I w->rv θ (F Q) [.t 2] (λr j=>r=.I (weight ⟨k,a,d⟩)/\j=Q) .ret ⟨g,Q++f⟩:=λw _ _ l m =>
  bl (xs:=[.I w]) i (.inr rfl) (by simp only[lg,u7,m]) (by simp only[LW]) ⟨by rw[l];rfl,rfl⟩;rcases qg (k=6\/k=5\/k=7\/k=2\/k=3\/k=4\/k=9\/k=8)with c|c
 .rcases c with rfl|rfl|rfl|rfl|rfl|rfl|rfl|rfl;all_goals
   simp only[↓IT,VV,seval];exact b _ rfl rfl
 have e:∀n:Int,(n=6\/n=5\/n=7\/n=2\/n=3\/n=4\/n=9\/n=8)->(k==n)=Z:=λn h=>by simp only[cU];rintro rfl;exact c h
 simp only[e 6 (by simp),e 5 (by simp),e 7 (by simp),e 2 (by simp),e 3 (by simp),e 4 (by simp),e 9 (by simp),e 8 (by simp),↓IT,VV,seval];exact b 0 (by simp only[weight];rw[au (by omega),au (by omega),au (by omega),au (by omega)]) rfl
def Vv(j:bT R)(d:F X<2^40):∀(b pre:List It),X=pre++b ->((fj 3 (fh (.I (ic X)) (fj 14 fo))) λl=>K (.exit 0) ⟨l,R⟩) ->fS (F R) θ FY K (F b+1) ⟨(uu 3 (.I (ic pre)::uu 2 (.sl 3 (X.map It.aoZ)::.I (F X)::.I (F pre)::uu 9 []))),R⟩:=by
 intro b;induction b with
 |nil =>intro pre c f;have c:=db c;subst c;refine aF λa g=>?_;simp only[FY,VV,seval];exact⟨λh=>by simp at h,λ_=>f ..⟩
 |cons x b ih =>
 intro pre c f;subst c;have e:F pre+1+F b<2^40:=by simp at d;omega
 have m:=vN pre;have n:=mP x;have i:=dY pre x (by omega);have k:IntKind.i64.wrap (ic pre+weight x)=ic (pre++[x]):=by rw[IntWalk.i64_in _ (by omega)];simp[ic]
 refine aF λa g=>?_;simp only[FY,It.aoZ,VV,seval];refine⟨λ_=>⟨by simp;omega,?_⟩,λh=>by simp at h;omega⟩;refine aA (ry x _) rfl ?_;simp only[VV,seval];simp only[i,k];refine g _ (oK (ax _) j ?_ ?_ (ih (pre++[x]) (by simp) f));.repeat' constructor
 simp only[LW]
def y9(a:F X<2^40)(J:ag):bO θ 172 [.sl 3 (X.map It.aoZ)] J (.I (ic X)):=by refine a6 func172 aiZ λb c=>ay ?_;simp only[acz,SS,seval];simp only[ae,VV,seval];refine cd.aX (fr':=(uu 3 (.I (ic [])::uu 2 (.sl 3 (X.map It.aoZ)::.I (F X)::.I (F ([]:List It))::uu 9 [])))) (by repeat' constructor) (F X+1) (Vv X b a X [] rfl ?_);simp only[JE];intros;simp only[VV,seval];exact aY (.inr rfl) rfl ⟨rfl,rfl⟩
def va(b:It)(J:ag):bO θ 254 [.agg t.aoZ,.agg b.aoZ] J (.b (lJ t b)):=by refine a6 func254 aib λa c=>ay ?_;simp only[abJ,It.aoZ,SS,seval];simp only[VV,seval];exact km a (by simp only[RS,seval];rfl) (by simp only[LW])
def Er:bO θ 255 [.agg t.aoZ] Q (.s (eQ t)):=by
 refine a6 func255 aia λa b=>ay ?_;simp only[abI,It.aoZ,SS,seval];simp only[VV,seval];refine⟨λh=>?_,λh=>?_⟩;.refine aA (KH t.ao3 _) rfl ?_;simp only[VV,seval];simp only[b9]at h;exact bl a (.inr rfl) (by simp only[RS,seval];rfl) (by simp only[LW]) ⟨by simp only[one,eQ,h,aU],rfl⟩
 simp only[cU,fJ]at h;exact bl a (.inr rfl) (by simp only[RS,seval];rfl) (by simp only[LW]) ⟨by simp only[one,eQ,h,aQ],rfl⟩
def sY:bO θ 220 [.agg t.aoZ] Q (.b (bW t)):=by refine a6 func220 air λa c=>ay ?_;simp only[abY,It.aoZ,SS,seval];simp only[VV,seval];exact km a (by simp only[RS,seval];rfl) (by simp only[LW])
def kM:bO θ 219 [.agg t.aoZ] Q (.I (single t)):=by
 refine a6 func219 ais λa b=>ay ?_;simp only[abZ,It.aoZ,SS,seval];simp only[VV,seval];refine aA (sY t _) rfl ?_;simp only[VV,seval];refine⟨λh=>?_,λh=>?_⟩;.exact bl a (.inr rfl) (by simp only[RS,seval];rfl) (by simp only[LW]) ⟨by simp only[one,single,h,aU],rfl⟩
 refine aA (ry t _) rfl ?_;simp only[VV,seval];exact bl a (.inr rfl) (by simp only[RS,seval];rfl) (by simp only[LW]) ⟨by simp only[one,single,h,aQ,aI],rfl⟩
def KL(a b:It)(J:ag):bO θ 218 [.agg a.aoZ,.agg b.aoZ] J (.gy [.I ((er a b).getD 0),.b (er a b).isSome]):=by
 refine a6 func218 ait λo m=>ay ?_;have c:∀(w:Int) (q:Bool) {k:ao} {l:ag},(er a b).getD 0=w->(er a b).isSome=q->k.getD 4 .u=.I w->k.getD 5 .u=.b q->rv θ (F J) [.t 4,.t 5] (λr p=>r=.gy [.I ((er a b).getD 0),.b (er a b).isSome]/\p=J) .ret ⟨k,J++l⟩:=λw q _ _ s i v n =>
  bl (xs:=[.I w,.b q]) o (.inr rfl) (by simp only[lg,u7,v,n]) (by simp only[LW]) ⟨by rw[s,i];rfl,rfl⟩;clear m;simp only[ab0,It.aoZ,SS,seval];cases d:lJ a b with
 |true =>simp only[↓IT,VV,seval];refine aA (va a b _) rfl ?_;simp only[d,↓IT,VV,seval];exact c 0 A (by simp[er,d]) (by simp[er,d]) rfl rfl
 |false =>
 simp only[↓IT,VV,seval];refine aA (va a b _) rfl ?_;simp only[d,↓IT,VV,seval];refine⟨λh=>?_,λh=>?_⟩
 .have e:er a b=none:=by
   simp only[dW,nq,fJ,a7]at h;by_cases f:a.ao0=b.ao0
   .have g:¬a.ao0=6:=by omega
    have j:¬(a.ao0=7\/a.ao0=8\/a.ao0=9\/a.ao0=5):=by omega
    simp[er,d,<- f,g,j]
   simp[er,d,f]
  exact c 0 Z (by rw[e];rfl) (by rw[e];rfl) rfl rfl
 simp only[kJ,bne_eq_false_iff_eq,cI]at h;obtain⟨⟨f,x⟩,y⟩:=h;refine b7 (by simp only[VV,seval]<;>rfl) (λ_=>Er a _) rfl ?_;simp only[VV,seval];refine b7 (by simp only[VV,seval]<;>rfl) (λ_=>Er b _) rfl ?_;simp only[VV,seval];refine⟨λh=>?_,λh=>?_⟩
 .simp only[aP,b9]at h;have e:er a b=N 1:=by simp[er,d,<- f,h.1,h.2]
  exact c 1 A (by rw[e];rfl) (by rw[e];rfl) rfl rfl
 refine aA (ry a _) rfl ?_;simp only[VV,seval];have e:er a b=N (weight a):=by
  by_cases g:a.ao0=6
  .have i:(eQ a==eQ b)=Z:=by rw[g]at h;simpa using h
   simp only[er,d,<- f,g,i,aI,aQ,fJ,gm,aU]
  have j:a.ao0=7\/a.ao0=8\/a.ao0=9\/a.ao0=5:=by omega
  simp only[er,d,<- f,g,j,aI,aQ,fJ,gm,aU]
 exact c (weight a) A (by rw[e];rfl) (by rw[e];rfl) rfl rfl
def Vm(l:List It)(o:bT R)(d:F l<2^40):∀(b pre:List It),l=pre++b ->((fj 5 (fh (.I (dh l t)) (fj 16 fo))) λm=>K (.exit 0) ⟨m,R++[.box 150 t.aoZ]⟩) ->fS (F R) θ FI K (F b+1) ⟨(.sl 3 (l.map It.aoZ)::uu 2 (.ptr (F R) 0::uu 1 (.I (dh pre t)::uu 2 (.I (F l)::.I (F pre)::uu 12 [])))),R++[.box 150 t.aoZ]⟩:=by
 intro b;induction b with
 |nil =>intro pre c f;have c:=db c;subst c;refine aF λa i=>?_;simp only[FI,VV,seval];exact⟨λh=>by simp at h,λ_=>f ..⟩
 |cons x b ih =>
 intro pre c f;subst c;have g:F pre+1+F b<2^40:=by simp at d;omega
 have n:=mR pre t;have j:=dY pre x (by omega);have k:IntKind.i64.wrap (dh pre t+1)=dh pre t+1:=IntWalk.i64_in _ (by omega);refine aF λa i=>?_;simp only[FI,It.aoZ,VV,seval];refine⟨λ_=>⟨by simp;omega,?_⟩,λh=>by simp at h;omega⟩;refine aA (va x t _) rfl ?_;simp only[j,k,VV,seval];refine⟨λh=>?_,λh=>?_⟩
 .have e:dh (pre++[x]) t=dh pre t+1:=by simp[AR,dh,h]
  exact i _ (aX (by rw[<- e];repeat' constructor) (ih (pre++[x]) (by simp) f))
 have e:dh (pre++[x]) t=dh pre t:=by simp[AR,dh,h]
 exact i _ (aX (by rw[<- e];repeat' constructor) (ih (pre++[x]) (by simp) f))
def l3(a:F X<2^40)(J:ag):bO θ 221 [.sl 3 (X.map It.aoZ),.agg t.aoZ] J (.I (dh X t)):=by refine a6 func221 aiq λb c=>ay ?_;simp only[abX,It.aoZ,SS,seval];simp only[ae,VV,seval];refine cd.aX (fr':=(.sl 3 (X.map It.aoZ)::uu 2 (.ptr (F J) 0::uu 1 (.I (dh [] t)::uu 2 (.I (F X)::.I (F ([]:List It))::uu 12 []))))) (by repeat' constructor) (F X+1) (Vm t X b a X [] rfl ?_);simp only[JE];intros;simp only[VV,seval];exact km b (by simp only[RS,seval]) (by simp only[LW])

set_option maxRecDepth 4000
set_option maxHeartbeats 0
abbrev iy(a:bG):Ob:=.row 3 1 8 0 Z (a.map cg)
structure Tb (J S:ag) (a b:List It) (i ri:Nat) (cs:ao):Prop where
 len:J.length<=S.length
 hri:J.length<ri/\ri<S.length
 box:S[J.length]?=some (.box 25 cs)
 own:cs[i]?=some (.own ri 0)
 below:i<a.length->cs[i+1]?=some (.own (ri - 1) 0)/\ri - 1≠J.length/\S[ri - 1]?=some (iy (gH a b (i+1) 0))
def O6{S:ag}{K:bj}(cs:ao)(hT:Tb R S X U d H cs)(ha:F X<2^30)(hb:F U<2^30)(hi:d<=F X):∀(j:Nat),j<=F U+1 ->((fh (.sl 3 (X.map It.aoZ)) (fh (.sl 3 (U.map It.aoZ)) (fj 3 (fh (.sy (F R) (F X+1)) (fh (.I d) (fj 124 fo)))))) λZZ=>K (.exit 2) ⟨ZZ,S.set H (iy (gH X U d 0))⟩) ->fS (F R) θ vd K (j+1) ⟨(.sl 3 (X.map It.aoZ)::.sl 3 (U.map It.aoZ)::uu 3 (.sy (F R) (F X+1)::.I d::.I ((j:Int) - 1)::uu 123 [])),S.set H (iy (gH X U d j))⟩:=by
 intro j;induction j with
 |zero =>intro hj h1;refine aF λa hR=>?_;simp only[vd,VV,seval];exact⟨λh=>by simp at h,λ_=>h1 ..⟩
 |succ j ih =>
 intro hj h1;have e1:((j+1:Nat):Int) - 1=(j:Int):=by omega
 refine aF λa hR=>?_;rw[e1];have k:(F (List.map It.aoZ U):Int)=(F U:Int):=by simp
 have i:(F (List.map It.aoZ X):Int)=(F X:Int):=by simp
 have o:IntKind.i64.wrap ((d:Int)+1)=((d+1:Nat):Int):=cq (by omega);have r:IntKind.i64.wrap ((j:Int)+1)=((j+1:Nat):Int):=cq (by omega);have b:IntKind.i64.wrap ((j:Int) - 1)=(j:Int) - 1:=IntWalk.i64_in _ (by omega);have w:∀x,(S.set H x)[F R]?=N (.box 25 cs):=λx=>by rw[aN (by have:=hT.hri;omega)];exact hT.box
 have z:∀x,(S.set H x)[H]?=N x:=λx=>aw hT.hri.2;have q:∀x y,(S.set H x).set H y=S.set H y:=λx y=>Qo ..;have l:decide ((0:Int)<=j)=A:=by simp
 have b1:=QZ X U (d+1) (j+1);have b2:=QZ X U (d+1) j;have b3:=QZ X U d (j+1);have B:=hT.own;have t:F ((gH X U d (j+1)).map cg)=F U+1:=by rw[ae,xX _ _ _ _ (by omega)]
 have p:∀v,((gH X U d (j+1)).map cg).set j [.I v]=((gH X U d (j+1)).set j v).map cg:=λv=>by rw[List.map_set];rfl
 have s:((gH X U d (j+1)).map cg).getD j []=[.I 0]:=KP (by omega);have m:∀(v:Int) {fr:ao},mb X U d j=v->pe fr (.sl 3 (X.map It.aoZ)::.sl 3 (U.map It.aoZ)::uu 3 (.sy (F R) (F X+1)::.I d::.I ((j:Int) - 1)::uu 123 [])) ->
   a ⟨fr,S.set H (.row 3 1 8 0 Z (((gH X U d (j+1)).set j v).map cg))⟩:=λv fr n T=>by rw[<- n,OM (by omega)];exact hR _ (aX T (ih (by omega) h1))
 by_cases uo:d<F X
 .obtain⟨E,gn,ad⟩:=hT.below uo;have G:∀x,(S.set H x)[H - 1]?=N (iy (gH X U (d+1) 0)):=λx=>by rw[aN (by have:=hT.hri;omega)];exact ad
  obtain⟨x,hx⟩:∃x,X[d]?=N x:=⟨_,an uo⟩;have C:(X.map It.aoZ).getD d []=x.aoZ:=by simp[aq,hx]
  have f:decide ((d:Int)<F X)=A:=by simp;omega
  have J:F ((gH X U (d+1) 0).map cg)=F U+1:=by rw[ae,xX _ _ _ _ (by omega)]
  have M:gp ((gH X U (d+1) 0).map cg) j 0=N (.I (mb X U (d+1) j)):=s4 (by omega) (by omega);have sx:=eV x;have L:IntKind.i64.wrap (single x+mb X U (d+1) j)=single x+mb X U (d+1) j:=IntWalk.i64_in _ (by omega);by_cases V:j<F U
  .obtain⟨u,hu⟩:∃u,U[j]?=N u:=⟨_,an V⟩;have D:(U.map It.aoZ).getD j []=u.aoZ:=by simp[aq,hu]
   have e:decide ((j:Int)<F U)=A:=by simp;omega
   have I6:=YC hx hu;have q1:gp ((gH X U (d+1) 0).map cg) (j+1) 0=N (.I (mb X U (d+1) (j+1))):=s4 (by omega) (by omega);have P:gp ((gH X U d (j+1)).map cg) (j+1) 0=N (.I (mb X U d (j+1))):=s4 (by omega) (by omega);have su:=eV u;have O:IntKind.i64.wrap (single u+mb X U d (j+1))=single u+mb X U d (j+1):=IntWalk.i64_in _ (by omega);simp only[k,i,l,f,e,C,D,It.aoZ,vd,VV,seval];refine⟨by omega,by omega,?_⟩;refine aA (KL x u _) rfl ?_;cases T:er x u with
   |none =>
    simp only[k,i,o,r,b,l,f,e,It.aoZ,aG,w,z,q,B,t,p,s,iy,C,G,E,J,M,L,Option.isSome,Option.getD,VV,seval];refine⟨by omega,by omega,by omega,?_⟩;refine aA (kM x _) rfl ?_;simp only[k,i,o,r,b,l,f,e,It.aoZ,aG,w,z,q,B,t,p,s,iy,C,G,E,J,M,L,D,P,O,VV,seval];refine⟨by omega,by omega,by omega,by omega,?_⟩;refine aA (kM u _) rfl ?_;cases g:decide (single u+mb X U d (j+1)<single x+mb X U (d+1) j)with
    |true =>
     simp only[k,i,o,r,b,l,f,e,It.aoZ,aG,w,z,q,B,t,p,s,iy,C,G,E,J,M,L,D,P,O,g,VV,seval];have n:mb X U d j=single u+mb X U d (j+1):=by simp only[a7,cI]at g;simp only[I6,T,b5,iF,l8,g,aU,aQ]
     exact⟨by omega,by omega,by omega,by omega,m _ n (by repeat' constructor)⟩
    |false =>
    simp only[k,i,o,r,b,l,f,e,It.aoZ,aG,w,z,q,B,t,p,s,iy,C,G,E,J,M,L,D,P,O,g,VV,seval];have n:mb X U d j=single x+mb X U (d+1) j:=by simp only[a7,cI]at g;simp only[I6,T,b5,iF,l8,g,aU,aQ]
    exact⟨by omega,by omega,by omega,by omega,m _ n (by repeat' constructor)⟩
   |some c =>
   have af:=qR T;have w1:IntKind.i64.wrap (c+mb X U (d+1) (j+1))=c+mb X U (d+1) (j+1):=IntWalk.i64_in _ (by omega);simp only[k,i,o,r,b,l,f,e,It.aoZ,aG,w,z,q,B,t,p,s,iy,C,G,E,J,M,L,q1,w1,Option.isSome,Option.getD,VV,seval];refine⟨by omega,by omega,by omega,by omega,by omega,?_⟩;refine aA (kM x _) rfl ?_;cases Q:decide (single x+mb X U (d+1) j<c+mb X U (d+1) (j+1))with
   |true =>
    simp only[k,i,o,r,b,l,f,e,It.aoZ,aG,w,z,q,B,t,p,s,iy,C,G,E,J,M,L,D,P,O,Q,VV,seval];refine⟨by omega,by omega,by omega,by omega,?_⟩;refine aA (kM u _) rfl ?_;cases g:decide (single u+mb X U d (j+1)<single x+mb X U (d+1) j)with
    |true =>
     simp only[k,i,o,r,b,l,f,e,It.aoZ,aG,w,z,q,B,t,p,s,iy,C,G,E,J,M,L,D,P,O,g,VV,seval];have n:mb X U d j=single u+mb X U d (j+1):=by simp only[a7,cI]at Q g;simp only[I6,T,b5,iF,l8,Q,g,aU,aQ]
     exact⟨by omega,by omega,by omega,by omega,m _ n (by repeat' constructor)⟩
    |false =>
    simp only[k,i,o,r,b,l,f,e,It.aoZ,aG,w,z,q,B,t,p,s,iy,C,G,E,J,M,L,D,P,O,g,VV,seval];have n:mb X U d j=single x+mb X U (d+1) j:=by simp only[a7,cI]at Q g;simp only[I6,T,b5,iF,l8,Q,g,aU,aQ]
    exact⟨by omega,by omega,by omega,by omega,m _ n (by repeat' constructor)⟩
   |false =>
   simp only[k,i,o,r,b,l,f,e,It.aoZ,aG,w,z,q,B,t,p,s,iy,C,G,E,J,M,L,D,P,O,Q,VV,seval];refine⟨by omega,by omega,by omega,by omega,?_⟩;refine aA (kM u _) rfl ?_;cases g:decide (single u+mb X U d (j+1)<c+mb X U (d+1) (j+1))with
   |true =>
    simp only[k,i,o,r,b,l,f,e,It.aoZ,aG,w,z,q,B,t,p,s,iy,C,G,E,J,M,L,D,P,O,g,VV,seval];have n:mb X U d j=single u+mb X U d (j+1):=by simp only[a7,cI]at Q g;simp only[I6,T,b5,iF,l8,Q,g,aU,aQ]
    exact⟨by omega,by omega,by omega,by omega,m _ n (by repeat' constructor)⟩
   |false =>
   simp only[k,i,o,r,b,l,f,e,It.aoZ,aG,w,z,q,B,t,p,s,iy,C,G,E,J,M,L,D,P,O,g,VV,seval];have n:mb X U d j=c+mb X U (d+1) (j+1):=by simp only[a7,cI]at Q g;simp only[I6,T,b5,iF,l8,Q,g,aU,aQ]
   exact⟨by omega,by omega,by omega,by omega,m _ n (by repeat' constructor)⟩
  have W:j=F U:=by omega
  have e:decide ((j:Int)<F U)=Z:=by simp;omega
  simp only[k,i,l,f,e,C,It.aoZ,vd,VV,seval];have n:mb X U d j=single x+mb X U (d+1) j:=by rw[W];exact UK hx
  simp only[k,i,o,r,b,l,f,e,It.aoZ,aG,w,z,q,B,t,p,s,iy,C,G,E,J,M,L,VV,seval];refine⟨by omega,by omega,by omega,?_⟩;refine aA (kM x _) rfl ?_;simp only[k,i,o,r,b,l,f,e,It.aoZ,aG,w,z,q,B,t,p,s,iy,C,G,E,J,M,L,VV,seval];exact⟨by omega,by omega,by omega,by omega,m _ n (by repeat' constructor)⟩
 have ac:d=F X:=by omega
 have f:decide ((d:Int)<F X)=Z:=by simp;omega
 by_cases V:j<F U
 .obtain⟨u,hu⟩:∃u,U[j]?=N u:=⟨_,an V⟩;have D:(U.map It.aoZ).getD j []=u.aoZ:=by simp[aq,hu]
  have e:decide ((j:Int)<F U)=A:=by simp;omega
  have P:gp ((gH X U d (j+1)).map cg) (j+1) 0=N (.I (mb X U d (j+1))):=s4 (by omega) (by omega);have su:=eV u;have O:IntKind.i64.wrap (single u+mb X U d (j+1))=single u+mb X U d (j+1):=IntWalk.i64_in _ (by omega);have n:mb X U d j=single u+mb X U d (j+1):=by rw[ac];exact YD hu
  simp only[k,i,l,f,e,D,It.aoZ,vd,VV,seval];simp only[k,i,o,r,b,l,f,e,It.aoZ,aG,w,z,q,B,t,p,s,iy,D,P,O,VV,seval];refine⟨by omega,by omega,by omega,?_⟩;refine aA (kM u _) rfl ?_;simp only[k,i,o,r,b,l,f,e,It.aoZ,aG,w,z,q,B,t,p,s,iy,D,P,O,VV,seval];exact⟨by omega,by omega,by omega,by omega,m _ n (by repeat' constructor)⟩
 have W:j=F U:=by omega
 have e:decide ((j:Int)<F U)=Z:=by simp;omega
 have n:mb X U d j=0:=by rw[ac,W];exact YE X U
 simp only[k,i,l,f,e,It.aoZ,vd,VV,seval];simp only[k,i,o,r,b,l,f,e,It.aoZ,aG,w,z,q,B,t,p,s,iy,VV,seval];exact⟨by omega,by omega,by omega,m _ n (by repeat' constructor)⟩

set_option maxRecDepth 4000
set_option maxHeartbeats 0
def lB(a:Nat):Nat->ao|0=>[]|d+1=>.own (a+d) 0::lB a d
def oJ:ag:=(List.range d).map λq=>iy (gH X U (F X - q) 0)
def OO:F (lB d H)=H:=by induction H with|zero=>rfl|succ H ih=>simp[lB,ih]
def lY:F (oJ X U d)=d:=by simp[oJ]
def u5:oJ X U (d+1)=oJ X U d++[iy (gH X U (F X - d) 0)]:=by simp[oJ,C5]
def HR{J:ag}(B:Ob)(l:ag)(y z:Ob):(J++B::(l++[z])).set (F J+1+F l) y=J++B::(l++[y]):=by
 rw[b8 _ _ (by omega)];have:F J+1+F l - F J=F l+1:=by omega
 rw[this,kf,b8 _ _ (ax _)];simp
def O5{J:ag}{K:bj}(M:F X<2^30)(q:F U<2^30):∀(s:Nat),s<=F X+1 ->((fj 5 (fh (.sy (F J) (F X+1)) (fj 125 fo))) λw=>K (.exit 0) ⟨w,J++(.box 25 (lB (F J+1) (F X+1))::oJ X U (F X+1))⟩) ->fS (F J) θ FX K (s+1) ⟨(.sl 3 (X.map It.aoZ)::.sl 3 (U.map It.aoZ)::uu 3 (.sy (F J) (F X+1)::.I ((s:Int) - 1)::uu 124 [])),J++(.box 25 (List.replicate s .nil++lB (F J+1) (F X+1 - s))::oJ X U (F X+1 - s))⟩:=by
 intro s;induction s with
 |zero =>intro G f;refine aF λR n=>?_;simp only[FX,JW,qd,VV,seval];exact⟨λh=>by simp at h,λ_=>f ..⟩
 |succ i ih =>
 intro G f;have H:((i+1:Nat):Int) - 1=(i:Int):=by omega
 have j:(F (List.map It.aoZ U):Int)=(F U:Int):=by simp
 have u:IntKind.i64.wrap ((F U:Int)+1)=((F U+1:Nat):Int):=cq (by omega);have b:IntKind.i64.wrap ((i:Int) - 1)=(i:Int) - 1:=IntWalk.i64_in _ (by omega);have z:decide ((0:Int)<=i)=A:=by simp
 obtain⟨d,S⟩:∃d,d=F X - i:=⟨_,rfl⟩;have C:F X+1 - (i+1)=d:=by omega
 refine aF λR n=>?_;rw[H,C];simp only[FX,j,u,z,b,aG,VV,seval];have E:((F U+1:Nat):Int)<=maxLen:=eD (show _<=(2^62:Int)by omega) (by decide);refine⟨⟨by omega,Or.inl trivial,by omega,by omega,E⟩,by omega,by simp[OO],?_⟩;have r:List.take i (List.replicate (i+1) V.nil++lB (F J+1) d)++V.own (F J+(F (oJ X U d)+1)) 0::List.drop (i+1) (List.replicate (i+1) V.nil++lB (F J+1) d)=List.replicate i V.nil++lB (F J+1) (d+1):=by
  rw[dO (by simp),List.take_replicate,List.drop_append,List.drop_replicate,lY];have y:min i (i+1)=i:=by omega
  have L:F J+(d+1)=F J+1+d:=by omega
  simp[lB,y,L]
 have B:List.replicate (F U+1) [V.i .i64 0]=(gH X U i (F U+1)).map cg:=by rw[Il];simp[cg]
 rw[r,B];have P:J++Ob.box 25 (List.replicate i V.nil++lB (F J+1) (d+1))::(oJ X U d++[iy (gH X U i (F U+1))]) =
   (J++Ob.box 25 (List.replicate i V.nil++lB (F J+1) (d+1))::(oJ X U d++[iy []])).set (F J+1+d) (iy (gH X U i (F U+1))):=by have:=HR (J:=J) (Ob.box 25 (List.replicate i V.nil++lB (F J+1) (d+1))) (oJ X U d) (iy (gH X U i (F U+1))) (iy []);rw[lY]at this;exact this.symm
 have hT:Tb J (J++Ob.box 25 (List.replicate i V.nil++lB (F J+1) (d+1))::(oJ X U d++[iy []])) X U i (F J+1+d) (List.replicate i V.nil++lB (F J+1) (d+1)):=by
  refine⟨by simp,by simp[lY];omega,by simp,?_,λT=>⟨?_,by omega,?_⟩⟩;.rw[aD (by simp)];simp[lB]
  .obtain⟨a,rfl⟩:∃a,d=a+1:=⟨d - 1,by omega⟩;rw[aD (by simp)];simp[lB]
  obtain⟨a,rfl⟩:∃a,d=a+1:=⟨d - 1,by omega⟩;have Q:F J+1+(a+1) - 1=F J+(a+1):=by omega
  have o:F X - a=i+1:=by omega
  rw[Q,aD (by omega)];have v:F J+(a+1) - F J=a+1:=by omega
  rw[v,bS,aj (by simp[lY]),u5,aD (by simp[lY])];simp[lY,o]
 have e:=O6 (K:=xr 2 (xr 1 (HT (zM (F J) θ (bH.ar [] [{ d:=N 22,g:=[],i:=I.aV (O.t 6) },{ d:=N 23,g:=[],i:=I.bin BinOp.sub (O.t 22) (O.c (V.i IntKind.i64 1)) },{ d:=N 6,g:=[],i:=I.aV (O.t 23) }]) (Dj R K)) (Dj R K)))) X U i (F J+1+d) _ hT M q (by omega) (F U+1) (ax _) ?_
 .have x:((F U+1:Nat):Int) - 1=(F U:Int):=by omega
  rw[<- P,x]at e;refine cd.aX (by repeat' constructor) (F U+1+1) e
 simp only[JE];intros;simp only[b,VV,seval];have m:=HR (J:=J) (Ob.box 25 (List.replicate i V.nil++lB (F J+1) (d+1))) (oJ X U d) (iy (gH X U i 0)) (iy []);have p:F X - d=i:=by omega
 have l:=u5 X U d;rw[p]at l;rw[lY]at m;rw[m,<- l];have D:F X+1 - i=d+1:=by omega
 have k:=ih (by omega) f;rw[D]at k;exact n _ (aX (by repeat' constructor) k)
def D7:ag:=.box 25 (lB (d+1) (F X+1))::oJ X U (F X+1)
def H6(c:F X<2^30)(h:F U<2^30)(J:ag):PC θ 173 [.sl 3 (X.map It.aoZ),.sl 3 (U.map It.aoZ)] J (λr a=>r=.sy (F J) (F X+1)/\a=J++D7 X U (F J)):=by
 refine a6 func173 aiY λm l=>ay ?_;simp only[acy,SS,seval];have j:IntKind.i64.wrap ((F X:Int)+1)=((F X+1:Nat):Int):=cq (by omega);have f:((F X+1:Nat):Int)<=maxLen:=eD (show _<=(2^62:Int)by omega) (by decide);simp only[ae,j,aG,VV,seval];refine⟨⟨by omega,by omega,f⟩,?_⟩;have k:=O5 (J:=J) (K:=xr 0 (HT (zM (F J) θ ((bH.ar [] [{ d:=N 130,g:=[],i:=I.aV (O.t 5) },{ d:=N 4,g:=[],i:=I.aV (O.t 130) }]).seq bH.ret) (rv θ (F J) [Rs.t 4] λr a=>r=V.sy (F J) (F X+1)/\a=J++D7 X U (F J))) (rv θ (F J) [Rs.t 4] λr a=>r=V.sy (F J) (F X+1)/\a=J++D7 X U (F J)))) X U c h (F X+1) (ax _) ?_
 .have b:((F X+1:Nat):Int) - 1=(F X:Int):=by omega
  have e:F X+1 - (F X+1)=0:=by omega
  rw[b,e]at k;simp only[lB,bM,oJ,List.range_zero,bI]at k;exact cd.aX (by repeat' constructor) (F X+1+1) k
 simp only[JE];intros;simp only[VV,seval];exact fv (.inr rfl) rfl (Wk.refl _ _) rfl ⟨rfl,rfl⟩

set_option maxRecDepth 4000
def O4(l:bT R)(u:F X<2^27)(w:F U<2^27):∀(b pre:List It) (n:Int),X=pre++b->0<=n/\n+pR X U pre b<=2^60 ->((fh (.sl 3 (X.map It.aoZ)) (fh (.sl 3 (U.map It.aoZ)) (fj 3 (fh (.I (n+pR X U pre b)) (fj 66 fo))))) λr=>K (.exit 0) ⟨r,R⟩) ->fS (F R) θ FW K (F b+1) ⟨(.sl 3 (X.map It.aoZ)::.sl 3 (U.map It.aoZ)::uu 3 (.I n::uu 5 (.sl 3 (X.map It.aoZ)::.I (F X)::.I (F pre)::uu 58 []))),R⟩:=by
 intro b;induction b with
 |nil =>intro pre n e f c;have e:=db e;subst e;simp only[pR,uz]at c;refine aF λa k=>?_;simp only[FW,VV,seval];exact⟨λh=>by simp at h,λ_=>c ..⟩
 |cons t b ih =>
 intro pre n e f c;subst e;have g:F pre+1+F b<2^27:=by simp at u;omega
 have m:=dY pre t (by omega);have s:(((pre++t::b).map It.aoZ).take (F pre))=pre.map It.aoZ:=by rw[<- List.map_take];simp
 refine aF λa k=>?_;simp only[FW,It.aoZ,VV,seval];refine⟨λ_=>⟨by simp;omega,?_⟩,λh=>by simp at h;omega⟩;refine aA (sY t _) rfl ?_;simp only[s,VV,seval];refine⟨λ_=>⟨by omega,by simp;omega⟩,?_⟩;refine b7 (by simp only[VV,seval]<;>rfl) (λ_=>l3 pre t (by omega) _) rfl ?_;simp only[VV,seval];refine⟨λh=>?_,λh=>?_⟩
 .have x:=mR (pre++t::b) t;have z:=mR U t;have j:pR (pre++t::b) U pre (t::b)=mz (dh (pre++t::b) t - dh U t)+pR (pre++t::b) U (pre++[t]) b:=by simp only[pR,h,aU]
  have q:=Ao (pre++t::b) U b (pre++[t]);have y:=NL (d:=dh (pre++t::b) t - dh U t) (n:=((F (pre++t::b):Nat):Int)+F U) (by omega);rw[j]at c f;refine aA (l3 _ t (by omega) _) rfl ?_;simp only[VV,seval];refine aA (l3 U t (by omega) _) rfl ?_;have o:IntKind.i64.wrap (dh (pre++t::b) t - dh U t)=dh (pre++t::b) t - dh U t:=IntWalk.i64_in _ (by omega);have v:IntKind.i64.wrap (0 - (dh (pre++t::b) t - dh U t)) = -(dh (pre++t::b) t - dh U t):=by rw[IntWalk.i64_in _ (by omega)];omega
  have p:IntKind.i64.wrap (n+mz (dh (pre++t::b) t - dh U t))=n+mz (dh (pre++t::b) t - dh U t):=IntWalk.i64_in _ (by omega);simp only[o,v,VV,seval];simp only[m];change a ⟨_::_::_::_::_::V.i .i64 (IntKind.i64.wrap (n+mz (dh (pre++t::b) t - dh U t)))::_,_⟩;rw[p];exact k _ (qx [_] l (by repeat' constructor) (by simp[LW]) (ih (pre++[t]) (n+mz (dh (pre++t::b) t - dh U t)) (by simp) (by omega) (by rw[J7];exact c)))
 have j:pR (pre++t::b) U pre (t::b)=pR (pre++t::b) U (pre++[t]) b:=by simp only[pR,h,aI,aQ,fm]
 rw[j]at c f;simp only[m];exact k _ (qx [_] l (by repeat' constructor) (by simp[LW]) (ih (pre++[t]) n (by simp) f c))
def O3(j:bT R)(r:F X<2^27)(m:F U<2^27):∀(b pre:List It) (n:Int),U=pre++b->0<=n/\n+rk X U pre b<=2^60 ->((fj 5 (fh (.I (n+rk X U pre b)) (fj 66 fo))) λp=>K (.exit 2) ⟨p,R⟩) ->fS (F R) θ FV K (F b+1) ⟨(.sl 3 (X.map It.aoZ)::.sl 3 (U.map It.aoZ)::uu 3 (.I n::uu 36 (.sl 3 (U.map It.aoZ)::.I (F U)::.I (F pre)::uu 27 []))),R⟩:=by
 intro b;induction b with
 |nil =>intro pre n d e c;have d:=db d;subst d;simp only[rk,uz]at c;refine aF λa i=>?_;simp only[FV,VV,seval];exact⟨λh=>by simp at h,λ_=>c ..⟩
 |cons t b ih =>
 intro pre n d e c;subst d;have f:F pre+1+F b<2^27:=by simp at m;omega
 have k:=dY pre t (by omega);have q:(((pre++t::b).map It.aoZ).take (F pre))=pre.map It.aoZ:=by rw[<- List.map_take];simp
 refine aF λa i=>?_;simp only[FV,It.aoZ,VV,seval];refine⟨λ_=>⟨by simp;omega,?_⟩,λh=>by simp at h;omega⟩;refine aA (sY t _) rfl ?_;simp only[q,VV,seval];refine⟨λ_=>⟨by omega,by simp;omega⟩,?_⟩;refine b7 (by simp only[VV,seval]<;>rfl) (λ_=>l3 pre t (by omega) _) rfl ?_;simp only[VV,seval];refine b7 (by simp only[VV,seval]<;>rfl) (λ_=>l3 X t (by omega) _) rfl ?_;simp only[VV,seval];refine⟨λh=>?_,λh=>?_⟩
 .have s:=mR (pre++t::b) t;have g:rk X (pre++t::b) pre (t::b)=dh (pre++t::b) t+rk X (pre++t::b) (pre++[t]) b:=by simp only[rk,h,aU]
  have o:=An X (pre++t::b) b (pre++[t]);rw[g]at c e;refine aA (l3 _ t (by omega) _) rfl ?_;have l:IntKind.i64.wrap (n+dh (pre++t::b) t)=n+dh (pre++t::b) t:=IntWalk.i64_in _ (by omega);simp only[l,k,VV,seval];exact i _ (qx [_] j (by repeat' constructor) (by simp[LW]) (ih (pre++[t]) (n+dh (pre++t::b) t) (by simp) (by omega) (by rw[J7];exact c)))
 have g:rk X (pre++t::b) pre (t::b)=rk X (pre++t::b) (pre++[t]) b:=by simp only[rk,h,aI,aQ,fm]
 rw[g]at c e;simp only[k];exact i _ (qx [_] j (by repeat' constructor) (by simp[LW]) (ih (pre++[t]) n (by simp) e c))
def Mm(d:F X<2^27)(c:F U<2^27):0<=pR X U [] X/\pR X U [] X<=2^58/\0<=rk X U [] U/\rk X U [] U<=2^58:=by have a:=Ao X U X [];have e:=An X U U [];have b:(F X:Int)*((F X:Int)+F U)<=2^28*2^28:=vG (by omega) (by omega) (by omega) (by omega);have f:(F U:Int)*((F X:Int)+F U)<=2^28*2^28:=vG (by omega) (by omega) (by omega) (by omega);omega
def Dn(a:F X<2^27)(b:F U<2^27)(J:ag):bO θ 174 [.sl 3 (X.map It.aoZ),.sl 3 (U.map It.aoZ)] J (.I (po X U)):=by refine a6 func174 aiX λc d=>ay ?_;simp only[acx,SS,seval];simp only[ae,VV,seval];have e:=Mm X U a b;refine cd.aX (fr':=(.sl 3 (X.map It.aoZ)::.sl 3 (U.map It.aoZ)::uu 3 (.I 0::uu 5 (.sl 3 (X.map It.aoZ)::.I (F X)::.I (F ([]:List It))::uu 58 [])))) (by repeat' constructor) (F X+1) (O4 X U c a b X [] 0 rfl (by omega) ?_);simp only[JE];intros;simp only[ae,VV,seval];refine cd.aX (fr':=(.sl 3 (X.map It.aoZ)::.sl 3 (U.map It.aoZ)::uu 3 (.I (0+pR X U [] X)::uu 36 (.sl 3 (U.map It.aoZ)::.I (F U)::.I (F ([]:List It))::uu 27 [])))) (by repeat' constructor) (F U+1) (O3 X U c a b U [] (0+pR X U [] X) rfl (by omega) ?_);simp only[JE];intros;simp only[ae,VV,seval];exact aY (.inr rfl) (by simp only[RS,seval];rfl) ⟨by simp[po,one],rfl⟩
def Ya:Int:=tv X U+2*po X U
def Bi(a b:List It)(h:F a<2^27)(f:F b<2^27)(J:ag):bO θ 111 [.sl 3 (a.map It.aoZ),.sl 3 (b.map It.aoZ)] J (.I (Ya a b)):=by
 refine a6 func111 ajF λm q=>ay ?_;simp only[adk,SS,seval];simp only[VV,seval];refine cB (H6 a b (by omega) (by omega) _) rfl ?_;rintro _ _ ⟨rfl,rfl⟩;have k:(D7 a b (F J))[0]?=N (.box 25 (lB (F J+1) (F a+1))):=rfl;have j:(lB (F J+1) (F a+1))[0]?=N (.own (F J+1+F a) 0):=rfl;have c:(J++D7 a b (F J))[F J+1+F a]?=N (iy (gH a b 0 0)):=by
  rw[aD (by omega)];have e:F J+1+F a - F J=F a+1:=by omega
  rw[e];simp[D7,u5,lY,aD]
 have d:gp ((gH a b 0 0).map cg) 0 0=N (.I (tv a b)):=by have:=s4 (a:=a) (b:=b) (i:=0) (eR 0) (eR _);simpa[mb]using this
 have g:F ((gH a b 0 0).map cg)=F b+1:=by rw[ae,xX _ _ _ _ (by omega)]
 have o:=yS a b;have n:=Mm a b h f;have l:IntKind.i64.wrap (2*po a b)=2*po a b:=IntWalk.i64_in _ (by unfold po;omega);have p:IntKind.i64.wrap (tv a b+2*po a b)=tv a b+2*po a b:=IntWalk.i64_in _ (by unfold po;omega);simp only[k,j,c,d,g,iy,VV,seval];refine⟨by omega,by omega,?_⟩;refine aA (Dn a b h f _) rfl ?_;simp only[k,j,c,d,g,l,p,iy,VV,seval];refine⟨⟨by omega,by omega⟩,?_⟩;exact km m (by simp only[RS,seval];rfl) (by simp only[LW])
def AN(e : -9223372036854775808<=n/\n<=9223372036854775807)(J:ag):bO θ 252 [.I n] J (.agg [.I (if n<0 then -1 else 0),.i .u64 (if n<0 then n+18446744073709551616 else n)]):=by
 refine a6 func252 aic λb d=>ay ?_;simp only[abK,SS,seval];simp only[VV,seval];have a:n.fdiv (2^min 63 IntKind.i64.bits)=if n<0 then -1 else 0:=by
  have:(2:Int)^min 63 IntKind.i64.bits=9223372036854775808:=by decide
  rw[this,aaY _ (by omega)];split<;>omega
 have c:IntKind.u64.wrap n=if n<0 then n+18446744073709551616 else n:=by rw[IntKind.wrap_u64];split<;>omega
 simp only[a,c];exact km b (by simp only[RS,seval]) (by simp only[LW])
def Xt(a c:Int)(g : -9223372036854775808<=n/\n<=9223372036854775807)(i : -9223372036854775808<=a/\a<=9223372036854775807)(d : -9223372036854775808<=c/\c<=9223372036854775807)(J:ag): bO θ 216 [.I n,.I a,.I c] J (.b (decide (c<=n - a))):=by refine a6 func216 aiv λj k=>ay ?_;simp only[ab2,SS,seval];simp only[VV,seval];refine aA (AN n g _) rfl ?_;simp only[VV,seval];refine aA (AN a i _) rfl ?_;simp only[VV,seval];refine aA (AN c d _) rfl ?_;simp only[VV,seval];refine⟨⟨by split<;>omega,by split<;>omega,by split<;>omega⟩,?_⟩;refine bl j (.inr rfl) (by simp only[RS,seval];rfl) (by simp only[LW]) ⟨?_,rfl⟩;simp only[one,V.b.injEq];rw[dL];simp only[dW,aP,a7,b9,IntKind.wrap_i64];by_cases f:n<0<;>by_cases e:a<0<;>by_cases h:c<0<;>simp only[f,e,h,aU,aQ]<;>split<;>omega
def FD(e:En)(a:Int)(h : -9223372036854775808<=a/\a<=9223372036854775807)(i : -9223372036854775808<=e.ao9/\e.ao9<=9223372036854775807)(g : -9223372036854775808<=L.fw/\L.fw<=9223372036854775807)(J:ag):bO θ 167 [.agg L.aoZ,.agg e.aoZ,.I a] J (.b (lG L e a)):=by
 refine a6 func167 ai4 λf j=>ay ?_;simp only[acE,SS,seval];simp only[Pn.aoZ,En.aoZ,VV,seval];refine⟨λd=>?_,λd=>⟨λc=>?_,λc=>?_⟩⟩;.exact bl f (.inr rfl) (by simp only[RS,seval];rfl) (by simp only[LW]) ⟨by simp only[lG,d,one,aU],rfl⟩
 .have c:=(show((L.cW != []&&L.cW != e.cW)||(L.cx != []&&L.cx != e.cx))=A from c);exact bl f (.inr rfl) (by simp only[RS,seval];rfl) (by simp only[LW]) ⟨by simp only[lG,d,c,one];rfl,rfl⟩
 have c:=(show((L.cW != []&&L.cW != e.cW)||(L.cx != []&&L.cx != e.cx))=Z from c);refine b7 (by simp only[VV,seval]<;>rfl) (λ_=>Xt a e.ao9 L.fw h i g _) rfl ?_;simp only[VV,seval];exact bl f (.inr rfl) (by simp only[RS,seval];rfl) (by simp only[LW]) ⟨by simp only[lG,d,c,one];rfl,rfl⟩
def VJ(e:En)(c:Int)(o:bT R)(v : -9223372036854775808<=c/\c<=9223372036854775807)(x : -9223372036854775808<=e.ao9/\e.ao9<=9223372036854775807) (l:List Pn) (f:F l<2^40) (u:∀p∈l,-9223372036854775808<=p.fw/\p.fw<=9223372036854775807):∀(b pre:List Pn) (s:Int),l=pre++b->0<=s/\s<=100 ->((fj 7 (fh (.I (mg e c s b)) (fj 25 fo))) λq=>K (.exit 0) ⟨q,R++[.box 37 e.aoZ]⟩) ->fS (F R) θ Gi K (F b+1) ⟨(uu 2 (.I c::uu 1 (.ptr (F R) 0::uu 2 (.I s::uu 2 (.sl 5 (l.map Pn.aoZ)::.I (F l)::.I (F pre)::uu 20 []))))),R++[.box 37 e.aoZ]⟩:=by
 intro b;induction b with
 |nil =>intro pre s g n i;have g:=db g;subst g;refine aF λa k=>?_;simp only[Gi,VV,seval];exact⟨λh=>by simp at h,λ_=>i ..⟩
 |cons p b ih =>
 intro pre s g n i;subst g;have j:F pre+1+F b<2^40:=by simp at f;omega
 have t:=dY pre p (by omega);have m:bT (R++[.box 37 e.aoZ]):=cL o (by simp[En.aoZ,LW]);refine aF λa k=>?_;simp only[Gi,Pn.aoZ,En.aoZ,VV,seval];refine⟨λ_=>⟨by simp;omega,?_⟩,λh=>by simp at h;omega⟩;refine b7 (by simp only[VV,seval]<;>rfl) (λ_=>FD p e c v x (u p (by simp)) _) rfl ?_;simp only[t,VV,seval];refine⟨λd=>?_,λd=>?_⟩
 .have y:0<p.points:=by simp only[aP,a7]at d;exact d.1
  have w:IntKind.i64.wrap (s+if 100<p.points then 100 else p.points)=s+mn p.points 100:=IntWalk.i64_in _ (by split<;>omega);have r:0<=mn (s+mn p.points 100) 100/\mn (s+mn p.points 100) 100<=100:=by unfold mn;(repeat' split)<;>omega
  rw[w];exact k _ (cC [_] [_] m (by repeat' constructor) (by simp[LW]) (ih (pre++[p]) (mn (s+mn p.points 100) 100) (by simp) r (by simpa only[mg,d,aU]using i)))
 exact k _ (cC [_] [_] m (by repeat' constructor) (by simp[LW]) (ih (pre++[p]) s (by simp) n (by simpa only[mg,d,aI,aQ]using i)))
def OJ(e:En)(a:Int)(g : -9223372036854775808<=a/\a<=9223372036854775807)(f : -9223372036854775808<=e.ao9/\e.ao9<=9223372036854775807) (b:F P<2^40) (d:∀p∈P,-9223372036854775808<=p.fw/\p.fw<=9223372036854775807) (J:ag):bO θ 107 [.sl 5 (P.map Pn.aoZ),.agg e.aoZ,.I a] J (.I (jm P e a)):=by refine a6 func107 ajI λc h=>ay ?_;simp only[ado,SS,seval];simp only[En.aoZ,ae,VV,seval];refine cd.aX (fr':=(uu 2 (.I a::uu 1 (.ptr (F J) 0::uu 2 (.I 0::uu 2 (.sl 5 (P.map Pn.aoZ)::.I (F P)::.I (F ([]:List Pn))::uu 20 [])))))) (by repeat' constructor) (F P+1) (VJ e a c g f P b d P [] 0 rfl (by omega) ?_);simp only[JE];intros;simp only[VV,seval];exact km c (by simp only[RS,seval];rfl) (by simp only[LW])
def Y7(t:bT R)(l:List Pn)(f:F l<2^40):∀(b pre:List Pn),l=pre++b ->(mY b≠0->∀q,((fj 2 (fh (.I (mY b)) (fj 60 fo))) λm=>K .ret ⟨m,R++q⟩))->(mY b=0->((fj 63 fo) λm=>K (.exit 0) ⟨m,R⟩)) ->fS (F R) θ MH K (F b+1) ⟨(uu 8 (.sl 5 (l.map Pn.aoZ)::.I (F l)::.I (F pre)::uu 52 [])),R⟩:=by
 intro b;induction b with
 |nil =>intro pre d c i;have d:=db d;subst d;refine aF λa r=>?_;simp only[MH,VV,seval];exact⟨λh=>by simp at h,λ_=>i rfl ..⟩
 |cons p b ih =>
 intro pre d c i;subst d;have n:F pre+1+F b<2^40:=by simp at f;omega
 have u:=dY pre p (by omega);refine aF λa r=>?_;simp only[MH,Pn.aoZ,VV,seval];refine⟨λ_=>⟨by simp;omega,?_⟩,λh=>by simp at h;omega⟩;refine⟨λj=>?_,λj=>?_⟩
 .have d:pW p=1:=by simp only[dW,a7]at j;unfold pW;rw[aK (by omega)]
  have g:mY (p::b)=1:=by simp[mY,d]
  rw[g]at c;exact c (by decide) _ ..
 have e:¬(p.ape<0\/3<p.ape\/p.fw<0\/1073741824<p.fw\/p.points<0\/100<p.points):=by simp only[kJ,cI]at j;omega
 refine b7 (by simp only[VV,seval]<;>rfl) (λ_=>kX p.cW _) rfl ?_;simp only[VV,seval];refine b7 (by simp only[VV,seval]<;>rfl) (λ_=>kX p.cx _) rfl ?_;simp only[u,VV,seval];have s:((!p.cW==[]&&!apb p.cW)||(!p.cx==[]&&!apb p.cx))=!(named p.cW&&named p.cx):=by simp only[named];cases p.cW==[]<;>cases apb p.cW<;>cases p.cx==[]<;>cases apb p.cx<;>rfl
 rw[s];refine⟨λo=>?_,λo=>?_⟩
 .have g:mY (p::b)=4:=by
   have:pW p=4:=by unfold pW;rw[au e,aK (by cases k:named p.cW&&named p.cx<;>simp[k]at o |-)]
   simp[mY,this]
  rw[g]at c;exact c (by decide) _ ..
 have g:mY (p::b)=mY b:=by
  have:pW p=0:=by unfold pW;rw[au e,au (by cases k:named p.cW&&named p.cx<;>simp[k]at o |-)]
  simp[mY,this]
 rw[g]at c i;exact r _ (qx [_] t (by repeat' constructor) (by simp[LW]) (ih (pre++[p]) (by simp) c i))
def Du(a:F P<2^40)(J:ag):bO θ 57 [.sl 5 (P.map Pn.aoZ)] J (.I (qA P)):=by
 refine a6 func57 c57 λc f=>ay ?_;simp only[p57,SS,seval];simp only[ae,VV,seval];refine⟨λh=>?_,λh=>?_⟩;.exact aY (.inr rfl) rfl ⟨by simp only[a7]at h;simp[qA,h,one],rfl⟩
 have b:¬((16:Int)<F P):=by simpa using h
 refine cd.aX (fr':=(uu 8 (.sl 5 (P.map Pn.aoZ)::.I (F P)::.I (F ([]:List Pn))::uu 52 []))) (by repeat' constructor) (F P+1) (Y7 c P a P [] rfl (λg e=>?_) (λd=>?_));.simp only[JE];intros;simp only[VV,seval];exact km c (by simp only[RS,seval,qA,b,aQ]) (by simp only[LW])
 simp only[JE];intros;simp only[VV,seval];exact aY (.inr rfl) (by simp only[RS,seval];rfl) ⟨by simp only[qA,b,aQ,d,one],rfl⟩
def H9(q:Qr)(h1:F q.b6<2^39)(g:F q.next<2^39)(J:ag):bO θ 15 [.agg q.aoZ] J (.I (fb q)):=by
 refine a6 func15 c15 λc i=>ay ?_;simp only[p15,SS,seval];simp only[Qr.aoZ,VV,seval];refine aA (lN q.ao2 _) rfl ?_;simp only[VV,seval];refine⟨λh=>?_,λh=>?_⟩
 .have a:bV q.ao2≠0:=by simpa using h
  exact bl c (.inr rfl) (by simp only[RS,seval];rfl) (by simp only[LW]) ⟨by simp[fb,a,one],rfl⟩
 have a:bV q.ao2=0:=by simpa using h
 refine⟨λh=>?_,λh=>?_⟩
 .have b:q.ao2=[]:=by simpa using h
  exact bl c (.inr rfl) (by simp only[RS,seval];rfl) (by simp only[LW]) ⟨by rw[b]at a;simp[fb,a,b,one],rfl⟩
 have b:¬F q.ao2=0:=by simpa using h
 refine aA (kW q.b6 h1 _) rfl ?_;simp only[VV,seval];refine⟨λh=>?_,λh=>?_⟩
 .have d:(parse q.b6).2.2≠0:=by simpa using h
  exact bl c (.inr rfl) (by simp only[RS,seval];rfl) (by simp only[LW]) ⟨by simp only[fb,a,b,d,one,fJ,gm,dG,aU,aQ],rfl⟩
 have d:(parse q.b6).2.2=0:=by simpa using h
 refine aA (kW q.next g _) rfl ?_;simp only[VV,seval];refine⟨λh=>?_,λh=>?_⟩
 .have e:(parse q.next).2.2≠0:=by simpa using h
  exact bl c (.inr rfl) (by simp only[RS,seval];rfl) (by simp only[LW]) ⟨by simp only[fb,a,b,d,e,one,fJ,gm,dG,aU,aQ],rfl⟩
 have e:(parse q.next).2.2=0:=by simpa using h
 refine⟨λh=>?_,λh=>?_⟩
 .have f:q.now<0\/1073741824<q.now\/q.threshold<1\/102<q.threshold\/q.oc<1\/100<q.oc:=by simp only[dW,a7]at h;omega
  exact bl c (.inr rfl) (by simp only[RS,seval];rfl) (by simp only[LW]) ⟨by simp only[fb,a,b,d,e,f,one,fJ,gm,dG,aU,aQ],rfl⟩
 have f:¬(q.now<0\/1073741824<q.now\/q.threshold<1\/102<q.threshold\/q.oc<1\/100<q.oc):=by simp only[kJ,cI]at h;omega
 exact bl c (.inr rfl) (by simp only[RS,seval];rfl) (by simp only[LW]) ⟨by simp only[fb,a,b,d,e,f,one,fJ,gm,dG,aU,aQ],rfl⟩
structure L6 (e:En) (l:List Pn) (q:Qr):Prop where
 now : -9223372036854775808<=q.now/\q.now<=9223372036854775807
 ao9 : -9223372036854775808<=e.ao9/\e.ao9<=9223372036854775807
 len:l.length<2^40
 fw:∀p∈l,-9223372036854775808<=p.fw/\p.fw<=9223372036854775807
def Cw(e:En)(a b:List It)(l:List Pn)(q:Qr)(n:F a<2^27)(j:F b<2^27)(h:L6 e l q)(J:ag): bO θ 50 [.agg e.aoZ,.sl 3 (a.map It.aoZ),.sl 3 (b.map It.aoZ),.sl 5 (l.map Pn.aoZ),.agg q.aoZ] J (.agg (ig e a b l q).aoZ):=by
 refine a6 func50 c50 λm p=>ay ?_;simp only[p50,SS,seval];simp only[Qr.aoZ,En.aoZ,VV,seval];intro X;refine aA (KN a b n j _) rfl ?_;simp only[VV,seval];intro c;refine aA (OJ l e q.now h.now h.ao9 h.len h.fw _) rfl ?_;have o:=s3 a b (Cq a b n j).1;have k:=rA e q.now l 0 (by omega);have k:0<=jm l e q.now/\jm l e q.now<=100:=k;have r:=zC e q;simp only[VV,seval];refine⟨λg=>?_,λg=>?_⟩
 .have f:dm a b=100:=by simpa using g
  refine aA (LR e q _) (by simp only[En.aoZ,Qr.aoZ,VV,seval]) ?_;have d:IntKind.i64.wrap (dm a b+iC e q)=dm a b+iC e q:=IntWalk.i64_in _ (by omega);have i:IntKind.i64.wrap (dm a b+iC e q - jm l e q.now)=dm a b+iC e q - jm l e q.now:=IntWalk.i64_in _ (by omega);simp only[d,i,VV,seval];exact bl m (.inr rfl) (by simp only[RS,seval];rfl) (by simp only[LW]) ⟨by simp only[ig,Mt.aoZ,f,one,mx,aU],rfl⟩
 have f:¬dm a b=100:=by simpa using g
 have d:IntKind.i64.wrap (dm a b+0)=dm a b+0:=IntWalk.i64_in _ (by omega);have i:IntKind.i64.wrap (dm a b+0 - jm l e q.now)=dm a b+0 - jm l e q.now:=IntWalk.i64_in _ (by omega);simp only[d,i,VV,seval];exact bl m (.inr rfl) (by simp only[RS,seval];rfl) (by simp only[LW]) ⟨by simp only[ig,Mt.aoZ,f,one,mx,aQ],rfl⟩
def Re(e:En)(l:List Pn)(q:Qr)(h:L6 e l q)(h1:F e.ao2<2^38)(b:aR e.ao2<2^38)(f:F q.ao2<2^38)(c:aR q.ao2<2^38)(d:F (cR e.ao2)<2^27)(g:F (cR q.ao2)<2^27)(J:ag): bO θ 20 [.agg e.aoZ,.sl 5 (l.map Pn.aoZ),.agg q.aoZ] J (.agg (oH e l q).aoZ):=by refine a6 func20 c20 λa i=>ay ?_;simp only[p20,SS,seval];simp only[Qr.aoZ,En.aoZ,VV,seval];refine aA (qk e.ao2 h1 b _) rfl ?_;simp only[VV,seval];refine aA (qk q.ao2 f c _) rfl ?_;simp only[VV,seval];refine aA (Cw e _ _ l q d g h _) rfl ?_;simp only[Mt.aoZ,VV,seval];exact km a (by simp only[RS,seval];rfl) (by simp only[LW])
def KM(c:F X<2^27)(a:F U<2^27)(J:ag):bO θ 110 [.sl 3 (X.map It.aoZ),.sl 3 (U.map It.aoZ)] J (.I (gZ X U)):=by refine a6 func110 DS λd b=>ay ?_;simp only[adl,SS,seval];simp only[VV,seval];refine aA (y9 X (by omega) _) rfl ?_;simp only[VV,seval];refine aA (y9 U (by omega) _) rfl ?_;simp only[VV,seval];exact aY (.inr rfl) rfl ⟨rfl,rfl⟩
def NY{t z:Int}(g:0<t):(-(100*max z (-z))<=(100*z).tdiv t/\(100*z).tdiv t<=100*max z (-z))/\(if 0<(100*z).tdiv t then(100*z).tdiv t else 0)=(100*mx z 0).tdiv t:=by
 by_cases c:z<0
 .have d:(100*z) = -(100 * -z):=by omega
  have b:(100*z).tdiv t = -((100 * -z) / t):=by rw[d,Int.neg_tdiv,ey (by omega)]
  have e:0<=(100 * -z) / t:=tL (by omega) (by omega);have f:(100 * -z) / t<=100 * -z:=Ak _ (by omega);have a:mx z 0=0:=by unfold mx;rw[aK c]
  rw[a,b];refine⟨by omega,?_⟩;rw[au (by omega)];simp
 have a:mx z 0=z:=by unfold mx;rw[au c]
 have b:(100*z).tdiv t=(100*z) / t:=ey (by omega);have e:0<=(100*z) / t:=tL (by omega) (by omega);have f:(100*z) / t<=100*z:=Ak _ (by omega);rw[a,b];refine⟨by omega,?_⟩;split<;>omega
def Dq(d:F X<2^27)(c:F U<2^27)(J:ag):bO θ 52 [.sl 3 (X.map It.aoZ),.sl 3 (U.map It.aoZ)] J (.I (dm X U)):=by
 refine a6 func52 c52 λk j=>ay ?_;simp only[p52,SS,seval];simp only[VV,seval];refine aA (KM X U d c _) rfl ?_;simp only[VV,seval];have l:=xq X U;have b:Ya X U=iM X U:=(Cp X U).symm;have i:=Jt X U;refine⟨λh=>?_,λh=>?_⟩
 .have a:gZ X U=0:=by simpa using h
  exact aY (.inr rfl) rfl ⟨by simp[dm,a,one],rfl⟩
 have a:gZ X U≠0:=by simpa using h
 refine aA (Bi X U d c _) rfl ?_;rw[b];have e:IntKind.i64.wrap (gZ X U - iM X U)=gZ X U - iM X U:=IntWalk.i64_in _ (by omega);have g:IntKind.i64.wrap (100*(gZ X U - iM X U))=100*(gZ X U - iM X U):=IntWalk.i64_in _ (by omega);simp only[e,g,VV,seval];have f:=NY (t:=gZ X U) (z:=gZ X U - iM X U) (by omega);refine⟨a,?_⟩;rw[IntWalk.i64_in ((100*(gZ X U - iM X U)).tdiv (gZ X U)) (by omega),f.2];exact aY (.inr rfl) (by simp only[RS,seval];rfl) ⟨by simp only[one,dm,a,aQ],rfl⟩
def Dr(e:En)(q:Qr)(J:ag):bO θ 55 [.agg e.aoZ,.agg q.aoZ] J (.I (iC e q)):=by
 refine a6 func55 c55 λf g=>ay ?_;simp only[p55,SS,seval];simp only[En.aoZ,Qr.aoZ,VV,seval];have c:IntKind.i64.wrap 1=1:=by decide
 have d:IntKind.i64.wrap (1+1)=2:=by decide
 simp only[c,d];refine⟨λb=>⟨λa=>?_,λa=>?_⟩,λb=>⟨λa=>?_,λa=>?_⟩⟩ <;>
  exact bl f (.inr rfl) (by simp only[RS,seval];rfl) (by simp only[LW]) ⟨by have b:=(show ET _ _=_ from b);have a:=(show ET _ _=_ from a);simp[iC,b,a,one],rfl⟩
def Oz(a c:Int)(i : -9223372036854775808<=n/\n<=9223372036854775807)(j : -9223372036854775808<=a/\a<=9223372036854775807)(f : -9223372036854775808<=c/\c<=9223372036854775807)(J:ag): bO θ 178 [.I n,.I a,.I c] J (.b (decide (c<=0)||decide (c<=n - a))):=by
 refine a6 func178 aiT λk g=>ay ?_;simp only[acs,SS,seval];simp only[VV,seval];refine aY (.inr rfl) (by simp only[RS,seval];rfl) ⟨?_,rfl⟩;simp only[one,V.b.injEq];by_cases h:c<=0;.simp[h]
 have e:IntKind.i64.wrap (-9223372036854775808+c) = -9223372036854775808+c:=IntWalk.i64_in _ (by omega);have d:decide (c<=0)=Z:=by simpa using h
 rw[dL];simp only[d,e,ia,aP,a7,IntKind.wrap_i64];omega
def T5(a b c d e f g:Bool):((a||b)&&(c||d)&&(e||f)&&g)=if(!a&&!b)=A then Z else if((!c&&!d)||(!e&&!f))=A then Z else g:=by cases a<;>cases b<;>cases c<;>cases d<;>cases e<;>cases f<;>cases g<;>rfl
def Dm(e:En)(a:Int)(d : -9223372036854775808<=a/\a<=9223372036854775807)(f : -9223372036854775808<=e.ao9/\e.ao9<=9223372036854775807)(c : -9223372036854775808<=L.fw/\L.fw<=9223372036854775807)(J:ag): bO θ 113 [.agg L.aoZ,.agg e.aoZ,.I a] J (.b (lG L e a)):=by refine a6 func113 ajD λg h=>ay ?_;simp only[adi,SS,seval];simp only[Pn.aoZ,En.aoZ,VV,seval];refine b7 (by simp only[VV,seval]<;>rfl) (λ_=>Oz a e.ao9 L.fw d f c _) rfl ?_;simp only[VV,seval];refine bl g (.inr rfl) (by simp only[RS,seval];rfl) (by simp only[LW]) ⟨?_,rfl⟩;simp only[one,V.b.injEq];exact T5 _ _ _ _ _ _ _
def Y8(e:En)(c:Int)(r:bT R)(x : -9223372036854775808<=c/\c<=9223372036854775807)(z : -9223372036854775808<=e.ao9/\e.ao9<=9223372036854775807) (l:List Pn) (d:F l<2^40) (w:∀p∈l,-9223372036854775808<=p.fw/\p.fw<=9223372036854775807):∀(b pre:List Pn) (s:Int),l=pre++b->0<=s/\s<=100 ->((fj 7 (fh (.I (mg e c s b)) (fj 21 fo))) λt=>K (.exit 0) ⟨t,R++[.box 37 e.aoZ]⟩) ->fS (F R) θ MI K (F b+1) ⟨(uu 2 (.I c::uu 1 (.ptr (F R) 0::uu 2 (.I s::uu 2 (.sl 5 (l.map Pn.aoZ)::.I (F l)::.I (F pre)::uu 16 []))))),R++[.box 37 e.aoZ]⟩:=by
 intro b;induction b with
 |nil =>intro pre s f q g;have f:=db f;subst f;refine aF λa m=>?_;simp only[MI,VV,seval];exact⟨λh=>by simp at h,λ_=>g ..⟩
 |cons p b ih =>
 intro pre s f q g;subst f;have k:F pre+1+F b<2^40:=by simp at d;omega
 have v:=dY pre p (by omega);have n:bT (R++[.box 37 e.aoZ]):=cL r (by simp[En.aoZ,LW]);refine aF λa m=>?_;simp only[MI,Pn.aoZ,En.aoZ,VV,seval];refine⟨λ_=>⟨by simp;omega,?_⟩,λh=>by simp at h;omega⟩;refine aA (Dm p e c x z (w p (by simp)) _) (by simp only[Pn.aoZ,En.aoZ,VV,seval]) ?_;simp only[v,VV,seval];have B:0<=(if(if 0<p.points then p.points else 0)<100 then(if 0<p.points then p.points else 0)else 100)/\(if(if 0<p.points then p.points else 0)<100 then(if 0<p.points then p.points else 0)else 100)<=100:=by(repeat' split)<;>omega
 refine⟨λj=>?_,λj=>?_⟩
 .have y:IntKind.i64.wrap (s+if(if 0<p.points then p.points else 0)<100 then(if 0<p.points then p.points else 0)else 100)=s+if(if 0<p.points then p.points else 0)<100 then(if 0<p.points then p.points else 0)else 100:=IntWalk.i64_in _ (by omega);have i:(if(s+if(if 0<p.points then p.points else 0)<100 then(if 0<p.points then p.points else 0)else 100)<100 then(s+if(if 0<p.points then p.points else 0)<100 then(if 0<p.points then p.points else 0)else 100)else 100) =
    if(decide (0<p.points)&&lG p e c)=A then mn (s+mn p.points 100) 100 else s:=by
   rw[j,dM];by_cases o:0<p.points;.simp only[o,aU,kH,mn];(repeat' split)<;>omega
   simp only[o,aQ,uy,aI];(repeat' split)<;>omega
  have u:0<=(if(decide (0<p.points)&&lG p e c)=A then mn (s+mn p.points 100) 100 else s)/\(if(decide (0<p.points)&&lG p e c)=A then mn (s+mn p.points 100) 100 else s)<=100:=by rw[<- i];(repeat' split)<;>omega
  rw[y,i];exact m _ (cC [_] [_] n (by repeat' constructor) (by simp[LW]) (ih (pre++[p]) _ (by simp) u (by simpa only[mg]using g)))
 have i:(if(decide (0<p.points)&&lG p e c)=A then mn (s+mn p.points 100) 100 else s)=s:=by rw[j,ir];simp
 exact m _ (cC [_] [_] n (by repeat' constructor) (by simp[LW]) (ih (pre++[p]) s (by simp) q (by simpa only[mg,i]using g)))
def Fy(e:En)(a:Int)(g : -9223372036854775808<=a/\a<=9223372036854775807)(f : -9223372036854775808<=e.ao9/\e.ao9<=9223372036854775807) (b:F P<2^40) (d:∀p∈P,-9223372036854775808<=p.fw/\p.fw<=9223372036854775807) (J:ag):bO θ 54 [.sl 5 (P.map Pn.aoZ),.agg e.aoZ,.I a] J (.I (jm P e a)):=by refine a6 func54 c54 λc h=>ay ?_;simp only[p54,SS,seval];simp only[En.aoZ,ae,VV,seval];refine cd.aX (fr':=(uu 2 (.I a::uu 1 (.ptr (F J) 0::uu 2 (.I 0::uu 2 (.sl 5 (P.map Pn.aoZ)::.I (F P)::.I (F ([]:List Pn))::uu 16 [])))))) (by repeat' constructor) (F P+1) (Y8 e a c g f P b d P [] 0 rfl (by omega) ?_);simp only[JE];intros;simp only[VV,seval];exact km c (by simp only[RS,seval];rfl) (by simp only[LW])

set_option maxHeartbeats 1000000
def Bf(i:F T<=1024)(k d:Nat)(j:k+d<=F T)(e:En)(J:ag): bO θ 116 [.sl 8 (T.map En.aoZ),.I k,.agg e.aoZ,.I d] J (.sl 8 ((T.take k++e::T.drop (k+d)).map En.aoZ)):=by
 refine a6 func116 JF λg h=>ay ?_;have a:IntKind.i64.wrap ((k:Int)+(d:Int))=((k+d:Nat):Int):=by rw[show(k:Int)+(d:Int)=((k+d:Nat):Int)by omega];exact IntWalk.i64_in _ (by omega)
 simp only[adf,SS,seval];have f:F (List.take k (T.map En.aoZ))=k:=by rw[bB,ae];omega
 have b:List.take (F T - (k+d)) (List.drop (k+d) (T.map En.aoZ))=List.drop (k+d) (T.map En.aoZ):=cn (by simp);have c:F (List.drop (k+d) (T.map En.aoZ))=F T - (k+d):=by simp
 simp only[En.aoZ,a,f,b,c,ai,ae,aG,V.pure,VV,seval];refine⟨⟨by omega,by omega⟩,⟨by omega,by unfold maxLen;omega⟩,⟨by omega,by unfold maxLen;omega⟩,⟨by omega,by omega,by omega⟩,⟨by omega,by unfold maxLen;omega⟩,?_⟩;refine ru 1 g (.inr rfl) rfl rfl ?_ ?_;.simp[fz,sk,LW]
 refine⟨?_,rfl⟩;simp[fz,sk,one,En.aoZ,me,sn]
def Jb(e:En):Prop:=∃x,T[below T (bf e)]?=N x/\ed x=bf e
instance (m:List En) (e:En):Decidable (Jb m e) :=
 match h:m[below m (bf e)]? with
 |some x=>if b:ed x=bf e then .isTrue ⟨x,h,b⟩else .isFalse (λ⟨y,a,c⟩=>by rw[h]at a;cases a;exact b c)
 |none=>.isFalse (λ⟨y,a,_⟩=>by rw[h]at a;cases a)
def nD(e:En):Int:=if cJ e≠0 then cJ e else if Jb T e\/F T<1024 then 0 else 3
def uF(e:En):List En :=if nD T e=0 then T.take (below T (bf e))++e::T.drop (below T (bf e)+if Jb T e then 1 else 0)else[]
def UT(k:zJ T)(n:∀e∈T,e.apa)(e:En)(o:e.apa)(J:ag):bO θ 56 [.sl 8 (T.map En.aoZ),.agg e.aoZ] J (.gy [.sl 8 ((uF T e).map En.aoZ),.I (nD T e)]):=by
 refine a6 func56 c56 λi B=>ay ?_;have m:=k.len;have z:=TY T (bf e);simp only[p56,SS,seval];simp only[En.aoZ,↓IT,VV,seval];refine aA (KF T k n _) rfl ?_;simp only[↓IT,VV,seval];refine aA (sX e o _) (by simp only[En.aoZ,VV,seval]) ?_;simp only[↓IT,VV,seval];refine⟨λh=>?_,λh=>?_⟩
 .have h:cJ e≠0:=by simpa using h
  have x:nD T e=cJ e:=by rw[nD,aK h]
  refine pA (ys:=[.sl 8 [],.I (cJ e)]) i (.inr rfl) (by simp only[RS,seval]) (.cons (.nil _) (.cons (.refl _) .nil)) (by simp[LW]) ⟨?_,rfl⟩;rw[uF,x,au h];rfl
 have j:cJ e=0:=by simpa using h
 refine aA (qz e o _) (by simp only[En.aoZ,VV,seval]) ?_;simp only[↓IT,VV,seval];refine aA (KG T k n (bf e) _) rfl ?_;by_cases h:below T (bf e)<F T
 .have p:=cS h;have w:(T.map En.aoZ).getD (below T (bf e)) []=T[below T (bf e)].aoZ:=by simp[aq,h]
  have l:decide ((below T (bf e):Int)<(F T:Int))=A:=by simp;omega
  have r:T[below T (bf e)].aoZ.take 8=T[below T (bf e)].aoZ:=by simp[En.aoZ]
  have t:bf T[below T (bf e)]=ed T[below T (bf e)]:=by rw[bf,au (by rw[k.ok _ p];decide)]
  have q:T[below T (bf e)]?=N T[below T (bf e)]:=an h;simp only[ae,l,w,r,aG,VV,seval];refine⟨⟨by omega,by omega⟩,.agg T[below T (bf e)].aoZ,⟨rfl,by simp[En.aoZ]⟩,?_⟩;refine b7 (c:=A) (by simp only[VV,seval]<;>rfl) (λ_=>qz T[below T (bf e)] (n _ p) _) rfl ?_;simp only[t,↓IT,VV,seval];refine b7 (c:=A) (by simp only[En.aoZ,VV,seval]<;>rfl) (λ_=>qz e o _) rfl ?_;simp only[↓IT,VV,seval];refine⟨λg=>?_,λg=>?_⟩
  .have g:ed T[below T (bf e)]=bf e:=by simpa using g
   have f:Jb T e:=⟨_,q,g⟩;have b:nD T e=0:=by rw[nD,au (by simp[j]),aK (.inl f)]
   refine aA (Bf T m (below T (bf e)) 1 (by omega) e _) (by simp only[En.aoZ,VV,seval]) ?_;simp only[↓IT,VV,seval];exact bl i (.inr rfl) (by simp only[RS,seval];rfl) (by simp[LW]) ⟨by rw[uF,aK b,b,aK f];rfl,rfl⟩
  have g:ed T[below T (bf e)]≠bf e:=by simpa using g
  have f:¬Jb T e:=λ⟨y,a,d⟩=>by rw[q]at a;cases a;exact g d
  refine⟨λa=>?_,λa=>?_⟩
  .have a:1024<=F T:=by simp at a;omega
   have b:nD T e=3:=by rw[nD,au (by simp[j]),au (λd=>d.elim f λd=>by omega)]
   exact pA (ys:=[.sl 8 [],.I 3]) i (.inr rfl) (by simp only[RS,seval]) (.cons (.nil _) (.cons (.refl _) .nil)) (by simp[LW]) ⟨by rw[uF,b,au (by decide)];rfl,rfl⟩
  have a:F T<1024:=by simp at a;omega
  have b:nD T e=0:=by rw[nD,au (by simp[j]),aK (.inr a)]
  refine aA (Bf T m (below T (bf e)) 0 (by omega) e _) (by simp only[En.aoZ,VV,seval]) ?_;simp only[↓IT,VV,seval];exact bl i (.inr rfl) (by simp only[RS,seval];rfl) (by simp[LW]) ⟨by rw[uF,aK b,b,au f];rfl,rfl⟩
 have l:decide ((below T (bf e):Int)<(F T:Int))=Z:=by simp;omega
 have f:¬Jb T e:=λ⟨y,a,d⟩=>h (ab.1 a).1;simp only[ae,l,VV,seval];refine⟨nofun,.u,nofun,?_⟩;refine b7 (c:=Z) (v:=.s []) (by simp only[VV,seval]<;>rfl) (nofun) rfl ?_;simp only[↓IT,VV,seval];refine b7 (c:=Z) (v:=.s []) (by simp only[VV,seval]<;>rfl) (nofun) rfl ?_;simp only[↓IT,VV,seval];refine⟨λa=>?_,λa=>?_⟩
 .have a:1024<=F T:=by simp at a;omega
  have b:nD T e=3:=by rw[nD,au (by simp[j]),au (λd=>d.elim f λd=>by omega)]
  exact pA (ys:=[.sl 8 [],.I 3]) i (.inr rfl) (by simp only[RS,seval]) (.cons (.nil _) (.cons (.refl _) .nil)) (by simp[LW]) ⟨by rw[uF,b,au (by decide)];rfl,rfl⟩
 have a:F T<1024:=by simp at a;omega
 have b:nD T e=0:=by rw[nD,au (by simp[j]),aK (.inr a)]
 refine aA (Bf T m (below T (bf e)) 0 (by omega) e _) (by simp only[En.aoZ,VV,seval]) ?_;simp only[↓IT,VV,seval];exact bl i (.inr rfl) (by simp only[RS,seval];rfl) (by simp[LW]) ⟨by rw[uF,aK b,b,au f];rfl,rfl⟩
def H5(e:En)(l:List Pn)(q:Qr)(h:L6 e l q)(h1:F e.ao2<2^38)(j:aR e.ao2<2^38)(k:F q.ao2<2^38)(m:aR q.ao2<2^38)(i:F (cR e.ao2)<2^27)(f:F (cR q.ao2)<2^27)(J:ag): bO θ 21 [.agg e.aoZ,.sl 5 (l.map Pn.aoZ),.agg q.aoZ] J (.agg (oH e l q).aoZ):=by
 refine a6 func21 c21 λg p=>ay ?_;simp only[p21,SS,seval];simp only[Qr.aoZ,En.aoZ,VV,seval];intro t;refine aA (wg e.ao2 h1 j _) rfl ?_;simp only[VV,seval];intro u;refine aA (wg q.ao2 k m _) rfl ?_;simp only[VV,seval];intro o;refine aA (Dq _ _ i f _) rfl ?_;simp only[VV,seval];intro r;refine aA (Fy l e q.now h.now h.ao9 h.len h.fw _) (by simp only[En.aoZ,VV,seval]) ?_;have n:=s3 (cR e.ao2) (cR q.ao2) (Cq _ _ i f).1;have s:0<=jm l e q.now/\jm l e q.now<=100:=rA e q.now l 0 (by omega);have v:=zC e q;have d:∀x:Int,(if 0<x then x else 0)=mx x 0:=λx=>by unfold mx;(repeat' split)<;>omega
 simp only[VV,seval];refine⟨λb=>?_,λb=>?_⟩
 .have h1:dm (cR e.ao2) (cR q.ao2)=100:=by simpa using b
  refine aA (Dr e q _) (by simp only[En.aoZ,Qr.aoZ,VV,seval]) ?_;have a:IntKind.i64.wrap (dm (cR e.ao2) (cR q.ao2)+iC e q)=dm (cR e.ao2) (cR q.ao2)+iC e q:=IntWalk.i64_in _ (by omega);have c:IntKind.i64.wrap (dm (cR e.ao2) (cR q.ao2)+iC e q - jm l e q.now)=dm (cR e.ao2) (cR q.ao2)+iC e q - jm l e q.now:=IntWalk.i64_in _ (by omega);simp only[a,c,d,VV,seval];exact bl g (.inr rfl) (by simp only[RS,seval];rfl) (by simp only[LW]) ⟨by simp only[oH,ig,Mt.aoZ,h1,one,aU],rfl⟩
 have h1:¬dm (cR e.ao2) (cR q.ao2)=100:=by simpa using b
 have a:IntKind.i64.wrap (dm (cR e.ao2) (cR q.ao2)+0)=dm (cR e.ao2) (cR q.ao2)+0:=IntWalk.i64_in _ (by omega);have c:IntKind.i64.wrap (dm (cR e.ao2) (cR q.ao2)+0 - jm l e q.now)=dm (cR e.ao2) (cR q.ao2)+0 - jm l e q.now:=IntWalk.i64_in _ (by omega);simp only[a,c,d,VV,seval];exact bl g (.inr rfl) (by simp only[RS,seval];rfl) (by simp only[LW]) ⟨by simp only[oH,ig,Mt.aoZ,h1,one,aQ],rfl⟩
end Go.Proofs.Tryz

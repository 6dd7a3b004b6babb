/- A part of a proof; the claim's last text says of what. -/
import Derived.Test.YtlakkaamfadipaaGreatDoorB26
set_option linter.all false

namespace Go.Proofs.Tryz
open Go Go.Pm Go.Bt
def Sh(a b c:Sm)(n:a.ok (2^40))(j:b.ok (2^40))(t:c.ok (2^40))(J:ak):bM prog 120 [.agg (Mk a),.agg (Mk b),.agg (Mk c)] J (.I (Bb a b c)):=by
 refine aZ func120 amj.2 λk w=>au ?_;obtain⟨D,E,F⟩:=n;obtain⟨v,A,B⟩:=j;obtain⟨G,u,z⟩:=t;simp only[amj,Mk,SS,seval];have h:∀x y:Int,(if x<y then y else x)=mx x y:=λ_ _=>rfl;have o:0<=mx a.weight b.weight/\mx a.weight b.weight<=2^40:=by unfold mx;split<;>omega
 have q:0<=mx a.jq b.jq/\mx a.jq b.jq<=2^40:=by unfold mx;split<;>omega
 have e:IntKind.i64.wrap (mx a.weight b.weight - c.weight)=mx a.weight b.weight - c.weight:=IntWalk.i64_in _ (by omega);have r:IntKind.i64.wrap (a.tags+b.tags)=a.tags+b.tags:=IntWalk.i64_in _ (by omega);have g:IntKind.i64.wrap (2*c.tags)=2*c.tags:=IntWalk.i64_in _ (by omega);have f:IntKind.i64.wrap (a.tags+b.tags - 2*c.tags)=a.tags+b.tags - 2*c.tags:=IntWalk.i64_in _ (by omega);have s:IntKind.i64.wrap (3*(a.tags+b.tags - 2*c.tags))=3*(a.tags+b.tags - 2*c.tags):=IntWalk.i64_in _ (by omega);have i:IntKind.i64.wrap (mx a.weight b.weight - c.weight+3*(a.tags+b.tags - 2*c.tags))=mx a.weight b.weight - c.weight+3*(a.tags+b.tags - 2*c.tags):=IntWalk.i64_in _ (by omega);have l:IntKind.i64.wrap (mx a.jq b.jq - c.jq)=mx a.jq b.jq - c.jq:=IntWalk.i64_in _ (by omega);have m:IntKind.i64.wrap (mx a.jq b.jq - c.jq+1)=mx a.jq b.jq - c.jq+1:=IntWalk.i64_in _ (by omega);have C:=US (mx a.jq b.jq - c.jq+1) (2^41) 2 (by omega) (by omega);have p:IntKind.i64.wrap ((mx a.jq b.jq - c.jq+1).tdiv 2)=(mx a.jq b.jq - c.jq+1).tdiv 2:=IntWalk.i64_in _ (by omega);have d:IntKind.i64.wrap (4*(mx a.jq b.jq - c.jq+1).tdiv 2)=4*(mx a.jq b.jq - c.jq+1).tdiv 2:=IntWalk.i64_in _ (by omega);simp only[h,e,r,g,f,s,i,l,m,p,d,VV,seval];exact gq k (by simp only[RS,seval];rfl) (by simp only[LW])
def KI(t p:Int)(m:0<=t/\t<=2^40)(i : -(2^40)<=p/\p<=2^40)(J:ak):bM prog 121 [.I t,.I p] J (.I (sg t p)):=by
 refine aZ func121 ami.2 λn j=>au ?_;simp only[ami,SS,seval];simp only[VV,seval];refine⟨λh=>?_,λh=>⟨λb=>?_,λb=>?_⟩⟩
 .have a:100<p:=by simpa using h
  exact aO (.inr rfl) rfl ⟨by simp only[sg,az a,Pm.one];rfl,rfl⟩
 .have a:¬100<p:=by simpa using h
  have c:p<1\/t<1:=by simpa using b
  exact aO (.inr rfl) rfl ⟨by simp only[sg,an a,az c,Pm.one];rfl,rfl⟩
 .have a:¬100<p:=by simpa using h
  have c:¬(p<1\/t<1):=by simp only[iv,dB]at b;omega
  have d:0<=(if 1073741824<t then 1073741824 else t)/\(if 1073741824<t then 1073741824 else t)<=1073741824:=by split<;>omega
  have e:IntKind.i64.wrap (100 - p)=100 - p:=IntWalk.i64_in _ (by omega);have l:(if 1073741824<t then 1073741824 else t)*(100 - p)<=1073741824*100:=Df d.2 (by omega) (by omega) (by omega);have k:0<=(if 1073741824<t then 1073741824 else t)*(100 - p):=De d.1 (by omega);have g:IntKind.i64.wrap ((if 1073741824<t then 1073741824 else t)*(100 - p))=(if 1073741824<t then 1073741824 else t)*(100 - p):=IntWalk.i64_in _ (by omega);have o:=US ((if 1073741824<t then 1073741824 else t)*(100 - p)) (1073741824*100) 100 (by omega) (by omega);have f:IntKind.i64.wrap (((if 1073741824<t then 1073741824 else t)*(100 - p)).tdiv 100)=((if 1073741824<t then 1073741824 else t)*(100 - p)).tdiv 100:=IntWalk.i64_in _ (by omega);simp only[e,g,f];exact aO (.inr rfl) rfl ⟨by simp only[sg,an a,an c,Pm.one];rfl,rfl⟩

set_option maxRecDepth 4000
set_option maxHeartbeats 1000000
def XD{S:ak}{K:bl}(x:Nat)(hx:x<S.length)(H A:Ob)(g:Gr)(hg:0<=g.2)(r L:Nat)(gs:List Gr)(s:Nat)(d:eR)(Z:∀p∈d,0<=p.2)(U:d.length<2^30)(hr:S[r]?=some (mo 190 L d))(M:A=.box 182 (yw g))(bn:∀O:List wo,cn (S++[H,.map 3 160 (emap fZ uS O),A])):∀(rest pre:eR) (O:List wo) (m:Int),d=pre++rest->OB m O->m+nL (oK g.2 rest)<=2^40 ->
  ((fh (.ptr x 0) (fj 2 (fh (.ptr S.length 0) (fj 1 (fh (.mp (S.length+1)) (fj 1 (fh (.ptr (S.length+2) 0) (fj 10 (fh (.sl 3 (gs.map yw)) (fh (.I gs.length) (fh (.I s) (fj 87 fo)))))))))))) λZZ=>K (.exit 2) ⟨ZZ,S++[H,.map 3 160 (emap fZ uS (fV O (oK g.2 rest))),A]⟩) ->
  fm S.length prog FF K (rest.length+1) ⟨(.ptr x 0::uu 2 (.ptr S.length 0::uu 1 (.mp (S.length+1)::uu 1 (.ptr (S.length+2) 0::uu 10 (.sl 3 (gs.map yw)::.I gs.length::.I s::uu 12 (.own r L::.I d.length::.I pre.length::uu 72 [])))))),S++[H,.map 3 160 (emap fZ uS O),A]⟩:=by
 have tm:=(ah.1 hr).1;have X:∀l,(S++l)[r]?=some (.row 190 2 16 L false (d.map Ab)):=λl=>by rw[ay tm];exact hr
 intro rest
 induction rest with
 |nil =>
  intro pre O m f y N B;have f:=cN f
  subst f;refine ar λR P=>?_;simp only[FF,VV,seval];exact⟨λh=>by simp at h,λ_=>B ..⟩
 |cons p rest ih =>
  intro pre O m f y N B;have sr:d.length=pre.length+1+rest.length:=by rw[f];simp;omega
  have W:=dh pre p (by omega)
  have E:(d.map Ab).getD pre.length []=Ab p:=by rw[f];simp[aq]
  have hd:decide ((pre.length:Int)<(d.length:Int))=true:=by simp;omega
  have u:∀a b:Int,(if b<a then b else a)=mn a b:=λ_ _=>rfl;subst M;refine ar λR P=>?_;simp only[Ab]at E;have MU:=Z p (by rw[f];simp);have J:0<=mn p.2 g.2:=by unfold mn;split<;>omega
  have k:oK g.2 (p::rest)=(p.1,(⟨mn p.2 g.2,0,0⟩:Sm))::oK g.2 rest:=rfl
  have Q:YM (oK g.2 rest):=λi Y=>by
   simp only[oK,bF]at Y;obtain⟨q,hq,rfl⟩:=Y;have:=Z q (by rw[f];simp[hq]);exact⟨by simp only[mn];split<;>omega,dJ _,dJ _⟩
  have aa:=Bs Q;rw[k,Fv]at N;have jD:(⟨mn p.2 g.2,0,0⟩:Sm).size=mn p.2 g.2:=by simp[Sm.size]
  have o:=y.add (i:=(p.1,(⟨mn p.2 g.2,0,0⟩:Sm))) ⟨J,dJ _,dJ _⟩;have T:=y.getD p.1;have ab:=y.1;simp only[jD]at N o;have c:=ih (pre++[p]) (B9 O (p.1,⟨mn p.2 g.2,0,0⟩)) (m+mn p.2 g.2) (by rw[f];simp) o (by omega) (by rw[k]at B;exact B);have v:=bn (B9 O (p.1,⟨mn p.2 g.2,0,0⟩));simp only[yw]at c v;rcases oc (ve:=uS) JA O p.1 with⟨C,t,w⟩|⟨i,b,C,t,w⟩
  .simp only[fZ]at t w;have G:IntKind.i64.wrap (0+mn p.2 g.2)=0+mn p.2 g.2:=IntWalk.i64_in _ (by omega);have e:uS ((Cd).add ⟨mn p.2 g.2,0,0⟩)=.agg [.I (0+mn p.2 g.2),.I 0,.I 0]:=by simp[uS,Mk,Cd,Sm.add]
   have F:B9 O (p.1,⟨mn p.2 g.2,0,0⟩)=iZ O p.1 ((Cd).add ⟨mn p.2 g.2,0,0⟩):=by simp[B9,C]
   have n:=w ((Cd).add ⟨mn p.2 g.2,0,0⟩);rw[e]at n;rw[F]at c v;simp only[FF,yw,X,E,hd,u,ek,t,G,ao,ag,eS,V.lO,V.cell,VV,seval];simp only[W,n];exact⟨⟨by omega,by omega⟩,rfl,rfl,P _ (cG [_,_,_] [_,_] v (by repeat' constructor) (by simp[LW];omega) c)⟩
  .simp only[fZ]at t w;obtain⟨j,z,D⟩:=b;rw[C]at T;simp only[kQ]at T;obtain⟨⟨o1,o2⟩,⟨o3,o4⟩,o5,o6⟩:=T;simp only at o1 o2 o3 o4 o5 o6;have G:IntKind.i64.wrap (j+mn p.2 g.2)=j+mn p.2 g.2:=IntWalk.i64_in _ (by omega);have e:uS ((⟨j,z,D⟩:Sm).add ⟨mn p.2 g.2,0,0⟩)=.agg [.I (j+mn p.2 g.2),.I z,.I D]:=by simp[uS,Mk,Sm.add]
   have F:B9 O (p.1,⟨mn p.2 g.2,0,0⟩)=iZ O p.1 ((⟨j,z,D⟩:Sm).add ⟨mn p.2 g.2,0,0⟩):=by simp[B9,C]
   have n:=w ((⟨j,z,D⟩:Sm).add ⟨mn p.2 g.2,0,0⟩);rw[e]at n;rw[F]at c v;simp only[FF,yw,X,E,hd,u,ek,t,G,uS,Mk,ao,ag,eS,V.lO,V.cell,VV,seval];simp only[W,n];exact⟨⟨by omega,by omega⟩,rfl,rfl,P _ (cG [_,_,_] [_,_] v (by repeat' constructor) (by simp[LW];omega) c)⟩
def XC{eb:Nat}{S:ak}{K:bl}(x W t P:Nat)(Y:S[x]?=some (.box 170 [.mp W,.mp t,.mp P]))(s:Ob)(o:List (GK×(Nat×Nat)))(a:GK->eR)(N:S[t]?=some (.map 184 eb (emap wA sS o)))
  (dd:∀k r g,cX k o=some (r,g)->S[r]?=some (mo 190 g (a k))) (J:∀k,cX k o=none->a k=[]) (B:∀k,∀p∈a k,0<=p.2) (yu:∀k,(a k).length<2^30) (gs:List Gr) (G:∀g∈gs,0<=g.2) (T:gs.length<2^30) (Q:∀O:List wo,cn (S++[s,.map 3 160 (emap fZ uS O)])):∀(rest pre:List Gr) (O:List wo) (m:Int),gs=pre++rest->OB m O->m+nL (rest.flatMap λg=>oK g.2 (a g.1))<=2^40 ->
  ((fh (.ptr x 0) (fj 2 (fh (.ptr S.length 0) (fj 1 (fh (.mp (S.length+1)) (fj 102 fo)))))) λZZ=>K (.exit 0) ⟨ZZ,S++[s,.map 3 160 (emap fZ uS (fV O (rest.flatMap λg=>oK g.2 (a g.1))))]⟩) ->
  fm S.length prog Jc K (rest.length+1) ⟨(.ptr x 0::uu 2 (.ptr S.length 0::uu 1 (.mp (S.length+1)::uu 12 (.sl 3 (gs.map yw)::.I gs.length::.I pre.length::uu 87 [])))),S++[s,.map 3 160 (emap fZ uS O)]⟩:=by
 have xc:=(ah.1 Y).1;have vF:∀l,(S++l)[x]?=some (.box 170 [.mp W,.mp t,.mp P]):=λl=>by rw[ay xc];exact Y
 have A:=(ah.1 N).1;have j:∀l,(S++l)[t]?=some (.map 184 eb (emap wA sS o)):=λl=>by rw[ay A];exact N
 intro rest
 induction rest with
 |nil =>
  intro pre O m c z hm n;have c:=cN c
  subst c;refine ar λR L=>?_;simp only[Jc,VV,seval];exact⟨λh=>by simp at h,λ_=>n ..⟩
 |cons g rest ih =>
  intro pre O m c z hm n;have sr:gs.length=pre.length+1+rest.length:=by rw[c];simp;omega
  have U:=dh pre g (by omega)
  have w:(gs.map yw).getD pre.length []=yw g:=by rw[c];simp[aq]
  have Z:decide ((pre.length:Int)<(gs.length:Int))=true:=by simp;omega
  have hI:(g::rest).flatMap (λg=>oK g.2 (a g.1))=oK g.2 (a g.1)++rest.flatMap λg=>oK g.2 (a g.1):=by simp
  rw[hI,xS]at hm;rw[hI]at n;have hA:fV O (oK g.2 (a g.1)++rest.flatMap λg=>oK g.2 (a g.1))=fV (fV O (oK g.2 (a g.1))) (rest.flatMap λg=>oK g.2 (a g.1)):=by simp[fV]
  rw[hA]at n
  have M:YM (oK g.2 (a g.1)):=λi f=>by
   simp only[oK,bF]at f;obtain⟨q,D,rfl⟩:=f;have:=B _ q D;have:=G g (by rw[c];simp);exact⟨by simp only[mn];split<;>omega,dJ _,dJ _⟩
  have y:YM (rest.flatMap λg=>oK g.2 (a g.1)):=λi f=>by
   simp only[oK,nN,bF]at f;obtain⟨g',C,q,D,rfl⟩:=f;have:=B _ q D;have:=G g' (by rw[c];simp[C]);exact⟨by simp only[mn];split<;>omega,dJ _,dJ _⟩
  have d:=ih (pre++[g]) (fV O (oK g.2 (a g.1))) (m+nL (oK g.2 (a g.1))) (by rw[c];simp) (z.apply _ M) (by omega) n;have ab:=Bs y;have u:=Q (fV O (oK g.2 (a g.1)));refine ar λR L=>?_;simp only[yw]at w;rcases oc (ve:=sS) F3 o g.1 with⟨F,e,v⟩|⟨i,b,F,e,v⟩
  .simp only[wA]at e v;simp only[Jc,yw,vF,j,w,Z,ek,e,ao,ag,eS,V.lO,V.cell,VV,seval];have hf:=J _ F;rw[hf]at d u;simp only[oK,bR,fV,tf]at d u;refine⟨⟨by omega,by omega⟩,bZ.uh 1 (ar λR' aa=>?_)⟩;simp only[FF,U,xF,aI,false_implies,gA,VV,seval];exact L _ (cG [_,_] [_] u (by repeat' constructor) (by simp[LW];omega) d)
  .simp only[wA]at e v;obtain⟨r,E⟩:=b;have H:=dd _ _ _ F;have X:∀l,(S++l)[r]?=some (mo 190 E (a g.1)):=λl=>by rw[ay (ah.1 H).1];exact H
   simp only[mo]at X;simp only[sS]at e v;simp only[Jc,yw,vF,j,w,Z,ek,e,X,ao,ag,eS,V.lO,V.cell,VV,seval];refine⟨⟨by omega,by omega⟩,bZ.aK (fr':=(.ptr x 0::uu 2 (.ptr S.length 0::uu 1 (.mp (S.length+1)::uu 1 (.ptr (S.length+2) 0::uu 10 (.sl 3 (gs.map yw)::.I gs.length::.I pre.length::uu 12 (.own r E::.I (a g.1).length::.I ([]:eR).length::uu 72 []))))))) (by repeat' constructor) ((a g.1).length+1) (XD x xc s _ g (G g (by rw[c];simp)) r E gs pre.length (a g.1) (B _) (yu _) H rfl ?_ (a g.1) [] O m rfl z (by omega) ?_)⟩
   .intro O';have h:=cC (Q O') (l:=[.box 182 (yw g)]) (by simp[yw,LW]);simpa using h
   .simp only[JE];intros;simp only[VV,seval];simp only[U];refine L _ (cG [_,_] [_] u (by repeat' constructor) (by simp[LW];omega) d)

set_option maxRecDepth 4000
set_option maxHeartbeats 1000000
def XB{S:ak}{K:bl}(x:Nat)(hx:x<S.length)(X IT:Ob)(k:TK)(c:Int)(hc:0<=c)(r g0:Nat)(j:eR)(pU:∀p∈j,0<=p.2)(ab:j.length<2^30)(hr:S[r]?=some (mo 190 g0 j))(bn:∀O:List wo,cn (S++[X,.map 3 160 (emap fZ uS O),IT,.box 150 [.I k.1,.s k.2,.I 0]])):∀(rest pre:eR) (O:List wo) (m:Int),j=pre++rest->OB m O->m+nL (uL k c rest)<=2^40 ->
  ((fh (.ptr x 0) (fj 2 (fh (.ptr S.length 0) (fj 1 (fh (.mp (S.length+1)) (fj 54 (fh (.it (S.length+2)) (fj 47 fo)))))))) λZZ=>K (.exit 6) ⟨ZZ,S++[X,.map 3 160 (emap fZ uS (fV O (uL k c rest))),IT,.box 150 [.I k.1,.s k.2,.I 0]]⟩) ->
  fm S.length prog FE K (rest.length+1) ⟨(.ptr x 0::uu 2 (.ptr S.length 0::uu 1 (.mp (S.length+1)::uu 5 (.ptr (S.length+3) 0::.I c::uu 47 (.it (S.length+2)::uu 10 (.own r g0::.I j.length::.I pre.length::uu 34 [])))))),S++[X,.map 3 160 (emap fZ uS O),IT,.box 150 [.I k.1,.s k.2,.I 0]]⟩:=by
 have tm:=(ah.1 hr).1;have vH:∀l,(S++l)[r]?=some (.row 190 2 16 g0 false (j.map Ab)):=λl=>by rw[ay tm];exact hr
 intro rest
 induction rest with
 |nil =>
  intro pre O m o M v Q;have o:=cN o
  subst o;refine ar λR J=>?_;simp only[FE,VV,seval];exact⟨λh=>by simp at h,λ_=>Q ..⟩
 |cons p rest ih =>
  intro pre O m o M v Q;have sr:j.length=pre.length+1+rest.length:=by rw[o];simp;omega
  have P:=dh pre p (by omega)
  have U:(j.map Ab).getD pre.length []=Ab p:=by rw[o];simp[aq]
  have hd:decide ((pre.length:Int)<(j.length:Int))=true:=by simp;omega
  have d:∀a b:Int,(if b<a then b else a)=mn a b:=λ_ _=>rfl;refine ar λR J=>?_;simp only[Ab]at U;have MU:=pU p (by rw[o];simp);have Z:0<=mn p.2 c:=by unfold mn;split<;>omega
  have G:0<=weight ⟨k.1,k.2,0⟩/\weight ⟨k.1,k.2,0⟩<=4:=by unfold weight;(repeat' split)<;>omega
  have ac:0<=mn p.2 c*weight ⟨k.1,k.2,0⟩:=De Z G.1;let z:Sm:=if qK k then⟨0,0,mn p.2 c⟩else⟨0,mn p.2 c*weight ⟨k.1,k.2,0⟩,0⟩
  have N:z=if qK k then⟨0,0,mn p.2 c⟩else⟨0,mn p.2 c*weight ⟨k.1,k.2,0⟩,0⟩:=rfl
  have E:uL k c (p::rest)=(p.1,z)::uL k c rest:=rfl
  have F:∀q:Int×Int,0<=q.2->(if qK k then(⟨0,0,mn q.2 c⟩:Sm)else⟨0,mn q.2 c*weight ⟨k.1,k.2,0⟩,0⟩).nn:=λq hq=>by
   have h0:0<=mn q.2 c:=by unfold mn;split<;>omega
   split
   .exact⟨dJ _,dJ _,h0⟩
   .exact⟨dJ _,De h0 G.1,dJ _⟩
  have aa:YM (uL k c rest):=λi hi=>by
   simp only[uL,bF]at hi;obtain⟨q,hq,rfl⟩:=hi;exact F q (pU q (by rw[o];simp[hq]))
  have ad:=Bs aa;rw[E,Fv]at v;have Y:=M.add (i:=(p.1,z)) (F p MU);have ll:=M.getD p.1;have af:=M.1;have g:=ih (pre++[p]) (B9 O (p.1,z)) (m+z.size) (by rw[o];simp) Y (by simp only at v;omega) (by rw[E]at Q;exact Q);have H:=bn (B9 O (p.1,z));have T:∃b:Sm,(cX p.1 O).getD Cd=b:=⟨_,rfl⟩;obtain⟨⟨D,w,y⟩,C⟩:=T;rw[C]at ll;obtain⟨⟨o1,o2⟩,⟨o3,o4⟩,o5,o6⟩:=ll;simp only at o1 o2 o3 o4 o5 o6;have e2:B9 O (p.1,z)=iZ O p.1 ((⟨D,w,y⟩:Sm).add z):=by simp only[B9,C]
  rw[e2]at g H;rcases oc (ve:=uS) JA O p.1 with⟨g1,t,L⟩|⟨i,b,g1,t,L⟩
  .simp only[fZ]at t L;rw[g1]at C;cases C;have n:=L ((⟨0,0,0⟩:Sm).add z);simp only[FE,vH,U,hd,d,ek,t,ao,ag,eS,V.lO,V.cell,VV,seval];have W:b9 ⟨k.1,k.2,0⟩=qK k:=rfl;refine⟨⟨by omega,by omega⟩,rfl,?_⟩;refine aw (zy ⟨k.1,k.2,0⟩ _) rfl ?_;simp only[W,VV,seval];refine⟨λhT=>?_,λhT=>?_⟩
   .have f:z=⟨0,0,mn p.2 c⟩:=by rw[N,az hT]
    have u:z.size=mn p.2 c:=by rw[f];simp[Sm.size]
    have A:IntKind.i64.wrap (0+mn p.2 c)=0+mn p.2 c:=IntWalk.i64_in _ (by simp only[u]at v;omega);have e:uS ((⟨0,0,0⟩:Sm).add z)=.agg [.I 0,.I 0,.I (0+mn p.2 c)]:=by simp[uS,Mk,Cd,Sm.add,f]
    rw[e]at n;simp only[d,A,ek,t,eS,V.lO,V.cell,uS,Mk,VV,seval];simp only[P,n];exact⟨rfl,J _ (cG [_,_,_,_] [_,_] H (by repeat' constructor) (by simp[LW];omega) g)⟩
   .have f:z=⟨0,mn p.2 c*weight ⟨k.1,k.2,0⟩,0⟩:=by rw[N,an (by simp[hT])]
    have u:z.size=mn p.2 c*weight ⟨k.1,k.2,0⟩:=by rw[f];simp[Sm.size]
    have B:IntKind.i64.wrap (mn p.2 c*weight ⟨k.1,k.2,0⟩)=mn p.2 c*weight ⟨k.1,k.2,0⟩:=IntWalk.i64_in _ (by simp only[u]at v;omega);have A:IntKind.i64.wrap (0+mn p.2 c*weight ⟨k.1,k.2,0⟩)=0+mn p.2 c*weight ⟨k.1,k.2,0⟩:=IntWalk.i64_in _ (by simp only[u]at v;omega);have e:uS ((⟨0,0,0⟩:Sm).add z)=.agg [.I 0,.I (0+mn p.2 c*weight ⟨k.1,k.2,0⟩),.I 0]:=by simp[uS,Mk,Cd,Sm.add,f]
    rw[e]at n;refine aw (qZ ⟨k.1,k.2,0⟩ _) rfl ?_;simp only[d,B,A,ek,t,eS,V.lO,V.cell,uS,Mk,VV,seval];simp only[P,n];exact⟨rfl,J _ (cG [_,_,_,_] [_,_] H (by repeat' constructor) (by simp[LW];omega) g)⟩
  .simp only[fZ]at t L;rw[g1]at C;cases C;have n:=L ((⟨D,w,y⟩:Sm).add z);simp only[FE,vH,U,hd,d,ek,t,uS,Mk,ao,ag,eS,V.lO,V.cell,VV,seval];have W:b9 ⟨k.1,k.2,0⟩=qK k:=rfl;refine⟨⟨by omega,by omega⟩,rfl,?_⟩;refine aw (zy ⟨k.1,k.2,0⟩ _) rfl ?_;simp only[W,VV,seval];refine⟨λhT=>?_,λhT=>?_⟩
   .have f:z=⟨0,0,mn p.2 c⟩:=by rw[N,az hT]
    have u:z.size=mn p.2 c:=by rw[f];simp[Sm.size]
    have A:IntKind.i64.wrap (y+mn p.2 c)=y+mn p.2 c:=IntWalk.i64_in _ (by simp only[u]at v;omega);have e:uS ((⟨D,w,y⟩:Sm).add z)=.agg [.I D,.I w,.I (y+mn p.2 c)]:=by simp[uS,Mk,Cd,Sm.add,f]
    rw[e]at n;simp only[d,A,ek,t,eS,V.lO,V.cell,uS,Mk,VV,seval];simp only[P,n];exact⟨rfl,J _ (cG [_,_,_,_] [_,_] H (by repeat' constructor) (by simp[LW];omega) g)⟩
   .have f:z=⟨0,mn p.2 c*weight ⟨k.1,k.2,0⟩,0⟩:=by rw[N,an (by simp[hT])]
    have u:z.size=mn p.2 c*weight ⟨k.1,k.2,0⟩:=by rw[f];simp[Sm.size]
    have B:IntKind.i64.wrap (mn p.2 c*weight ⟨k.1,k.2,0⟩)=mn p.2 c*weight ⟨k.1,k.2,0⟩:=IntWalk.i64_in _ (by simp only[u]at v;omega);have A:IntKind.i64.wrap (w+mn p.2 c*weight ⟨k.1,k.2,0⟩)=w+mn p.2 c*weight ⟨k.1,k.2,0⟩:=IntWalk.i64_in _ (by simp only[u]at v;omega);have e:uS ((⟨D,w,y⟩:Sm).add z)=.agg [.I D,.I (w+mn p.2 c*weight ⟨k.1,k.2,0⟩),.I y]:=by simp[uS,Mk,Cd,Sm.add,f]
    rw[e]at n;refine aw (qZ ⟨k.1,k.2,0⟩ _) rfl ?_;simp only[d,B,A,ek,t,eS,V.lO,V.cell,uS,Mk,VV,seval];simp only[P,n];exact⟨rfl,J _ (cG [_,_,_,_] [_,_] H (by repeat' constructor) (by simp[LW];omega) g)⟩
def XA{ec:Nat}{S:ak}{K:bl}(x m1 m2 E z:Nat)(hx:S[x]?=some (.box 170 [.mp m1,.mp m2,.mp E]))(F:Ob)(B:List (TK×(Nat×Nat)))(e:TK->eR)(h3:S[E]?=some (.map 150 ec (emap lD sS B)))
  (dd:∀k r g,cX k B=some (r,g)->S[r]?=some (mo 190 g (e k))) (aa:∀k,cX k B=none->e k=[]) (T:∀k,∀p∈e k,0<=p.2) (yu:∀k,(e k).length<2^30) (C:List (TK×Int)) (w:S[z]?=some (.map 150 3 (emap lD fZ C))) (VW:∀p∈C,0<=p.2)
  (bn:∀(O:List wo) a f,cn (S++[F,.map 3 160 (emap fZ uS O),.iter false z 3 (emap lD fZ C).length a f])):∀(N:Nat) (a:dK) (f:cU) (O:List wo) (m:Int),a.length<=N->a.Nodup->(∀p∈a,p<C.length)->OB m O->m+nL ((a.map λi=>C.getD i ((0,[]),0)).flatMap λk=>uL k.1 k.2 (e k.1))<=2^40 ->
  (∀(D:List (TK×Int)) (u:dK) (n:cU),D.Perm (a.map λi=>C.getD i ((0,[]),0))->((fj 5 (fh (.mp (S.length+1)) (fj 102 fo))) λZZ=>K (.exit 4) ⟨ZZ,S++[F,.map 3 160 (emap fZ uS (fV O (D.flatMap λk=>uL k.1 k.2 (e k.1)))),.iter false z 3 (emap lD fZ C).length u n]⟩)) ->
  fm S.length prog N3 K (N+1) ⟨(.ptr x 0::uu 2 (.ptr S.length 0::uu 1 (.mp (S.length+1)::uu 54 (.it (S.length+2)::uu 47 [])))),S++[F,.map 3 160 (emap fZ uS O),.iter false z 3 (emap lD fZ C).length a f]⟩:=by
 have xc:=(ah.1 hx).1;have vF:∀l,(S++l)[x]?=some (.box 170 [.mp m1,.mp m2,.mp E]):=λl=>by rw[ay xc];exact hx
 have ac:=(ah.1 h3).1;have A:∀l,(S++l)[E]?=some (.map 150 ec (emap lD sS B)):=λl=>by rw[ay ac];exact h3
 have M:=(ah.1 w).1;have Fc:∀l,(S++l)[z]?=some (.map 150 3 (emap lD fZ C)):=λl=>by rw[ay M];exact w
 intro N
 induction N with
 |zero =>
  intro a f O m hl sv H P hm G;have W:a=[]:=aW (by omega);subst W;refine ar λR hR=>?_;simp only[N3,Fc,VV,seval];exact G [] _ _ (.refl _) ..
 |succ N ih =>
  intro a f O m hl sv H P hm G;refine ar λR hR=>?_;simp only[N3,Fc,VV,seval];refine⟨λW=>?_,λq w=>?_⟩
  .subst W;exact G [] _ _ (.refl _) ..
  .have HV:=H q w;have ft:=xg (ke:=lD) (ve:=fZ) C ((0,[]),0) HV;have Y:=tW sv w;have af:=pv w;have pj:=yx (d:=(((0,[]),0):TK×Int)) HV;generalize Z:C.getD q ((0,[]),0)=kc at ft pj;have t:=Y.map λi=>C.getD i ((0,[]),0);simp only[aH,Z]at t;rw[An _ t,eJ,xS]at hm;obtain⟨k,c⟩:=kc;have U:=VW _ pj;simp only at hm U;have ab:=HR (k:=k) U (T k);have X:=P.apply _ ab
   have o:=ih (a.filter λi=>i != q) (some q) _ _ (by omega) (sv.filter _) (λp h=>H p (cZ.1 h).1) X (by omega) (λD u n hD=>by
    have h:=G ((k,c)::D) u n ((hD.cons _).trans t.symm);rw[eJ,Uv]at h;exact h)
   have am:0<=nL (((a.filter λi=>i != q).map λi=>C.getD i ((0,[]),0)).flatMap λk=>uL k.1 k.2 (e k.1)):=Bs λi Q=>by
    obtain⟨y,hy,Q⟩:=nN.1 Q;obtain⟨j,hj,rfl⟩:=bF.1 hy;exact HR (VW _ (yx (H j (cZ.1 hj).1))) (T _) i Q
   have J:=bn (fV O (uL k c (e k))) (a.filter λi=>i != q) (some q);simp only[ft,fZ,lD,VV,seval];rcases oc (ve:=sS) CF B k with⟨g1,v,L⟩|⟨i,b,g1,v,L⟩
   .simp only[lD]at v L;simp only[vF,A,ek,v,ao,eS,V.lO,V.cell,VV,seval];have hf:=aa _ g1;rw[hf]at o J;simp only[uL,bR,fV,tf]at o J;refine bZ.uh 1 (ar λR' ad=>?_);simp only[FE,xF,aI,false_implies,gA,VV,seval];exact hR _ (cG [_,_,_] [_] J (by repeat' constructor) (by simp[LW];omega) o)
   .simp only[lD]at v L;obtain⟨r,g0⟩:=b;have hr:=dd _ _ _ g1;have vH:∀l,(S++l)[r]?=some (mo 190 g0 (e k)):=λl=>by rw[ay (ah.1 hr).1];exact hr
    simp only[mo]at vH;simp only[sS]at v L;simp only[vF,A,ek,v,vH,ao,ag,eS,V.lO,V.cell,VV,seval];refine bZ.aK (fr':=(.ptr x 0::uu 2 (.ptr S.length 0::uu 1 (.mp (S.length+1)::uu 5 (.ptr (S.length+3) 0::.I c::uu 47 (.it (S.length+2)::uu 10 (.own r g0::.I (e k).length::.I ([]:eR).length::uu 34 []))))))) (by repeat' constructor) ((e k).length+1) (XB x xc F _ k c U r g0 (e k) (T _) (yu _) hr ?_ (e k) [] O m rfl P (by omega) ?_)
    .intro O';have h:=cC (bn O' (a.filter λi=>i != q) (some q)) (l:=[.box 150 [.I k.1,.s k.2,.I 0]]) (by simp[LW]);simpa using h
    .simp only[JE];intros;simp only[VV,seval];refine hR _ (cG [_,_,_] [_] J (by repeat' constructor) (by simp[LW];omega) o)

set_option maxRecDepth 4000
set_option maxHeartbeats 1000000
def yp(a:GK->eR)(gs:List Gr):List wo:=gs.flatMap λg=>oK g.2 (a g.1)
def yq(a:TK->eR)(D:List (TK×Int)):List wo:=D.flatMap λk=>uL k.1 k.2 (a k.1)
def Ix(n:Nat)(O:List wo):jP n ((emap fZ uS O).map (·.2)):=vX λy a=>by
 obtain⟨e,b,rfl⟩:=bF.1 a;simp[uS,Mk,LW]
def WD{eb ec:Nat}{S:ak}(x y t m a:Nat)(L:S[x]?=some (.box 170 [.mp y,.mp t,.mp m]))(u:List (GK×(Nat×Nat)))(b:GK->eR)(R:S[t]?=some (.map 184 eb (emap wA sS u)))
  (MS:∀k r g,cX k u=some (r,g)->S[r]?=some (mo 190 g (b k))) (Z:∀k,cX k u=none->b k=[]) (M:∀k,∀p∈b k,0<=p.2) (E:∀k,(b k).length<2^30)
  (s:List (TK×(Nat×Nat))) (d:TK->eR) (V:S[m]?=some (.map 150 ec (emap lD sS s)))
  (A:∀k r g,cX k s=some (r,g)->S[r]?=some (mo 190 g (d k))) (U:∀k,cX k s=none->d k=[]) (j:∀k,∀p∈d k,0<=p.2) (v:∀k,(d k).length<2^30)
  (l:List It) (hl:l.length<2^27) (B:S[a]?=some (.map 150 3 (emap lD fZ (om [] l)))) (N:∀g∈dS (bS l),0<=g.2) (K:∀p∈om [] l,0<=p.2)
  (hm:nL (yp b (dS (bS l)))+nL (yq d (om [] l))<=2^40) :
  PC prog 119 [.ptr x 0,.agg (zX l a)] S (λr W=>∃D q c,D.Perm (om [] l)/\r=.mp (S.length+1)/\W=S++[.box 162 (zX l a),.map 3 160 (emap fZ uS (fV (fV [] (yp b (dS (bS l)))) (yq d D))),.iter false a 3 (emap lD fZ (om [] l)).length q c]):=by
 refine aZ func119 arv λH dN=>au ?_;have F:=(ah.1 B).1;have MQ:=sF l;have Y:=zF (bS l);have G:∀n,S.length<n->jP n (zX l a):=λn hn=>by simp[zX,FM,LW];omega
 have AT:∀O:List wo,cn (S++[.box 162 (zX l a),.map 3 160 (emap fZ uS O)]):=λO=>cC H (by
  intro o f;simp only[bC,gw,s8]at f;rcases f with rfl|rfl
  .exact G _ (by simp)
  .exact Ix _ O)
 have xw:∀(O:List wo) q c,cn (S++[.box 162 (zX l a),.map 3 160 (emap fZ uS O),.iter false a 3 (emap lD fZ (om [] l)).length q c]):=λO q c=>cC H (by
  intro o f;simp only[bC,gw,s8]at f;rcases f with rfl|rfl|rfl
  .exact G _ (by simp)
  .exact Ix _ O
  .simp only[ai,al];omega)
 have Fc:∀X,(S++X)[a]?=some (.map 150 3 (emap lD fZ (om [] l))):=λl=>by rw[ay F];exact B
 simp only[amk,zX,FM,SS,seval];simp only[ag,VV,seval]
 have P:YM (yp b (dS (bS l))):=λi e=>by
  obtain⟨g,z,e⟩:=nN.1 e;exact VH (N g z) (M _) i e
 have C:YM (yq d (om [] l)):=λi e=>by
  obtain⟨g,z,e⟩:=nN.1 e;exact HR (K g z) (j _) i e
 have Pq:=Bs P;have Q:=Bs C;have T:=OB.nil.apply _ P;refine bZ.aK (fr':=(.ptr x 0::uu 2 (.ptr S.length 0::uu 1 (.mp (S.length+1)::uu 12 (.sl 3 ((dS (bS l)).map yw)::.I (dS (bS l)).length::.I ([]:List Gr).length::uu 87 []))))) (by repeat' constructor) ((dS (bS l)).length+1) (XC x y t m L (.box 162 (zX l a)) u b R MS Z M E (dS (bS l)) N (by omega) AT (dS (bS l)) [] [] 0 rfl OB.nil (by show 0+nL (yp b (dS (bS l)))<=2^40;omega) ?_);simp only[JE];intros;simp only[ag,zX,FM,Fc,VV,seval];refine bZ.aK (fr':=(.ptr x 0::uu 2 (.ptr S.length 0::uu 1 (.mp (S.length+1)::uu 54 (.it (S.length+2)::uu 47 []))))) (by repeat' constructor) ((emap lD fZ (om [] l)).length+1) (XA x y t m a L (.box 162 (zX l a)) s d V A U j v (om [] l) B K xw _ (List.range (emap lD fZ (om [] l)).length) none (fV [] (yp b (dS (bS l)))) _ (by simp) pT (by simp[emap]) T (by rw[vO,sP];show 0+nL (yp b (dS (bS l)))+nL (yq d (om [] l))<=2^40;omega) ?_);intro D w h J;rw[vO,sP]at J;simp only[JE];intros;simp only[VV,seval];exact fH (.inr rfl) (by simp only[RS,seval];rfl) (Wk.refl _ _) rfl ⟨D,w,h,J,rfl,rfl⟩

set_option maxRecDepth 4000
set_option maxHeartbeats 1000000
def Cj(q:List It)(O:List wo)(p:Int)(e:LE):Bool:=decide (Bb (nh q) (nh e.2.1) ((cX e.1 O).getD Cd)<=sg (mx (lq q) (lq e.2.1)) p)
def Wi(n:Nat)(T:ak)(a:Nat)(D:bH)(v:V):Prop:=(D=[]/\v=.nil)\/∃j g,v=.own (n+j) g/\j≠a/\T[j]?=some (.row 3 1 8 g false (D.map bV))
def ahB{ea:Nat}{S:ak}{n0:Nat}{K:bl}(A y z mq:Nat)(L:List LE)(a0:L.length<2^20)(h1:S[A]?=some (.map 3 ea (emap fZ Jn L)))(q:List It)(h7:S[y]?=some (.box 162 (zX q mq)))(O:List wo)(hO:OB (2^40) O)(h8:S[z]?=some (.map 3 160 (emap fZ uS O)))(p:Int)(hp : -(2^40)<=p/\p<=2^40)
  (hq:(nh q).ok (2^40)/\0<=lq q/\lq q<=2^40) (hL:∀e∈L,(nh e.2.1).ok (2^40)/\0<=lq e.2.1/\lq e.2.1<=2^40) (f:Nat):∀(N:Nat) (c:dK) (F:cU) (D:bH) (v:V) (T:ak),c.length<=N->c.Nodup->(∀p∈c,p<L.length)->D.length+c.length<=L.length ->
  T[f]?=some (.iter false A ea (emap fZ Jn L).length c F)->Wi S.length T f D v ->
  (∀(E:List LE) v' B,E.Perm (c.map λi=>L.getD i (0,([],0)))->Wi S.length B f (D++(E.filter (Cj q O p)).map (·.1)) v'->((fj 9 (fh (v') (fj 40 fo))) λZZ=>K (.exit 0) ⟨ZZ,S++B⟩)) ->
  fm n0 prog QE K (N+1) ⟨(uu 2 (.I p::uu 4 (.ptr y 0::.mp z::v::uu 11 (.it (S.length+f)::uu 28 [])))),S++T⟩:=by
 have Z:∀l,(S++l)[A]?=some (.map 3 ea (emap fZ Jn L)):=λl=>by rw[ay (ah.1 h1).1];exact h1
 have x:∀l,(S++l)[y]?=some (.box 162 (zX q mq)):=λl=>by rw[ay (ah.1 h7).1];exact h7
 have aa:∀l,(S++l)[z]?=some (.map 3 160 (emap fZ uS O)):=λl=>by rw[ay (ah.1 h8).1];exact h8
 intro N
 induction N with
 |zero =>
  intro c F D v T hl sv hb hn hi w hk;have pU:c=[]:=aW (by omega);subst pU;refine ar λR M=>?_;simp only[QE,Z,hi,VV,seval];exact hk [] v T (.refl _) (by simpa using w) ..
 |succ N ih =>
  intro c F D v T hl sv hb hn hi w hk;have yP:=(ah.1 hi).1;have AS:∀o,(T.set f o)[f]?=some o:=λo=>aL yP;refine ar λR M=>?_;simp only[QE,Z,hi,AS,VV,seval];refine⟨λpU=>?_,λi C=>?_⟩
  .subst pU;exact hk [] v T (.refl _) (by simpa using w) ..
  .have HV:=hb i C;have ft:=xg (ke:=fZ) (ve:=Jn) L (0,([],0)) HV;have av:=tW sv C;have yu:=pv C;have pj:=yx (d:=((0,([],0)):LE)) HV;generalize af:L.getD i (0,([],0))=e at ft pj;have U:=av.map λi=>L.getD i (0,([],0));simp only[aH,af]at U;obtain⟨id,l,m⟩:=e;obtain⟨hs,ht⟩:=hL _ pj;have G:=AS (.iter false A ea (emap fZ Jn L).length (c.filter λj=>j != i) (some i));have ad:(T.set f (.iter false A ea (emap fZ Jn L).length (c.filter λj=>j != i) (some i))).length=T.length:=fq
   have Y:Wi S.length (T.set f (.iter false A ea (emap fZ Jn L).length (c.filter λj=>j != i) (some i))) f D v:=by
    rcases w with h|⟨j,g,W,n,k⟩
    .exact .inl h
    .exact .inr ⟨j,g,W,n,by rw[bz (YB n)];exact k⟩
   simp only[ft,fZ,Jn,VV,seval];generalize T.set f (.iter false A ea (emap fZ Jn L).length (c.filter λj=>j != i) (some i))=T1 at G Y ad |-;have s:=hO.getD id
   have Q:∀(D':bH) (v':V) (B:ak),D'=D++(if Cj q O p (id,(l,m))then[id]else[])->B[f]?=some (.iter false A ea (emap fZ Jn L).length (c.filter λj=>j != i) (some i))->Wi S.length B f D' v'->fm n0 prog QE K (N+1) ⟨(uu 2 (.I p::uu 4 (.ptr y 0::.mp z::v'::uu 11 (.it (S.length+f)::uu 28 [])))),S++B⟩:=λD' v' B X ab ac =>
    ih (c.filter λj=>j != i) (some i) D' v' B (by omega) (sv.filter _) (λp h=>hb p (cZ.1 h).1) (by subst X;split<;>simp<;>omega) ab ac (λE ap am hE OO=>hk ((id,(l,m))::E) ap am ((hE.cons _).trans U.symm) (by
     subst X;rw[fx];split at OO
     .rename_i hx;rw[az hx];simpa using OO
     .rename_i hx;rw[an hx];simpa using OO))
   have aE:D.length<2^21:=by omega
   have P:f<T1.length:=by omega
   have hm:∀a b:Int,(if a<b then b else a)=mx a b:=λ_ _=>rfl;have XT:0<=mx (lq q) (lq l)/\mx (lq q) (lq l)<=2^40:=by simp only at ht;unfold mx;split<;>omega
   simp only at hs ht;rcases oc (ve:=uS) JA O id with⟨g1,g2,g3⟩|⟨i',b,g1,g2,g3⟩
   .simp only[fZ]at g2;have r:(cX id O).getD Cd=Cd:=by rw[g1];rfl
    rw[r]at s;simp only[zX,FM,uS,Mk,x,aa,ek,g2,VV,seval];refine⟨rfl,?_⟩;refine aw (Sh (nh q) (nh l) Cd hq.1 hs s _) rfl ?_;simp only[zX,FM,x,hm,VV,seval];refine aw (KI (mx (lq q) (lq l)) p XT hp _) rfl ?_;simp only[VV,seval];have iR:Cj q O p (id,(l,m))=decide (Bb (nh q) (nh l) Cd<=sg (mx (lq q) (lq l)) p):=by simp only[Cj,r]
    rw[<- iR];refine⟨λu=>?_,λu=>?_⟩
    .rcases Y with⟨rfl,rfl⟩|⟨j,g,rfl,n,k⟩
     .simp only[VV,seval];refine⟨by decide,M _ (aK (by repeat' constructor) (Q [id] (.own (S.length+(T1.length+1)) 0) _ (by rw[u];rfl) (by rw[ay P];exact G) (.inr ⟨T1.length+1,0,rfl,by omega,by simp[bV]⟩)))⟩
     .have t:=(ah.1 k).1;have H:∀l,(T1++l)[j]?=some (.row 3 1 8 g false (D.map bV)):=λl=>by rw[ay t];exact k
      have J:∀l o,(T1++l).set j o=T1.set j o++l:=λl o=>iu _ _ t;simp only[H,J,VV,seval];refine⟨⟨by simp only[ag];omega,by simp only[ag,maxLen];omega⟩,M _ (aK (by repeat' constructor) (Q (D++[id]) (.own (S.length+j) (g+1)) _ (by rw[u];rfl) (by rw[ay (by simpa using P),bz n];exact G) (.inr ⟨j,g+1,rfl,n,by rw[ay (by simpa using t),aL t];simp[bV]⟩)))⟩
    .exact M _ (aK (by repeat' constructor) (Q D v _ (by rw[u];simp) (by rw[ay P];exact G) (by
      rcases Y with h|⟨j,g,W,n,k⟩
      .exact .inl h
      .exact .inr ⟨j,g,W,n,by rw[ay (ah.1 k).1];exact k⟩)))
   .simp only[fZ]at g2;have r:(cX id O).getD Cd=b:=by rw[g1];rfl
    rw[r]at s;simp only[zX,FM,uS,Mk,x,aa,ek,g2,VV,seval];refine⟨rfl,?_⟩;refine aw (Sh (nh q) (nh l) b hq.1 hs s _) rfl ?_;simp only[zX,FM,x,hm,VV,seval];refine aw (KI (mx (lq q) (lq l)) p XT hp _) rfl ?_;simp only[VV,seval];have iR:Cj q O p (id,(l,m))=decide (Bb (nh q) (nh l) b<=sg (mx (lq q) (lq l)) p):=by simp only[Cj,r]
    rw[<- iR];refine⟨λu=>?_,λu=>?_⟩
    .rcases Y with⟨rfl,rfl⟩|⟨j,g,rfl,n,k⟩
     .simp only[VV,seval];refine⟨by decide,M _ (aK (by repeat' constructor) (Q [id] (.own (S.length+(T1.length+1)) 0) _ (by rw[u];rfl) (by rw[ay P];exact G) (.inr ⟨T1.length+1,0,rfl,by omega,by simp[bV]⟩)))⟩
     .have t:=(ah.1 k).1;have H:∀l,(T1++l)[j]?=some (.row 3 1 8 g false (D.map bV)):=λl=>by rw[ay t];exact k
      have J:∀l o,(T1++l).set j o=T1.set j o++l:=λl o=>iu _ _ t;simp only[H,J,VV,seval];refine⟨⟨by simp only[ag];omega,by simp only[ag,maxLen];omega⟩,M _ (aK (by repeat' constructor) (Q (D++[id]) (.own (S.length+j) (g+1)) _ (by rw[u];rfl) (by rw[ay (by simpa using P),bz n];exact G) (.inr ⟨j,g+1,rfl,n,by rw[ay (by simpa using t),aL t];simp[bV]⟩)))⟩
    .exact M _ (aK (by repeat' constructor) (Q D v _ (by rw[u];simp) (by rw[ay P];exact G) (by
      rcases Y with h|⟨j,g,W,n,k⟩
      .exact .inl h
      .exact .inr ⟨j,g,W,n,by rw[ay (ah.1 k).1];exact k⟩)))

set_option maxRecDepth 4000
set_option maxHeartbeats 1000000
def XO(J:ak):PC prog 65 [] J (λr J'=>r=.ptr (J.length+3) 0/\J'=J++[.map 3 162 [],.map 184 185 [],.map 150 185 [],Dg J.length]):=by
 refine aZ func65 p65.2 λb a=>au ?_;simp only[p65,SS,seval];simp only[VV,seval];exact fH (.inr rfl) (by simp only[RS,seval];rfl) (Wk.refl _ _) rfl ⟨rfl,rfl⟩
abbrev ix0:Nat×Nat×Nat:=(162,185,185)
def LO(n:Nat)(v:V)(next:Int):Ob:=.box 105 [.ptr (n+3) 0,v,.I next]
def LX.nil(n:Nat):LX n [] [] [] [] :=
 ⟨mB,λe a=>by simp at a,λe a=>by simp at a,⟨mB,λk r g h=>by simp[cX,gM]at h,λk h=>rfl,λk b r g c h=>by simp[cX,gM]at h⟩,
  ⟨mB,λk r g h=>by simp[cX,gM]at h,λk h=>rfl,λk b r g c h=>by simp[cX,gM]at h⟩,λk r g b d c h=>by simp[cX,gM]at h⟩

set_option maxRecDepth 4000
set_option maxHeartbeats 1000000
def afQ(p:Int×Int)(id:Int)(b:Nat)(J:ak)(c:J[b]?=some (.box 3 [.I id])):bM prog 202 [.agg (Ab p),.ptr b 0] J (.b (p.1==id)):=by
 refine aZ func202 alq.2 λd e=>au ?_;have a:∀l,(J++l)[b]?=some (.box 3 [.I id]):=λl=>by rw[ay (ah.1 c).1];exact c
 simp only[alq,SS,seval];simp only[Ab,a,VV,seval];exact bg d (.inr rfl) rfl (by simp[LW]) ⟨rfl,rfl⟩
def akK{l:eR}{i:Nat}{x:Int×Int}(h:l[i]?=some x):(l.map Ab).getD i []=Ab x:=by
 simp[aq,h]
def ahc(l:eR)(i:Nat)(x:Int×Int):(l.map Ab).set i (Ab x)=(l.set i x).map Ab:=by
 rw[List.map_set]
def Hk(g:Nat)(l:eR):Ob:=.row 190 2 16 g false (l.map Ab)
def adH{J:ak}{K:bl}(r g b:Nat)(id:Int)(t:J[b]?=some (.box 3 [.I id]))(l:eR)(z:l.length<2^30)(p:J[r]?=some (Hk g l)):∀(rest pre:eR),l=pre++rest ->
  (mr id rest=rest->((fh (.own r g) (fj 18 fo)) λe=>K (.exit 0) ⟨e,J⟩)) ->
  (∀(a:eR) (x:Int×Int) (j:eR),rest=a++x::j->mr id a=a->(x.1==id)=true->((fj 4 (fh (.I (pre++a).length) (fj 14 fo))) λe=>K .ret ⟨e,J⟩)) ->
  fm J.length prog NF K (rest.length+1) ⟨(.own r g::.fn 202 [.ptr b 0]::uu 5 (.I l.length::.I pre.length::uu 10 [])),J⟩:=by
 intro rest
 induction rest with
 |nil =>
  intro pre c f d;have c:=cN c
  subst c;refine ar λR q=>?_;simp only[NF,VV,seval];exact⟨λh=>by simp at h,λ_=>f rfl ..⟩
 |cons x rest ih =>
  intro pre c f d;have m:=mT c
  have u:=dh pre x (by omega)
  have k:=akK (l:=l) (i:=pre.length) (x:=x) (by rw[c];simp);have s:decide ((pre.length:Int)<(l.length:Int))=true:=by simp;omega
  simp only[Ab]at k;simp only[Hk]at p;refine ar λR q=>?_;simp only[NF,p,k,s,ag,ao,VV,seval];refine⟨⟨by omega,by omega⟩,?_⟩;refine E6 rfl (by kernel_rfl) (afQ x id b _ t) (by simp only[Ab,VV,seval]) ?_;simp only[u,VV,seval];refine⟨λh=>?_,λh=>?_⟩
  .have:=d [] x rest rfl rfl h;simp only[bL]at this;exact this ..
  .refine q _ (aK ?_ (ih (pre++[x]) (by simp[c]) (λo=>f (by simp only[mr]at o |-;rw[jJ (by simp[h]),o])) (λa y j v n w=>?_)))
   .repeat' constructor
   .have:=d (x::a) y j (by simp[v]) (by simp only[mr]at n |-;rw[jJ (by simp[h]),n]) w;rw[show pre++[x]++a=pre++x::a by simp];exact this
def aaO(r g b:Nat)(id:Int)(l:eR)(d:l.length<2^30)(J:ak)(f:J[b]?=some (.box 3 [.I id]))(a:J[r]?=some (Hk g l)):
  PC prog 242 [.own r g,.fn 202 [.ptr b 0]] J (λv J'=>J'=J/\((mr id l=l/\v=.I (-1))\/∃p x q,l=p++x::q/\mr id p=p/\(x.1==id)=true/\v=.I p.length)):=by
 refine aZ func242 ak5.2 λo n=>au ?_;simp only[ak5,SS,seval];have c:=a;simp only[Hk]at c;simp only[c,ag,VV,seval];refine bZ.aK (fr':=(.own r g::.fn 202 [.ptr b 0]::uu 5 (.I l.length::.I (([]:eR).length:Nat)::uu 10 []))) (by repeat' constructor) (l.length+1) (adH r g b id f l d a l [] rfl ?_ ?_)
 .intro h;simp only[JE];intros;simp only[VV,seval];exact aO (.inr rfl) rfl ⟨rfl,.inl ⟨h,rfl⟩⟩
 .intro e x i j m k;simp only[JE];intros;simp only[bc,VV,seval];exact aO (.inr rfl) rfl ⟨rfl,.inr ⟨e,x,i,j,m,k,rfl⟩⟩
def Cx{J:ak}(h:cn J)(r E sz by' g:Nat)(m:Bool)(os:dF):cn (J.set r (.row E sz by' g m os)):=by
 intro id o a j x c;rw[fq]
 by_cases e:r=id
 .subst e;rw[HJ]at a;cases b:J[r]? with
  |none=>rw[b]at a;cases a
  |some y=>rw[b]at a;cases a;simp[Ob.refs]at c
 .rw[bz e]at a;exact h id o a j x c
def adN{J:ak}{K:bl}(r g b:Nat)(id:Int)(m:r<J.length)(bn:cn J)(w:J[b]?=some (.box 3 [.I id]))(zB:r≠b)(n:Nat)(hn:n<2^30):∀(rest out a:eR) (z:Int×Int),out.length+(a.length+1)+rest.length=n ->
  (∀c:eR,(out++mr id rest).length+c.length=n->((fh (.own r g) (fj 4 (fh (.I (out++mr id rest).length) (fj 36 fo)))) λZZ=>K (.exit 0) ⟨ZZ,J.set r (Hk g ((out++mr id rest)++c))⟩)) ->
  fm J.length prog FD K (rest.length+1) ⟨(.own r g::.fn 202 [.ptr b 0]::uu 3 (.I out.length::.I (out.length+(a.length+1):Nat)::uu 35 [])),J.set r (Hk g (out++z::(a++rest)))⟩:=by
 have U:∀K X,(J.set r K++X)[r]?=some K:=λK X=>by rw[ay (by rw[fq];exact m)];exact aL m
 have S:∀K:Ob,(J.set r K)[r]?=some K:=λK=>aL m;have gb:∀K X,(J.set r K++X)[b]?=some (.box 3 [.I id]):=λK X=>by rw[ay (by rw[fq];exact(ah.1 w).1),bz zB];exact w
 have gs:∀K G X,(J.set r K++X).set r G=J.set r G++X:=λK G X=>by rw[iu _ _ (by rw[fq];exact m),YF]
 have s:∀K:Ob,(J.set r K).length=J.length:=λK=>fq
 have p:V.Lt J.length (V.fn 202 [V.ptr b 0]):=by
  refine .fn _ _ λi x M=>?_;rcases i with _|i
  .cases M;exact .ptr _ _ (ah.1 w).1
  .cases M
 have Q:∀K X,(J.set r K++X)[J.length]?=X[0]?:=λK X=>by rw[aU (by rw[fq];exact aD _),fq,jm]
 have Y:∀K X o,(J.set r K++X).set J.length o=J.set r K++X.set 0 o:=λK X o=>by rw[dA _ _ (by rw[fq];exact aD _),fq,jm]
 have d:∀{N:Nat} {T f:aB} (os:dF) {o:Ob},oJ T f->jP (J.length) f->fm J.length prog FD K N ⟨f,J.set r (.row 190 2 16 g false os)⟩->fm J.length prog FD K N ⟨T,J.set r (.row 190 2 16 g false os)++[o]⟩:=λos o hc hl k=>by
  have e:=cG (P:=prog) (K:=K) (J:=J.set r (.row 190 2 16 g false os)) [] [o] (by rw[bL];exact Cx bn _ _ _ _ _ _ _) hc (by rw[s];exact hl) (by rw[s,bL];exact k);rw[s]at e;exact e
 intro rest
 induction rest with
 |nil =>
  intro out a z C u;have Z:mr id []=[]:=rfl;rw[Z,bL]at u;rw[bL];have O:decide (((out.length+(a.length+1):Nat):Int)<((out++z::a).length:Int))=false:=by simp
  refine ar λR F=>?_;simp only[FD,Hk,S,O,ag,VV,seval];exact u (z::a) (by simpa using C) ..
 |cons y rest ih =>
  intro out a z C u;simp only[ai]at C;have A:(out++z::(a++y::rest)).length=n:=by simp;omega
  have L:((out.length+(a.length+1):Nat):Int)<((out++z::(a++y::rest)).length:Int):=by rw[A];omega
  have f2:((out.length:Nat):Int)<((out++z::(a++y::rest)).length:Int):=by rw[A];omega
  have O:decide (((out.length+(a.length+1):Nat):Int)<((out++z::(a++y::rest)).length:Int))=true:=lz L;have f0:(0:Int)<=((out.length+(a.length+1):Nat):Int):=by omega
  have H:=akK (l:=out++z::(a++y::rest)) (i:=out.length+(a.length+1)) (x:=y) (by rw[aU (by omega)];simp);have v:=ahc (out++z::(a++y::rest)) out.length y;have E:(out++z::(a++y::rest)).set out.length y=(out++[y])++(a++y::rest):=by rw[dA _ _ (aD _)];simp
  rw[E]at v;have hw:=dh out y (by omega)
  have wx:IntKind.i64.wrap (((out.length+(a.length+1):Nat):Int)+1)=((out.length+(a.length+1)+1:Nat):Int):=by rw[cm (by omega)]
  simp only[Ab]at H v;refine ar λR F=>?_;simp only[FD,Hk,S,U,s,Q,Y,f0,L,H,fW,ag,ao,VV,seval];refine E6 rfl (by kernel_rfl) (afQ y id b _ (gb _ _)) (by simp only[Ab,VV,seval]) ?_;simp only[U,gs,s,Q,Y,hw,wx,f2,v,ag,ao,V.pure,VV,seval];refine⟨λh=>⟨by omega,by rw[A];omega,?_⟩,λh=>?_⟩
  .have B:mr id (y::rest)=y::mr id rest:=by simp only[mr];rw[jJ (by simpa using h)]
   obtain⟨t,c,W⟩:∃t c,a++[y]=t::c:=by cases a<;>exact⟨_,_,rfl⟩
   have ej:c.length=a.length:=by have:=congrArg List.length W;simpa using this.symm
   have e2:a++y::rest=t::(c++rest):=by rw[show a++y::rest=(a++[y])++rest by simp,W];rfl
   have e3:((List.map Ab (out++z::(a++y::rest))).set out.length (V.i IntKind.i64 y.fst::V.i IntKind.i64 y.snd::List.drop 2 (Ab z)))=(out++[y]++t::(c++rest)).map Ab:=by rw[<- e2];exact v
   have D:out.length+(a.length+1)+1=(out++[y]).length+(c.length+1):=by simp;omega
   rw[e3,D]
   have k:=ih (out++[y]) c t (by simp;omega) (λj q=>by
    have e5:out++[y]++mr id rest=out++mr id (y::rest):=by rw[B];simp
    rw[e5]at q |-;exact u j q)
   exact F _ (d _ (by repeat' constructor) (by simp only[LW];exact⟨m,p⟩) k)
  .have B:mr id (y::rest)=mr id rest:=by simp only[mr];rw[kR (by simpa using h)]
   have D:out.length+(a.length+1)+1=out.length+((a++[y]).length+1):=by simp;omega
   rw[D]
   have k:=ih out (a++[y]) z (by simp;omega) (λj q=>by
    rw[<- B]at q |-;exact u j q)
   rw[show a++[y]++rest=a++y::rest by simp]at k;exact F _ (d _ (by repeat' constructor) (by simp only[LW];exact⟨m,p⟩) k)
def ai1(r g b:Nat)(id:Int)(A:r≠b)(l:eR)(c:l.length<2^30)(J:ak)(h:J[b]?=some (.box 3 [.I id]))(d:J[r]?=some (Hk g l)):
  PC prog 201 [.own r g,.fn 202 [.ptr b 0]] J (λv J'=>∃i,v=.own r i/\J'=J.set r (Hk i (mr id l))):=by
 have n:r<J.length:=(ah.1 d).1;have m:∀K:Ob,(J.set r K)[r]?=some K:=λK=>aL n;have D:∀K:Ob,(J.set r K).length=J.length:=λK=>fq;have o:J.set r (Hk g l)=J:=As d;refine aZ func201 alr.2 λw E=>au ?_;simp only[alr,SS,seval];simp only[VV,seval];refine cD (aaO r g b id l c J h d) rfl λv J' f=>?_;obtain⟨s,f⟩:=f;rw[s];rcases f with⟨e,rfl⟩|⟨p,x,q,e,j,C,rfl⟩
 .simp only[VV,seval];exact fH (.inr rfl) rfl (Wk.refl _ _) rfl ⟨g,rfl,by rw[e,o]⟩
 .subst e;have B:IntKind.i64.wrap (((p.length:Nat):Int)+1)=((p.length+(([]:eR).length+1):Nat):Int):=by rw[cm (by simp at c;omega)];rfl
  have z:((p.length:Int) == -1)=false:=by simp
  simp only[B,z,VV,seval];have k:=λu y=>adN (K:=u) r g b id n w h A (p++x::q).length c q p [] x (by simp;omega) y;rw[bc,o]at k;refine bZ.aK (by repeat' constructor) (q.length+1) (k _ λa G=>?_);simp only[JE];intros;have F:J.set r (.row 190 2 16 g false (List.map Ab (p++mr id q++a)))=J.set r (Hk g (p++mr id q++a)):=rfl;simp only[Hk,m,ag,ao,YF,VV,seval];refine⟨⟨by omega,by simp;omega,by omega⟩,⟨by omega,by simp;omega⟩,?_⟩;refine fH (.inr rfl) rfl (Wk.PE (m _) 0 rfl) rfl ⟨g+1,rfl,?_⟩
  have t:mr id (p++x::q)=p++mr id q:=by
   simp only[mr]at j |-;rw[kG,j,kR (by simp[C])]
  rw[YF,t];congr 2;rw[dL (by simp),lB,YD,<- List.append_assoc,cM,dL (by simp),bW (by simp)]
def Ie(r g:Nat)(id:Int)(l:eR)(e:l.length<2^30)(J:ak)(c:J[r]?=some (Hk g l)):
  PC prog 135 [.own r g,.I id] J (λv J'=>∃a,v=.own r a/\J'=J.set r (Hk a (mr id l))):=by
 have b:r<J.length:=(ah.1 c).1;refine aZ func135 al7.2 λf h=>au ?_;simp only[al7,SS,seval];simp only[VV,seval];refine cD (ai1 r g J.length id (by omega) l e (J++[.box 3 [.I id]]) (by simp) (by rw[ay b];exact c)) rfl λv J' d=>?_;obtain⟨a,rfl,rfl⟩:=d;rw[iu _ _ b];simp only[VV,seval];exact fH (.inr rfl) rfl (Wk.A2 (by simp) (Cx f _ _ _ _ _ _ _) (gZ.1 (by simp only[LW];simpa using b))) rfl ⟨a,rfl,rfl⟩

set_option maxRecDepth 4000
set_option maxHeartbeats 1000000
def aas{J:ak}{n0:Nat}{K:bl}(M1 M3 FB:Ob)(H:List (TK×(Nat×Nat)))(f3:TK->eR)(id:Int)(gs:List Gr)(z:gs.length<2^30)(j5:Nat):∀(rest pre:List Gr) (T:ak) (eb:Nat) (G:List (GK×(Nat×Nat))) (f:GK->eR),gs=pre++rest->Bt.lP 190 (J.length+5) T G f->Bt.lP 190 (J.length+5) T H f3->K9 G H->(∀k,(f k).length<2^30)->(∀g∈rest,f g.1≠[])->kC rest ->
  (∀m c p,Bt.lP 190 (J.length+5) m p (ov f id rest)->Bt.lP 190 (J.length+5) m H f3->K9 p H->si T m->((fh (.ptr (J.length+3) 0) (fh (.I id) (fj 3 (fh (.ptr j5 0) (fj 93 fo))))) λZZ=>K (.exit 0) ⟨ZZ,J++(M1::.map 184 c (emap wA sS p)::M3::Dg J.length::FB::m)⟩)) ->
  fm n0 prog Vc K (rest.length+1) ⟨(.ptr (J.length+3) 0::.I id::uu 3 (.ptr j5 0::uu 22 (.sl 3 (gs.map yw)::.I gs.length::.I pre.length::uu 68 []))),J++(M1::.map 184 eb (emap wA sS G)::M3::Dg J.length::FB::T)⟩:=by
 intro rest
 induction rest with
 |nil =>
  intro pre T eb G f A B hH L Y W hK M;have A:=cN A
  subst A;refine ar λR hR=>?_;simp only[Vc,VV,seval];exact⟨λh=>by simp at h,λ_=>M T eb G B hH L (si.refl T) ..⟩
 |cons g rest ih =>
  intro pre T eb G f A B hH L Y W hK M;subst A;have aa:pre.length+1+rest.length<2^30:=by simp at z;omega
  have hw:=dh pre g (by omega)
  refine ar λR hR=>?_;simp only[Vc,yw,Dg,VV,seval];refine⟨λ_=>⟨by simp;omega,?_⟩,λh=>by simp at h;omega⟩;rcases yI (ve:=sS) F3 G g.1 with⟨w,C,N,q,g5⟩|⟨i,b,w,C,N,q⟩
  .exact absurd (B.Ho _ w) (W g (wc ..))
  .simp only[wA]at C N q;obtain⟨r,g0⟩:=b;obtain⟨j,rfl,P⟩:=B.row _ _ _ w;have F:=(ah.1 P).1;have Z:J.length+5+j=J.length+(j+5):=by omega
   simp only[sS,Z]at C N;simp only[ek,C,N,q,eS,V.lO,V.cell,VV,seval];have O:∀l,(T++l)[j]?=some (Hk g0 (f g.1)):=λl=>by rw[ay F];exact P
   have ac:∀l o,(T++l).set j o=T.set j o++l:=λl o=>iu _ _ F;have D:∀o l k,(T.set j o++l)[T.length+k]?=l[k]?:=λo l k=>by rw[aU (by simp)];simp
   refine cD (Ie (J.length+(j+5)) g0 id (f g.1) (Y _) _ (by simp only[O,VV,seval])) rfl λv S' hv=>?_;obtain⟨a,rfl,rfl⟩:=hv;simp only[ac,D,VV,seval];have q:=q (J.length+5+j,a);have d:=B.cut w id a;have Q:cX g.1 (iZ G g.1 (J.length+5+j,a))=some (J.length+5+j,a):=by rw[jy,az rfl]
   obtain⟨i2,q1,q2⟩:=EJ (ve:=sS) F3 g.1 _ 0 d.nodup _ Q;have ab:∀l,(T.set j (Hk a (mr id (f g.1)))++l)[j]?=some (.row 190 2 16 a false ((mr id (f g.1)).map Ab)):=λl=>by rw[ay (by rw[fq];exact F)];exact aL F
   have E:=hH.other (Hk a (mr id (f g.1))) (λk r a hk=>λe=>L _ _ _ _ _ _ w hk e.symm);have JP:si T (T.set j (Hk a (mr id (f g.1)))):=si.setRow P _;simp only[wA,sS,Z,aY]at q q1;have t:=L.add w a;simp only[Z]at d q2 t;simp only[C,q,q1,q2,ab,D,hw,eS,V.lO,V.cell,ek,ag,VV,seval];have u:=gz.1 hK
   have y:∀k,(B5 f g.1 id k).length<2^30:=λk=>by
    have:=Y k;have h2:(mr id (f k)).length<=(f k).length:=eB _ _;unfold B5;split<;>omega
   have n:∀a∈rest,B5 f g.1 id a.1≠[]:=λx hx=>by
    have hn:x.1≠g.1:=λe=>u.1 (bF.2 ⟨x,hx,e⟩);rw[B5,an hn];exact W x (eV _ hx)
   refine⟨λh=>?_,λh=>?_⟩
   .have h0:mr id (f g.1)=[]:=by simpa using h
    have k:=ih (pre++[g]) _ (eb+1) _ _ (by simp) ((d.del (k:=g.1) (by rw[B5,az rfl,h0])).app [Ob.box 182 [V.s g.1.1,V.s g.1.2,V.i .i64 g.2],Ob.box 184 [V.s g.1.1,V.s g.1.2]]) (E.app _) (t.del g.1) y n u.2 (λm c p X hh S U=>M m c p X hh S (JP.trans ((si.app _ _).trans U)));simp only[Dg]at k;exact hR _ (aK (by repeat' constructor) k)
   .have k:=ih (pre++[g]) _ eb _ _ (by simp) (d.app [Ob.box 182 [V.s g.1.1,V.s g.1.2,V.i .i64 g.2],Ob.box 184 [V.s g.1.1,V.s g.1.2]]) (E.app _) t y n u.2 (λm c p X hh S U=>M m c p X hh S (JP.trans ((si.app _ _).trans U)));simp only[Dg]at k;exact hR _ (aK (by repeat' constructor) k)

set_option maxRecDepth 4000
set_option maxHeartbeats 1000000
def aar{J:ak}{n0:Nat}{K:bl}(M1 M2 FB:Ob)(H:List (GK×(Nat×Nat)))(f3:GK->eR)(id:Int)(C:List (TK×Int))(hK:kC C)(m t:Nat)(d:TK->eR)(SE:∀k,(d k).length<2^30)(a1:∀c∈C,d c.1≠[]):∀(N:Nat) (a:dK) (L:cU) (D:List (TK×Int)) (T:ak) (mc:Nat) (G:List (TK×(Nat×Nat))),a.length<=N->a.Nodup->(∀p∈a,p<C.length)->(D++a.map λi=>C.getD i ((0,[]),0)).Perm C ->
  Bt.lP 190 (J.length+5) T G (ov d id D)->Bt.lP 190 (J.length+5) T H f3->K9 G H->T[m]?=some (.map 150 3 (emap lD fZ C))->T[t]?=some (.iter false (J.length+5+m) 3 (emap lD fZ C).length a L) ->
  (∀A w F Y,Y.Perm C->Bt.lP 190 (J.length+5) A F (ov d id Y)->Bt.lP 190 (J.length+5) A H f3->K9 F H->si T A->((fh (.ptr (J.length+3) 0) (fj 98 fo)) λZZ=>K (.exit 2) ⟨ZZ,J++(M1::M2::.map 150 w (emap lD sS F)::Dg J.length::FB::A)⟩)) ->
  fm n0 prog Vb K (N+1) ⟨(.ptr (J.length+3) 0::.I id::uu 66 (.it (J.length+(t+5))::uu 30 [])),J++(M1::M2::.map 150 mc (emap lD sS G)::Dg J.length::FB::T)⟩:=by
 intro N
 induction N with
 |zero =>
  intro a L D T mc G hl sv E hs W U hD S x h1;have pU:a=[]:=aW (by omega);subst pU;have ec:J.length+5+m=J.length+(m+5):=by omega
  rw[ec]at x;refine ar λR hR=>?_;simp only[Vb,Dg,S,x,VV,seval];exact h1 _ _ _ D (by simpa using hs) W U hD (si.refl T) ..
 |succ N ih =>
  intro a L D T mc G hl sv E hs W U hD S x h1;have ec:J.length+5+m=J.length+(m+5):=by omega
  rw[ec]at x;have yP:=(ah.1 x).1;have iR:t≠m:=λe=>by subst e;rw[S]at x;simp at x
  have AS:∀o,(T.set t o)[t]?=some o:=λo=>aL yP;have Pq:∀o,(T.set t o)[m]?=some (.map 150 3 (emap lD fZ C)):=λo=>by rw[bz iR];exact S
  refine ar λR hR=>?_;simp only[Vb,Dg,S,x,AS,Pq,VV,seval];refine⟨λpU=>?_,λq B=>?_⟩
  .subst pU;exact h1 _ _ _ D (by simpa using hs) W U hD (si.refl T) ..
  .have HV:=E q B;have ft:=xg (ke:=lD) (ve:=fZ) C ((0,[]),0) HV;have ba:=tW sv B;have yu:=pv B
   have u:∀{α:Type} [DecidableEq α] {G:List (α×(Nat×Nat))} {f:α->eR},Bt.lP 190 (J.length+5) T G f->∀k r g,cX k G=some (r,g)->r≠J.length+5+t:=λh k r g hk e=>by
    obtain⟨j,e1,e2⟩:=h.row k r g hk;have:j=t:=by omega
    subst this;rw[x]at e2;simp[mo]at e2
   have Z:=λo=>W.other o (u W);have av:=λo=>U.other o (u U);have K7:=λo=>si.set x rfl o
   have Cm:((D++[C.getD q ((0,[]),0)])++(a.filter λi=>i != q).map λi=>C.getD i ((0,[]),0)).Perm C:=by
    refine List.Perm.trans ?_ hs;rw[bk];refine sk _ ?_;exact((ba.map λi=>C.getD i ((0,[]),0)).symm)
   have pj:C.getD q ((0,[]),0)∈C:=by
    rw[aq,ax HV];exact dC HV
   have af:C.getD q ((0,[]),0)∈(a.map λi=>C.getD i ((0,[]),0)):=gN B;generalize be:C.getD q ((0,[]),0)=kc at ft Cm pj af;obtain⟨k,c⟩:=kc
   have a3:k ∉ D.map (·.1):=by
    have h2:((D++a.map λi=>C.getD i ((0,[]),0)).map (·.1)).Nodup:=(hs.map _).nodup_iff.2 hK;rw[cM,iX]at h2;exact λh3=>h2.2.2 k h3 k (bF.2 ⟨_,af,rfl⟩) rfl
   have ac:ov d id D k=d k:=by rw[ES,an a3]
   have aE:B5 (ov d id D) k id=ov d id (D++[(k,c)]):=(Un d id D (k,c)).symm;have a6:(ov d id D k).length<2^30:=by rw[ac];exact SE k
   have a4:=a1 _ pj;simp only[ft,fZ,lD,VV,seval];have zA:=AS (.iter false (J.length+(m+5)) 3 (emap lD fZ C).length (a.filter λi=>i != q) (some q));have ad:=Pq (.iter false (J.length+(m+5)) 3 (emap lD fZ C).length (a.filter λi=>i != q) (some q));have z:=Z (.iter false (J.length+(m+5)) 3 (emap lD fZ C).length (a.filter λi=>i != q) (some q));have ap:=av (.iter false (J.length+(m+5)) 3 (emap lD fZ C).length (a.filter λi=>i != q) (some q));have O:=K7 (.iter false (J.length+(m+5)) 3 (emap lD fZ C).length (a.filter λi=>i != q) (some q));generalize T.set t (.iter false (J.length+(m+5)) 3 (emap lD fZ C).length (a.filter λi=>i != q) (some q))=T1 at zA ad z ap O |-;clear AS Pq Z av K7 x S W U u;rcases yI (ve:=sS) CF G k with⟨X,g2,g3,P,g5⟩|⟨i,b,X,g2,g3,P⟩
   .exact absurd (ac▸z.Ho _ X) a4
   .obtain⟨r,g0⟩:=b;obtain⟨j,rfl,hj⟩:=z.row _ _ _ X;have pR:=(ah.1 hj).1;have ej:J.length+5+j=J.length+(j+5):=by omega
    simp only[sS,lD,ej]at g2 g3;simp only[lD]at P;simp only[ek,g2,g3,P,eS,V.lO,V.cell,VV,seval];have a5:∀l,(T1++l)[j]?=some (Hk g0 (ov d id D k)):=λl=>by rw[ay pR];exact hj
    have a8:∀l o,(T1++l).set j o=T1.set j o++l:=λl o=>iu _ _ pR;have Q:∀o l k,(T1.set j o++l)[T1.length+k]?=l[k]?:=λo l k=>by rw[aU (by simp)];simp
    have ab:∀o l,(T1.set j o++l)[T1.length]?=l[0]?:=λo l=>Q o l 0;refine cD (Ie (J.length+(j+5)) g0 id (ov d id D k) a6 _ (by simp only[a5,VV,seval])) rfl λv S' hv=>?_;obtain⟨n,rfl,rfl⟩:=hv;simp only[a8,Q,ab,VV,seval];have P:=P (J.length+5+j,n);have y:=z.cut X id n;have a7:cX k (iZ G k (J.length+5+j,n))=some (J.length+5+j,n):=by rw[jy,az rfl]
    obtain⟨i2,q1,q2⟩:=EJ (ve:=sS) CF k _ 0 y.nodup _ a7;have a2:∀l,(T1.set j (Hk n (mr id (ov d id D k)))++l)[j]?=some (.row 190 2 16 n false ((mr id (ov d id D k)).map Ab)):=λl=>by rw[ay (by rw[fq];exact pR)];exact aL pR
    have am:=ap.other (Hk n (mr id (ov d id D k))) (λk r n hk=>λe=>hD _ _ _ _ _ _ X hk e.symm);have JP:si T1 (T1.set j (Hk n (mr id (ov d id D k)))):=si.setRow hj _;have a9:j≠t:=λe=>by subst e;rw[zA]at hj;simp[mo]at hj
    have M:=hD.add X n;simp only[lD,sS,ej,aY]at P q1;simp only[ej]at y q2 M;rw[aE]at y;simp only[g2,P,q1,q2,a2,Q,ab,eS,V.lO,V.cell,ek,ag,VV,seval]
    have aa:∀l,(T1.set j (Hk n (mr id (ov d id D k)))++l)[t]?=some (.iter false (J.length+5+m) 3 (emap lD fZ C).length (a.filter λi=>i != q) (some q)):=λl=>by
     rw[ec,ay (by rw[fq];exact(ah.1 zA).1),bz a9];exact zA
    have a0:∀l,(T1.set j (Hk n (mr id (ov d id D k)))++l)[m]?=some (.map 150 3 (emap lD fZ C)):=λl=>(JP.trans (si.app _ _)).2 _ _ ad rfl;refine⟨λh=>?_,λh=>?_⟩
    .have h0:mr id (ov d id D k)=[]:=by simpa using h
     have kk:=ih (a.filter λi=>i != q) (some q) (D++[(k,c)]) _ (mc+1) _ (by omega) (sv.filter _) (λp h=>E p (cZ.1 h).1) Cm ((y.del (k:=k) (by rw[<- aE,B5,az rfl,h0])).app [Ob.box 150 [V.i .i64 k.1,V.s k.2,V.i .i64 0]]) (am.app _) (M.del k) (a0 _) (aa _)
      (λA w F Y E B hh hd hg=>h1 A w F Y E B hh hd (O.trans ((JP.trans (si.app _ _)).trans hg)))
     simp only[Dg]at kk;exact hR _ (aK (by repeat' constructor) kk)
    .have kk:=ih (a.filter λi=>i != q) (some q) (D++[(k,c)]) _ mc _ (by omega) (sv.filter _) (λp h=>E p (cZ.1 h).1) Cm (y.app [Ob.box 150 [V.i .i64 k.1,V.s k.2,V.i .i64 0]]) (am.app _) M (a0 _) (aa _)
      (λA w F Y E B hh hd hg=>h1 A w F Y E B hh hd (O.trans ((JP.trans (si.app _ _)).trans hg)))
     simp only[Dg]at kk;exact hR _ (aK (by repeat' constructor) kk)

set_option maxRecDepth 4000
set_option maxHeartbeats 1000000
def H3{α c:Type}[DecidableEq α]{a:α}{b:c}:∀{C:List (α×c)},cX a C=some b->(a,b)∈C
 |[],h=>by simp[cX,gM]at h
 |p::C,h=>by
  rw[ln]at h;split at h
  .rename_i e;cases h;rw[e];exact wc ..
  .exact eV _ (H3 h)
def OT{b:Type}(L:List LE)(id:Int)(q:List It->Option b):((L.filterMap λe=>(q e.2.1).map λc=>(e.1,c)).filter λp=>!(p.1==id))=(na L id).filterMap λe=>(q e.2.1).map λc=>(e.1,c):=by
 induction L with
 |nil=>rfl
 |cons e L ih =>
  unfold na at ih |-;rw[fx]
  by_cases h:e.1=id
  .rw[an (by simp[h])];cases a:q e.2.1 with
   |none=>rw[Gv (by rw[a];rfl)];exact ih
   |some c=>rw[Gu (by rw[a];rfl),kR (by simp[h])];exact ih
  .rw[az (by simp[h])];cases a:q e.2.1 with
   |none=>rw[Gv (by rw[a];rfl),Gv (by rw[a];rfl)];exact ih
   |some c=>rw[Gu (by rw[a];rfl),Gu (by rw[a];rfl),jJ (by simp[h]),ih]
def Xf{α c:Type}{C:List (α×c)}(g:(C.map (·.1)).Nodup){x y:α×c}(d:x∈C)(f:y∈C)(e:x.1=y.1):x=y:=by
 induction C with
 |nil=>cases d
 |cons p C ih =>
  have b:=gz.1 g;rcases bC.1 d with h1|h1<;>rcases bC.1 f with a|a
  .rw[h1,a]
  .exact absurd (bF.2 ⟨y,a,by rw[<- e,h1]⟩) b.1
  .exact absurd (bF.2 ⟨x,h1,by rw[e,a]⟩) b.1
  .exact ih b.2 h1 a
def VY{g:Type}{L:List LE}(f:(L.map (·.1)).Nodup){id:Int}{l:List It}{m:Nat}(i:(id,(l,m))∈L)(q:List It->Option g)(j:q l=none):((L.filterMap λe=>(q e.2.1).map λc=>(e.1,c)).filter λp=>!(p.1==id))=L.filterMap λe=>(q e.2.1).map λc=>(e.1,c):=by
 rw[kg];intro p b;obtain⟨e,k,d⟩:=qW.1 b;obtain⟨c,a,n⟩:=aF.1 d;subst n
 by_cases h:e.1=id
 .exfalso
  have:e=(id,(l,m)):=by
   exact Xf f k i h
  rw[this]at a;rw[j]at a;cases a
 .simp[h]
def afl{L:List LE}(d:(L.map (·.1)).Nodup){id:Int}{l:List It}{m:Nat}(e:(id,(l,m))∈L):ov (Kh L) id (dS (bS l))=Kh (na L id):=by
 funext k;have g:=(mE (bS l) [] [] 0 CN.nil).2.1;have a:=lf (bS l);rw[ES];split
 .exact OT L id λl=>cX k (iD [] [] (bS l))
 .rename_i h
  have f:cX k (iD [] [] (bS l))=none:=by
   rw[<- yy g a];cases b:cX k (dS (bS l))with
   |none=>rfl
   |some c=>exact absurd ((kL k _).2 (by rw[b];rfl)) h
  exact(VY d e (λl=>cX k (iD [] [] (bS l))) f).symm.trans (OT L id λl=>cX k (iD [] [] (bS l)))
def afk{L:List LE}(d:(L.map (·.1)).Nodup){id:Int}{l:List It}{m:Nat}(e:(id,(l,m))∈L){D:List (TK×Int)}(a:D.Perm (om [] l)):ov (HB L) id D=HB (na L id):=by
 funext k;have g:=(C3 l [] 0 CN.nil).2.1;rw[ES];split
 .exact OT L id λl=>cX k (om [] l)
 .rename_i h
  have f:cX k (om [] l)=none:=by
   rw[<- yy g a];cases b:cX k D with
   |none=>rfl
   |some c=>exact absurd ((kL k _).2 (by rw[b];rfl)) h
  exact(VY d e (λl=>cX k (om [] l)) f).symm.trans (OT L id λl=>cX k (om [] l))
def aiY{L:List LE}{id:Int}{l:List It}{m:Nat}(b:(id,(l,m))∈L){g:Gr}(h:g∈dS (bS l)):Kh L g.1≠[]:=by
 have d:=(mE (bS l) [] [] 0 CN.nil).2.1;have a:=lf (bS l)
 have f:(cX g.1 (iD [] [] (bS l))).isSome:=by
  rw[<- yy d a];exact(kL _ _).1 (gN h)
 obtain⟨c,i⟩:=pB.1 f;intro e;have:(id,c)∈Kh L g.1:=qW.2 ⟨_,b,by simp[i]⟩;rw[e]at this;cases this
def aiW{L:List LE}{id:Int}{l:List It}{m:Nat}(a:(id,(l,m))∈L){g:TK×Int}(d:g∈om [] l):HB L g.1≠[]:=by
 have b:(cX g.1 (om [] l)).isSome:=(kL _ _).1 (gN d);obtain⟨c,f⟩:=pB.1 b;intro e;have:(id,c)∈HB L g.1:=qW.2 ⟨_,a,by simp[f]⟩;rw[e]at this;cases this
def MO{E:Nat×Nat×Nat}(u:Ob)(T:ak)(L:List LE)(t:List (GK×(Nat×Nat)))(o:List (TK×(Nat×Nat)))(J:ak)(d:LX J.length T L t o)(id:Int)(l:List It)(m:Nat)(q:cX id L=some (l,m))(hL:L.length<=1024):
  PC prog 70 [.ptr (J.length+3) 0,.I id] (ur E J L t o u T) (λr S'=>r=.b true/\∃W z a f,S'=ur W J (na L id) a f u z/\LX J.length z (na L id) a f/\si T z):=by
 have n:=H3 q;refine aZ func70 c70 λbn dN=>au ?_;simp only[p70,SS,seval];obtain⟨i,O,q2⟩:=EJ (ve:=Jn) JA id L 0 d.keys _ q;obtain⟨j,rfl,hj⟩:=d.cls _ n;simp only[fZ,Jn,aY]at O;simp only[ur,Dg,ek,O,q2,zX,FM,VV,seval];have MQ:=sF l;have ab:=zF (bS l);have C:=C3 l [] 0 CN.nil;have LJ:l.length<2^27:=d.awk _ n;have x:kC (dS (bS l)):=((lf (bS l)).map _).nodup_iff.2 (mE (bS l) [] [] 0 CN.nil).2.1;refine⟨rfl,rfl,?_⟩;simp only[ag];generalize s:T++[_]=T1;have aa:T1.length=T.length+1:=by rw[<- s];simp
 have U:Bt.lP 190 (J.length+5) T1 t (Kh L):=by rw[<- s];exact d.p2.app _
 have w:Bt.lP 190 (J.length+5) T1 o (HB L):=by rw[<- s];exact d.p3.app _
 have R:si T T1:=by rw[<- s];exact si.app _ _
 have yQ:T1[T.length]?=some (.box 162 (zX l (J.length+5+j))):=by rw[<- s];simp[zX,FM]
 have HZ:∀k,(Kh L k).length<2^30:=λk=>by
  have:(Kh L k).length<=L.length:=kr _ _;omega
 have D:∀k,(HB L k).length<2^30:=λk=>by
  have:(HB L k).length<=L.length:=kr _ _;omega
 refine bZ.aK (fr':=(.ptr (J.length+3) 0::.I id::uu 3 (.ptr (J.length+(T.length+5)) 0::uu 22 (.sl 3 ((dS (bS l)).map yw)::.I (dS (bS l)).length::.I ([]:List Gr).length::uu 68 [])))) (by repeat' constructor) ((dS (bS l)).length+1) (aas _ _ u o (HB L) id (dS (bS l)) (by omega) (J.length+(T.length+5)) (dS (bS l)) [] T1 _ t (Kh L) rfl U w d.dis HZ (λg hg=>aiY n hg) x ?_);intro B Z a Fc A T0 H;simp only[JE];intros;have Q:=H.2 _ _ (R.2 _ _ hj rfl) rfl;have N:=H.2 _ _ yQ rfl;have P:J.length+5+j=J.length+(j+5):=by omega
 simp only[zX,FM,P]at N;simp only[Dg,N,Q,VV,seval];have h:(emap lD fZ (om [] l)).length=(om [] l).length:=vO _;refine bZ.aK (fr':=(.ptr (J.length+3) 0::.I id::uu 66 (.it (J.length+(B.length+5))::uu 30 []))) (by repeat' constructor) ((om [] l).length+1) (aar _ _ u a _ id (om [] l) C.2.1 j B.length (HB L) D (λc hc=>aiW n hc) (om [] l).length (List.range (emap lD fZ (om [] l)).length) none [] (B++[_]) _ o (by simp[h]) pT (λp hp=>by simpa[h]using hp) (by rw[h,bc,sP]) (A.app _) (Fc.app _) T0.symm ((si.app _ _).2 _ _ Q rfl) (by rw[P];simp) ?_);intro K S f D' V G Y v F;simp only[JE];intros;simp only[VV,seval];have M:si T K:=R.trans (H.trans ((si.app _ _).trans F));refine fH (.inr rfl) rfl (Wk.refl _ _) rfl ⟨rfl,(_,_,_),K,a,f,rfl,⟨aab d.keys id,λe y=>d.awk e (cZ.1 y).1,λe y=>?_,?_,?_,v.symm⟩,M⟩
 .obtain⟨i,e1,X⟩:=d.cls e (cZ.1 y).1;exact⟨i,e1,M.2 _ _ X rfl⟩
 .rw[<- afl d.keys n];exact Y
 .rw[<- afk d.keys n V];exact G
end Go.Proofs.Tryz

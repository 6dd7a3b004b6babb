/- A part of a proof; the claim's last text says of what. -/
import Derived.Test.YtlakkaamfadipaaGreatDoorB18
import Derived.Test.YtlakkaamfadipaaGreatDoorB19
set_option linter.all false
set_option maxHeartbeats 4000000

namespace Go.Proofs.Tryz
open Go Go.Pm Go.Bt
set_option maxRecDepth 20000 in
def aaz(S:ak)(a:Nat)(L:a<S.length)(l:bH){K:bl}(U:Nat)(Ht:U<2^50)(bn:cn (gT S a l U))(N:Nat)(hN:N<=20):∀(m:Nat) (k:Nat) (f d:List It) (id g1 g2:Nat),m<=N->id+m<=N->d.length+m<=N ->
  (∀y∈d,y.awd.length<=5)->BS f d id->f.length+m<=N->bd f+18*m<=18*N->(U<=k/\k+12*m<=U+12*N) ->
  (∀(k:Nat) (f d:List It) (id g1 g2:Nat),id<=N->d.length<=N->(∀y∈d,y.awd.length<=5)->BS f d id->f.length<=N->bd f<=18*N->(U<=k/\k<=U+12*N) ->
   ((fj 3 (fh (.b true) (fj 5 (fh (.own S.length g1) (fh (.own (S.length+1) g2) (fj 130 fo)))))) λZZ=>K (.exit 0) ⟨ZZ,gT S a l k++[fL g1 false f,fL g2 false d]⟩)) ->
  fm S.length prog I2 K (m+1) ⟨(.ptr a 0::uu 1 (.b true::.b true::uu 5 (.own S.length g1::.own (S.length+1) g2::.I id::.I m::uu 128 []))),gT S a l k++[fL g1 false f,fL g2 false d]⟩:=by
 intro m
 induction m with
 |zero =>
  intro k f d id g1 g2 hm aa iG D C hf ab hk h1;refine ar λR hR=>?_;simp only[I2,VV,Int.reduceBEq,Int.reduceBNe,Nat.reduceAdd,Nat.reduceSub,Nat.reduceLeDiff,Nat.reduceEqDiff,Int.reduceToNat,reduceIte,reduceCtorEq];exact⟨nofun,λ_=>h1 k f d id g1 g2 (by omega) (by omega) D C (by omega) (by omega) (by omega) ..⟩
 |succ m ih =>
  intro k f d id g1 g2 hm aa iG D C hf ab hk h1;have hw:IntKind.i64.wrap (((m+1:Nat):Int) - 1)=(m:Int):=by rw[IntWalk.i64_in _ (by omega)];omega
  refine sN λR hR=>?_;simp only[I2];refine bZ.cut λR1 EC=>?_;simp only[VV,Int.reduceBEq,Int.reduceBNe,Nat.reduceAdd,Nat.reduceSub,Nat.reduceLeDiff,Nat.reduceEqDiff,Int.reduceToNat,reduceIte,reduceCtorEq];refine⟨λ_=>?_,λh=>by simp at h<;>omega⟩;refine EC _ (bZ.fg (fr':=(.ptr a 0::uu 1 (.b true::.b true::uu 5 (.own S.length g1::.own (S.length+1) g2::.I id::.I (m+1:Nat)::uu 128 [])))) ?_ (by repeat' constructor));clear EC R1;refine bZ.HC λR2 XZ=>bZ.lZ ?_;refine bZ.cut λR3 Ad=>?_;simp only[fL,bf,jt,nb,eK,ki,VV,Int.reduceBEq,Int.reduceBNe,Nat.reduceAdd,Nat.reduceSub,Nat.reduceLeDiff,Nat.reduceEqDiff,Int.reduceToNat,reduceIte,reduceCtorEq];refine cD (Ov S a L l k (by omega) 3 (by decide) _) rfl ?_;rintro _ _ ⟨t,r,rfl,ht,tn,rfl⟩;simp only[bf,jt,nb,eK,ki,VV,Int.reduceBEq,Int.reduceBNe,Nat.reduceAdd,Nat.reduceSub,Nat.reduceLeDiff,Nat.reduceEqDiff,Int.reduceToNat,reduceIte,reduceCtorEq];refine Ad _ (bZ.fg (fr':=(.ptr a 0::uu 1 (.b true::.b true::uu 5 (.own S.length g1::.own (S.length+1) g2::.I id::.I (m+1:Nat)::.ptr (S.length+2) 0::uu 127 [])))) ?_ (by repeat' constructor));clear Ad R3;refine bZ.HC λR4 Z=>?_
  have e:∀(x:It) (r1:Ob) (ext:ak) (j M:Nat) (o:List It) (q A:Nat) {fr:aB},(fL g1 true f::r1::.box 61 x.awa::(ext++[fL 0 false (awl (f++[x]))]))[j]?=some (fL A false o)->ext.length+3≠j ->
    q+m<=N->o.length+m<=N->(∀y∈o,y.awd.length<=5)->BS (awl (f++[x])) o q->x.awd.length<=18->(k<=M/\M<=k+12) ->
    oJ fr (.ptr a 0::uu 1 (.b true::.b true::uu 5 (.own S.length g1::.own (S.length+j) A::.I q::.I (m+1:Nat)::.ptr (S.length+2) 0::uu 127 [])))->R4 ⟨fr,gT S a l M++(fL g1 false f::r1::.box 61 x.awa::ext)⟩:=by
   intro x r1 ext j M o q A fr hj iR c1 c2 c3 c4 c5 c6 hc;have hb:=qa x C.err;refine Z _ (bZ.fg ?_ hc);clear Z hc;refine au ?_;simp only[fL,It.awa,bf,jt,nb,eK,ki,VV,Int.reduceBEq,Int.reduceBNe,Nat.reduceAdd,Nat.reduceSub,Nat.reduceLeDiff,Nat.reduceEqDiff,Int.reduceToNat,reduceIte,reduceCtorEq];refine V8 (zs:=[.sl 3 (f.map It.awa),.sl 3 ([x].map It.awa)]) (σ1:=gT S a l M++(fL g1 true f::r1::.box 61 x.awa::ext)) ?_ (DL f [x] (by omega) (by simp) (by omega) (by simp[bd];omega) _) ?_
   .refine(Wk.fz S.length (E:=61) (sz:=3) (by':=32) (g:=g1) (sh:=false) (rows:=f.map It.awa) (by rw[jt];rfl)).trans ?_;rw[eK];simp only[aH,bR,ev,fX,aA,aR,fK,iE,fz,oa,jx,aT];exact Wk.fg (.cons (.refl _) (.cons (.lit _ _) .nil))
   simp only[bf,jt,nb,eK,ki,VV,Int.reduceBEq,Int.reduceBNe,Nat.reduceAdd,Nat.reduceSub,Nat.reduceLeDiff,Nat.reduceEqDiff,Int.reduceToNat,reduceIte,reduceCtorEq];refine XZ _ (bZ.fg (fr':=(.ptr a 0::uu 1 (.b true::.b true::uu 5 (.own (S.length+(ext.length+1+1+1)) 0::.own (S.length+j) A::.I q::.I (m+1:Nat)::uu 128 [])))) (au ?_) (by repeat' constructor));simp only[hw,VV,Int.reduceBEq,Int.reduceBNe,Nat.reduceAdd,Nat.reduceSub,Nat.reduceLeDiff,Nat.reduceEqDiff,Int.reduceToNat,reduceIte,reduceCtorEq]
   refine hR _ (rF (fr':=(.ptr a 0::uu 1 (.b true::.b true::uu 5 (.own (S.length+0) 0::.own (S.length+1) 0::.I q::.I m::uu 128 [])))) (J':=gT S a l M++[fL 0 false (awl (f++[x])),fL 0 false o])
    ((Wk.fg (ys:=(.ptr a 0::uu 1 (.b true::.b true::uu 5 (.own (S.length+(ext.length+1+1+1)) 0::.own (S.length+j) A::.I q::.I m::uu 128 [])))) (by repeat' constructor)).trans
     (MY (i:=ext.length+1+1+1) (j:=j) (g1:=0) (g2:=A) (fB bn) iR (by simp[fL]) hj ?_)) (ih M (awl (f++[x])) o q 0 0 (by omega) c1 c2 c3 c4 (by omega) (by omega) (by omega) h1))
   repeat first|exact .nil|refine .cons (.forget _) ?_|refine .cons (.own 0 (ext.length+1+1+1) 61 3 32 0 false ((awl (f++[x])).map It.awa) rfl (by simp;rfl)) ?_|refine .cons (.own 1 j 61 3 32 A false (o.map It.awa) rfl hj) ?_|refine .cons (.jF _ (by simp only[L,LW])) ?_
  refine bZ.cut λR5 RF=>?_;simp only[bf,VV,Int.reduceBEq,Int.reduceBNe,Nat.reduceAdd,Nat.reduceSub,Nat.reduceLeDiff,Nat.reduceEqDiff,Int.reduceToNat,reduceIte,reduceCtorEq];refine cD (ff S a L l r (by omega) 8 (by decide) (by decide) _) rfl ?_;rintro _ _ ⟨v,rfl,hv,rfl⟩;simp only[bf,VV,Int.reduceBEq,Int.reduceBNe,Nat.reduceAdd,Nat.reduceSub,Nat.reduceLeDiff,Nat.reduceEqDiff,Int.reduceToNat,reduceIte,reduceCtorEq];refine RF _ (bZ.fg (fr':=(.ptr a 0::uu 1 (.b true::.b true::uu 5 (.own S.length g1::.own (S.length+1) g2::.I id::.I (m+1:Nat)::.ptr (S.length+2) 0::uu 14 (.I v::uu 112 []))))) (au ?_) (by repeat' constructor));clear RF R5;have T:IntKind.i64.wrap ((id:Int)+1)=((id+1:Nat):Int):=cm (by omega);have Q:((id+1:Nat):Int)=(id:Int)+1:=by omega
  have P:(v=0\/v=1)\/v=2\/(v=3\/v=4)\/(v=5\/v=6)\/v=7:=by omega
  rcases P with P|rfl|P|P|rfl
  .have slot:∀{w:aG},w∈pn->BS (awl (f++[⟨5,w,0⟩])) d id:=λh=>C.slot (xe _ h).1;rcases P with rfl|rfl
   .simp only[bf,jt,nb,eK,ki,VV,Int.reduceBEq,Int.reduceBNe,Nat.reduceAdd,Nat.reduceSub,Nat.reduceLeDiff,Nat.reduceEqDiff,Int.reduceToNat,reduceIte,reduceCtorEq];refine cD (ff S a L l (r+1) (by omega) 3 (by decide) (by decide) _) rfl ?_;rintro _ _ ⟨u,rfl,hu,rfl⟩;obtain⟨w,G,B⟩:=lk (ws:=pn) (n:=u.toNat) (by simp[pn];omega);simp only[pn,aH,bR]at B;simp only[B,bf,jt,nb,eK,ki,VV,Int.reduceBEq,Int.reduceBNe,Nat.reduceAdd,Nat.reduceSub,Nat.reduceLeDiff,Nat.reduceEqDiff,Int.reduceToNat,reduceIte,reduceCtorEq];refine⟨by omega,?_⟩;exact e ⟨5,w,0⟩ (fL g2 false d) [] 1 (r+1+1) d id g2 rfl (by simp) (by omega) (by omega) D (slot G) (by have:=(xe _ G).2;simp only;omega) (by omega) (by repeat' constructor)
   .simp only[bf,jt,nb,eK,ki,VV,Int.reduceBEq,Int.reduceBNe,Nat.reduceAdd,Nat.reduceSub,Nat.reduceLeDiff,Nat.reduceEqDiff,Int.reduceToNat,reduceIte,reduceCtorEq];refine cD (ff S a L l (r+1) (by omega) 3 (by decide) (by decide) _) rfl ?_;rintro _ _ ⟨u,rfl,hu,rfl⟩;obtain⟨w,G,B⟩:=lk (ws:=pn) (n:=u.toNat) (by simp[pn];omega);simp only[pn,aH,bR]at B;simp only[B,bf,jt,nb,eK,ki,VV,Int.reduceBEq,Int.reduceBNe,Nat.reduceAdd,Nat.reduceSub,Nat.reduceLeDiff,Nat.reduceEqDiff,Int.reduceToNat,reduceIte,reduceCtorEq];refine⟨by omega,?_⟩;exact e ⟨5,w,0⟩ (fL g2 false d) [] 1 (r+1+1) d id g2 rfl (by simp) (by omega) (by omega) D (slot G) (by have:=(xe _ G).2;simp only;omega) (by omega) (by repeat' constructor)
  .simp only[bf,jt,nb,eK,ki,T,VV,Int.reduceBEq,Int.reduceBNe,Nat.reduceAdd,Nat.reduceSub,Nat.reduceLeDiff,Nat.reduceEqDiff,Int.reduceToNat,reduceIte,reduceCtorEq];refine cD (ff S a L l (r+1) (by omega) 2 (by decide) (by decide) _) rfl ?_;rintro _ _ ⟨u,rfl,hu,rfl⟩;obtain⟨w,G,B⟩:=lk (ws:=qP) (n:=u.toNat) (by simp[qP];omega);simp only[qP,aH,bR]at B;obtain⟨Y,w3⟩:=Cp _ G;simp only[B,bf,jt,nb,eK,ki,T,VV,Int.reduceBEq,Int.reduceBNe,Nat.reduceAdd,Nat.reduceSub,Nat.reduceLeDiff,Nat.reduceEqDiff,Int.reduceToNat,reduceIte,reduceCtorEq];refine⟨by omega,?_⟩;have F:=C.empty Y (by omega) (by omega);rw[<- Q]at F;exact e ⟨4,w,((id+1:Nat):Int)⟩ (fL g2 false d) [] 1 (r+1+1) d (id+1) g2 rfl (by simp) (by omega) (by omega) D F (by simp only;omega) (by omega) (by repeat' constructor)
  .rcases P with rfl|rfl
   .simp only[bf,jt,nb,eK,ki,T,VV,Int.reduceBEq,Int.reduceBNe,Nat.reduceAdd,Nat.reduceSub,Nat.reduceLeDiff,Nat.reduceEqDiff,Int.reduceToNat,reduceIte,reduceCtorEq];refine cD (ff S a L l (r+1) (by omega) 3 (by decide) (by decide) _) rfl ?_;rintro _ _ ⟨u,rfl,hu,rfl⟩;obtain⟨w,G,B⟩:=lk (ws:=qo) (n:=u.toNat) (by simp[qo];omega);simp only[qo,aH,bR]at B;obtain⟨Y,w2,w3⟩:=AX _ G;simp only[B,bf,jt,nb,eK,ki,T,ag,VV,Int.reduceBEq,Int.reduceBNe,Nat.reduceAdd,Nat.reduceSub,Nat.reduceLeDiff,Nat.reduceEqDiff,Int.reduceToNat,reduceIte,reduceCtorEq];refine⟨by omega,⟨by omega,by simp only[maxLen];omega⟩,?_⟩;have e3:d.map It.awa++[[V.i .i64 2,.s w,.I ((id+1:Nat):Int)]]=(d++[(⟨2,w,((id+1:Nat):Int)⟩:It)]).map It.awa:=by simp[It.awa]
    rw[e3];have F:=C.opens Y w2 (by omega) (by omega);rw[<- Q]at F
    refine e ⟨2,w,((id+1:Nat):Int)⟩ (fL (g2+1) false (d++[⟨2,w,((id+1:Nat):Int)⟩])) [] 1 (r+1+1) (d++[⟨2,w,((id+1:Nat):Int)⟩]) (id+1) (g2+1) rfl (by simp) (by omega) (by simp;omega) (λz p=>by
     rcases bP.1 p with p|p
     .exact D z p
     .rw[cv]at p;subst p;exact w3) F ?_ ?_ ?_
    .simp only;omega
    .omega
    .repeat' constructor
   .simp only[bf,jt,nb,eK,ki,T,VV,Int.reduceBEq,Int.reduceBNe,Nat.reduceAdd,Nat.reduceSub,Nat.reduceLeDiff,Nat.reduceEqDiff,Int.reduceToNat,reduceIte,reduceCtorEq];refine cD (ff S a L l (r+1) (by omega) 3 (by decide) (by decide) _) rfl ?_;rintro _ _ ⟨u,rfl,hu,rfl⟩;obtain⟨w,G,B⟩:=lk (ws:=qo) (n:=u.toNat) (by simp[qo];omega);simp only[qo,aH,bR]at B;obtain⟨Y,w2,w3⟩:=AX _ G;simp only[B,bf,jt,nb,eK,ki,T,ag,VV,Int.reduceBEq,Int.reduceBNe,Nat.reduceAdd,Nat.reduceSub,Nat.reduceLeDiff,Nat.reduceEqDiff,Int.reduceToNat,reduceIte,reduceCtorEq];refine⟨by omega,⟨by omega,by simp only[maxLen];omega⟩,?_⟩;have e3:d.map It.awa++[[V.i .i64 2,.s w,.I ((id+1:Nat):Int)]]=(d++[(⟨2,w,((id+1:Nat):Int)⟩:It)]).map It.awa:=by simp[It.awa]
    rw[e3];have F:=C.opens Y w2 (by omega) (by omega);rw[<- Q]at F
    refine e ⟨2,w,((id+1:Nat):Int)⟩ (fL (g2+1) false (d++[⟨2,w,((id+1:Nat):Int)⟩])) [] 1 (r+1+1) (d++[⟨2,w,((id+1:Nat):Int)⟩]) (id+1) (g2+1) rfl (by simp) (by omega) (by simp;omega) (λz p=>by
     rcases bP.1 p with p|p
     .exact D z p
     .rw[cv]at p;subst p;exact w3) F ?_ ?_ ?_
    .simp only;omega
    .omega
    .repeat' constructor
  .rcases P with rfl|rfl
   .rcases dn d with J|⟨c,y,J⟩
    .subst J;have H:decide ((0:Int)<=IntKind.i64.wrap (((0:Nat):Int) - 1))=false:=rfl;simp only[bf,jt,nb,eK,ki,bR,al,H,VV,Int.reduceBEq,Int.reduceBNe,Nat.reduceAdd,Nat.reduceSub,Nat.reduceLeDiff,Nat.reduceEqDiff,Int.reduceToNat,reduceIte,reduceCtorEq];exact e ⟨1,t,0⟩ (fL g2 false []) [] 1 (r+1) [] id g2 rfl (by simp) (by omega) (by simp;omega) (by simp) (C.awd t) (by simp only;omega) (by omega) (by repeat' constructor)
    .rw[da]at J;subst J;have W:(c++[y]).length=c.length+1:=by simp
     have HU:IntKind.i64.wrap (((c.length+1:Nat):Int) - 1)=(c.length:Int):=by rw[IntWalk.i64_in _ (by omega)];omega
     have wx:IntKind.i64.wrap ((c.length:Int)+1)=((c.length+1:Nat):Int):=cm (by omega);have H:decide ((0:Int)<=(c.length:Int))=true:=by simp
     have Po:=D y (by simp);have JH:=wD y.awd;have X:∀j,gj (List.map It.awa (c++[y])) c.length j=y.awa[j]?:=λj=>qR;have O:(0:Int)<=(c.length:Int)/\(c.length:Int)<((c.length+1:Nat):Int):=⟨by omega,by omega⟩;obtain⟨F,hn⟩:=C.close (by omega);simp only[bf,jt,nb,eK,ki,ag,W,HU,H,X,It.awa,ao,VV,Int.reduceBEq,Int.reduceBNe,Nat.reduceAdd,Nat.reduceSub,Nat.reduceLeDiff,Nat.reduceEqDiff,Int.reduceToNat,reduceIte,reduceCtorEq];refine⟨O,O,?_⟩;refine aw (oz y.awd _) rfl ?_;simp only[bf,jt,nb,eK,ki,ag,W,HU,wx,H,X,It.awa,ao,VV,Int.reduceBEq,Int.reduceBNe,Nat.reduceAdd,Nat.reduceSub,Nat.reduceLeDiff,Nat.reduceEqDiff,Int.reduceToNat,reduceIte,reduceCtorEq];have e4:List.take c.length (List.map It.awa (c++[y]))=List.map It.awa c:=by rw[cM];exact Bh (by simp)
     have e5:List.take (c.length+1 - (c.length+1)) (List.drop (c.length+1) (List.map It.awa (c++[y])))=[]:=by simp
     simp only[e4,e5,bL,ag,al,de];refine⟨O,by omega,by omega,⟨by omega,by simp only[maxLen];omega⟩,by omega,⟨by omega,by simp only[maxLen];omega⟩,?_⟩;exact e ⟨3,cW y.awd,y.id⟩ (fL g2 false (c++[y])) [fL 1 false c] 3 (r+1) c id 1 rfl (by simp) (by omega) (by omega) (λz p=>D z (by simp[p])) (by rw[hn];exact F) (by simp only;omega) (by omega) (by repeat' constructor)
   .rcases dn d with J|⟨c,y,J⟩
    .subst J;have H:decide ((0:Int)<=IntKind.i64.wrap (((0:Nat):Int) - 1))=false:=rfl;simp only[bf,jt,nb,eK,ki,bR,al,H,VV,Int.reduceBEq,Int.reduceBNe,Nat.reduceAdd,Nat.reduceSub,Nat.reduceLeDiff,Nat.reduceEqDiff,Int.reduceToNat,reduceIte,reduceCtorEq];exact e ⟨1,t,0⟩ (fL g2 false []) [] 1 (r+1) [] id g2 rfl (by simp) (by omega) (by simp;omega) (by simp) (C.awd t) (by simp only;omega) (by omega) (by repeat' constructor)
    .rw[da]at J;subst J;have W:(c++[y]).length=c.length+1:=by simp
     have HU:IntKind.i64.wrap (((c.length+1:Nat):Int) - 1)=(c.length:Int):=by rw[IntWalk.i64_in _ (by omega)];omega
     have wx:IntKind.i64.wrap ((c.length:Int)+1)=((c.length+1:Nat):Int):=cm (by omega);have H:decide ((0:Int)<=(c.length:Int))=true:=by simp
     have Po:=D y (by simp);have JH:=wD y.awd;have X:∀j,gj (List.map It.awa (c++[y])) c.length j=y.awa[j]?:=λj=>qR;have O:(0:Int)<=(c.length:Int)/\(c.length:Int)<((c.length+1:Nat):Int):=⟨by omega,by omega⟩;obtain⟨F,hn⟩:=C.close (by omega);simp only[bf,jt,nb,eK,ki,ag,W,HU,H,X,It.awa,ao,VV,Int.reduceBEq,Int.reduceBNe,Nat.reduceAdd,Nat.reduceSub,Nat.reduceLeDiff,Nat.reduceEqDiff,Int.reduceToNat,reduceIte,reduceCtorEq];refine⟨O,O,?_⟩;refine aw (oz y.awd _) rfl ?_;simp only[bf,jt,nb,eK,ki,ag,W,HU,wx,H,X,It.awa,ao,VV,Int.reduceBEq,Int.reduceBNe,Nat.reduceAdd,Nat.reduceSub,Nat.reduceLeDiff,Nat.reduceEqDiff,Int.reduceToNat,reduceIte,reduceCtorEq];have e4:List.take c.length (List.map It.awa (c++[y]))=List.map It.awa c:=by rw[cM];exact Bh (by simp)
     have e5:List.take (c.length+1 - (c.length+1)) (List.drop (c.length+1) (List.map It.awa (c++[y])))=[]:=by simp
     simp only[e4,e5,bL,ag,al,de];refine⟨O,by omega,by omega,⟨by omega,by simp only[maxLen];omega⟩,by omega,⟨by omega,by simp only[maxLen];omega⟩,?_⟩;exact e ⟨3,cW y.awd,y.id⟩ (fL g2 false (c++[y])) [fL 1 false c] 3 (r+1) c id 1 rfl (by simp) (by omega) (by omega) (λz p=>D z (by simp[p])) (by rw[hn];exact F) (by simp only;omega) (by omega) (by repeat' constructor)
  .simp only[bf,jt,nb,eK,ki,VV,Int.reduceBEq,Int.reduceBNe,Nat.reduceAdd,Nat.reduceSub,Nat.reduceLeDiff,Nat.reduceEqDiff,Int.reduceToNat,reduceIte,reduceCtorEq];exact e ⟨1,t,0⟩ (fL g2 false d) [] 1 (r+1) d id g2 rfl (by simp) (by omega) (by omega) D (C.awd t) (by simp only;omega) (by omega) (by repeat' constructor)
set_option maxRecDepth 4000 in
def RJ(S:ak)(a:Nat)(q:a<S.length)(l:bH)(k:Nat)(x:k<2^49)(N:Nat)(F:N<=20):
  PC prog 34 [.ptr a 0,.I N,.b true,.b true] (gT S a l k) (λr J'=>∃(f:List It) (k':Nat),r=.sl 3 (f.map It.awa)/\BS f [] N/\f.length<=2*N/\bd f<=23*N/\(k<=k'/\k'<=k+12*N+1)/\J'=gT S a l k'):=by
 refine aZ func34 c34 λo w=>?_;have p:IntKind.i64.wrap ((N:Int)+1)=((N+1:Nat):Int):=cm (by omega);simp only[p34,SS,seval];refine bZ.cut λR d=>?_;simp only[bf,VV,seval];refine d _ ?_;clear d R;refine bZ.cut λR d=>?_;simp only[bf,VV,seval];refine d _ ?_;clear d R;refine bZ.cut λR d=>?_;simp only[bf,VV,seval];refine d _ ?_;clear d R;refine bZ.cut λR d=>?_;simp only[bf,p,VV,seval];refine cD (qD S a q l k (by omega) ((N+1:Nat):Int) (by omega) (by omega)) rfl ?_;rintro _ _ ⟨v,rfl,D,rfl⟩;obtain⟨m,rfl⟩:∃m:Nat,v=m:=⟨v.toNat,by omega⟩;simp only[bf,p,VV,seval]
 refine bZ.wk (((Wk.fg (ys:=(.ptr a 0::uu 1 (.b true::.b true::uu 5 (.nil::.nil::.I (0:Nat)::.I m::uu 128 [])))) (by repeat' constructor)).trans (Wk.ij (P:=prog) (J:=gT S a l (k+1)) (k:=9) Ip rfl)).trans ((Wk.jA (P:=prog) (J:=gT S a l (k+1)) [_] (k:=10) Ip rfl).trans (Wk.fg (ys:=(.ptr a 0::uu 1 (.b true::.b true::uu 5 (.own S.length 0::.own (S.length+1) 0::.I (0:Nat)::.I m::uu 128 [])))) ?_)))
  (bZ.uh (m+1) (aaz S a q l (k+1) (by omega) (fB o) m (by omega) m (k+1) [] [] 0 0 0 (aD _) (by omega) (by simp) (by simp) BS.nil (by simp) (by simp[bd]) (by omega) ?_))
 .simp only[bf,ai,al,VV,seval]
  repeat' constructor
 intro k' f c id n i A B t u C c6 y;simp only[JE];intros;simp only[VV,seval];refine d _ (bZ.fg (fr':=(uu 3 (.b true::uu 5 (.own S.length n::.own (S.length+1) i::uu 130 [])))) ?_ (by repeat' constructor));clear d R;refine bZ.cut λR d=>?_;simp only[fL,bf,jt,nb,eK,ki,ag,VV,seval];have j:IntKind.i64.wrap ((c.length:Int) - 1)=(c.length:Int) - 1:=IntWalk.i64_in _ (by omega);rw[j];refine bZ.aK (fr':=(uu 3 (.b true::uu 5 (.own S.length n::.own (S.length+1) i::uu 4 (.I ((c.length:Int) - 1)::uu 125 []))))) (by repeat' constructor) (c.length+1) (aay S a l k' c (by omega) t id (by omega) i c.length c f n rfl ⟨[],by simp⟩ u (by omega) ?_);intro h e s G z;simp only[JE];intros;simp only[fL,VV,seval];refine d _ (au ?_);clear d R;simp only[fL,bf,jt,nb,eK,ki,VV,seval];refine fH (xs':=[.sl 3 (h.map It.awa)]) (.inr rfl) rfl ((Wk.fz S.length (E:=61) (sz:=3) (by':=32) (g:=e) (sh:=false) (rows:=h.map It.awa) (by rw[jt];rfl)).trans ?_) ?_ ⟨h,k',rfl,s.mono (by omega),by omega,by omega,by omega,rfl⟩
 .rw[eK];simp only[aH,bR,ev,fX,aA,aR,fK,iE,fz,oa,jx,aT];have:=Wk.vN (P:=prog) (xs:=[.sl 3 (h.map It.awa)]) (loc:=[Ob.row 61 3 32 e true (h.map It.awa),Ob.row 61 3 32 i false (c.map It.awa)]) (fB (k':=k') o) (by simp only[bf,LW]);rw[bf]at this;exact this
 .rfl
def afh(S:ak)(a:Nat)(c:a<S.length)(l:bH)(k:Nat)(h:k<2^49)(N:Nat)(n:N<=20)(loc:ak):
  PC prog 34 [.ptr a 0,.I N,.b true,.b true] (gT S a l k++loc) (λr J'=>∃(f:List It) (k':Nat),r=.sl 3 (f.map It.awa)/\BS f [] N/\f.length<=2*N/\bd f<=23*N/\(k<=k'/\k'<=k+12*N+1)/\J'=gT S a l k'++loc):=by
 rw[oF c];refine(RJ (S++loc) a (by rw[aj];omega) l k h N n).mono ?_;rintro r J' ⟨f,k',j,d,e,i,m,g⟩;exact⟨f,k',j,d,e,i,m,by rw[g,oF c]⟩
def Wv(S:ak)(a:Nat)(d:a<S.length)(l:bH)(k:Nat)(j:k<2^50)(src:List It)(e:bQ [] src=0)(b:src.length<=100)(c:bd src<=10000)(loc:ak):
  PC prog 94 [.ptr a 0,.sl 3 (src.map It.awa)] (gT S a l k++loc) (λr J'=>∃(f:List It) (k':Nat),r=.sl 3 (f.map It.awa)/\Nc src f/\f.length<=2*src.length/\bd f<=bd src+20*src.length/\(k<=k'/\k'<=k+10*src.length)/\J'=gT S a l k'++loc):=by
 rw[oF d];refine(Wu (S++loc) a (by rw[aj];omega) l k j src e b c).mono ?_;rintro r J' ⟨f,k',n,g,h,m,o,i⟩;exact⟨f,k',n,g,h,m,o,by rw[i,oF d]⟩
def ZQ(out:List It)(x:It)(o:Cc):List It:=match o with
 |some b=>out++[⟨x.awb,x.awd,b⟩]
 |none=>out
def aax{J:ak}{K:bl}(F L I:V)(fr a:bH)(out:List It)(x:It)(g:Nat)(l:fr.length<2^62)(c:(out.length+1)*32<=2^47/\out.length+1<=maxLen):
  ∀(m k:Nat),k+m=min fr.length a.length ->
  (∀g,((fh (F) (fh (.sl 1 (fr.map bV)) (fh (.sl 1 (a.map bV)) (fj 4 (fh (.own J.length g) (fj 4 (fh (L) (fh (I) (fj 47 fo))))))))) λp=>K (.exit 2) ⟨p,J++[.row 61 3 32 g false ((ZQ out x (Dm (fr.drop k) (a.drop k) x.id)).map It.awa),.box 61 x.awa]⟩)) ->
  fm J.length prog QG K (m+1) ⟨(F::.sl 1 (fr.map bV)::.sl 1 (a.map bV)::uu 4 (.own J.length g::uu 1 (.ptr (J.length+1) 0::.I k::uu 1 (L::I::uu 47 [])))),J++[.row 61 3 32 g false (out.map It.awa),.box 61 x.awa]⟩:=by
 intro m
 induction m with
 |zero =>
  intro k o b;rw[UP (by omega)]at b
  have j:((decide ((k:Int)<(fr.length:Int)))&&decide ((k:Int)<(a.length:Int)))=false:=by
   rw[L5];simp;omega
  refine ar λR i=>?_;simp only[QG,ag,j,VV,seval];exact b g ..
 |succ m ih =>
  intro k o b;have d:k<fr.length:=by omega
  have f:k<a.length:=by omega
  rw[PI d f]at b;have u:decide ((k:Int)<(fr.length:Int))=true:=by simp;omega
  have q:decide ((k:Int)<(a.length:Int))=true:=by simp;omega
  have r:IntKind.i64.wrap ((k:Int)+1)=((k+1:Nat):Int):=by rw[IntWalk.i64_in _ (by omega)];omega
  refine ar λR i=>?_;simp only[QG,It.awa,ag,u,q,r,ao,Be d,Be f,VV,seval];have v:(0:Int)<=(k:Int)/\(k:Int)<(fr.length:Int):=by omega
  have n:(0:Int)<=(k:Int)/\(k:Int)<(a.length:Int):=by omega
  refine⟨v,λh=>⟨n,c,?_⟩,λh=>?_⟩
  .have h:x.id=fr.getD k 0:=by rw[cE]at h;exact h.symm
   rw[az h]at b;have t:out.map It.awa++[[.I x.awb,.s x.awd,.I (a.getD k 0)]]=(ZQ out x (some (a.getD k 0))).map It.awa:=by simp[ZQ,It.awa]
   rw[t];exact b (g+1) ..
  .have h:¬x.id=fr.getD k 0:=by rw[di]at h;exact λe=>h e.symm
   rw[an h]at b;refine i _ (aK ?_ (ih (k+1) (by omega) b))
   repeat' constructor
def aaw{J:ak}{K:bl}(d:List It)(fr b:bH)(t:cn J)(f:d.length<2^40)(p:fr.length<2^62):∀(rest pre out:List It) (g:Nat),d=pre++rest->out.length<=pre.length ->
  (∀g,((fj 7 (fh (.own J.length g) (fj 53 fo))) λu=>K (.exit 0) ⟨u,J++[.row 61 3 32 g false ((out++awv rest fr b).map It.awa)]⟩)) ->
  fm J.length prog QF K (rest.length+1) ⟨(.sl 3 (d.map It.awa)::.sl 1 (fr.map bV)::.sl 1 (b.map bV)::uu 4 (.own J.length g::uu 4 (.I d.length::.I pre.length::uu 47 []))),J++[.row 61 3 32 g false (out.map It.awa)]⟩:=by
 intro rest
 induction rest with
 |nil =>
  intro pre out g n w k;have n:=cN n
  subst n;have e:out++awv [] fr b=out:=by simp[awv]
  rw[e]at k;refine ar λR o=>?_;simp only[QF,VV,seval];exact⟨λh=>by simp at h,λ_=>k g ..⟩
 |cons x rest ih =>
  intro pre out g n w k;subst n
  have next:∀(a:List It) (j:Nat) {i:ak},out++awv (x::rest) fr b=a++awv rest fr b->a.length<=out.length+1->∀{R:ca} {q:aB},(∀l,fm J.length prog QF K (rest.length+1) l->R l) ->
    oJ q (.sl 3 ((pre++x::rest).map It.awa)::.sl 1 (fr.map bV)::.sl 1 (b.map bV)::uu 4 (.own J.length j::uu 4 (.I (pre++x::rest).length::.I (IntKind.i64.wrap ((pre.length:Int)+1))::uu 47 [])))->R ⟨q,J++(.row 61 3 32 j false (a.map It.awa)::i)⟩:=by
   intro a j i v A R q o r
   have z:=dh pre x (by simp at f;omega)
   rw[z]at r;rw[v]at k;refine o _ (cG [_] i (cC t (by simp)) r ?_ (ih (pre++[x]) a j (by simp) (by simp;omega) k));simp only[LW,ai,al,aY];omega
  have m:(out.length+1)*32<=2^47/\out.length+1<=maxLen:=by simp at f;simp[maxLen];omega
  refine ar λR o=>?_;simp only[QF,It.awa,VV,seval];refine⟨λ_=>⟨by simp;omega,?_⟩,λh=>by simp at h<;>omega⟩;refine aw (oT x _) rfl ?_;simp only[VV,seval];refine⟨λc=>?_,λc=>?_⟩
  .have c:b9 x=false:=by rw[dm]at c;exact c
   have y:out.map It.awa++[[.I x.awb,.s x.awd,.I x.id]]=(out++[x]).map It.awa:=by simp[It.awa]
   refine⟨by rw[ag];exact m,?_⟩;rw[y];refine next (out++[x]) (g+1) (by simp[awv,WU,c]) (by simp) o ?_
   repeat' constructor
  .have c:b9 x=true:=by rw[dQ]at c;exact c
   refine bZ.aK ?_ (min fr.length b.length+1) (aax (.sl 3 ((pre++x::rest).map It.awa)) (.I (pre++x::rest).length) (.I pre.length) fr b out x g p m (min fr.length b.length) 0 (by omega) ?_)
   .simp only[It.awa,ey]
    repeat' constructor
   intro j;simp only[JE];intros;simp only[VV,seval];refine next _ j ?_ ?_ o ?_
   .simp only[mD,awv,lE,WU,c,aT,ZQ];cases Dm fr b x.id<;>simp
   .simp only[ZQ];split<;>simp
   .repeat' constructor
def tF(a:List It)(fr c:bH)(b:a.length<2^40)(f:bd a<2^40)(d:fr.length<2^62)(J:ak):bM prog 35 [.sl 3 (a.map It.awa),.sl 1 (fr.map bV),.sl 1 (c.map bV)] J (.sl 3 ((rename a fr c).map It.awa)):=by
 refine aZ func35 p35.2 λe h=>au ?_;simp only[p35,SS,seval];simp only[ag,VV,seval];refine bZ.wk ((Wk.ij (k:=7) Ip rfl).trans (Wk.fg ?_)) (bZ.uh (a.length+1) (aaw a fr c e b d a [] [] 0 rfl (aD _) ?_))
 .simp only[VV,seval]
  repeat' constructor
 .intro g;simp only[JE];intros;simp only[bc,VV,seval];refine xl J.length (by simp only[jX];rfl) (Az (awv a fr c) (v8 (tE _ _ _) b) (v8 (DE _ _ _) f) _) (by simp[fz,oa,ev]) ?_;simp only[VV,seval];exact gq e (by rfl) (by simp[LW])
def oV(s t:List It)(g:s.length<2^38)(e:t.length<2^38)(f:bd s<2^38)(c:bd t<2^38)(J:ak):bM prog 49 [.sl 3 (s.map It.awa),.sl 3 (t.map It.awa)] J (.iQ [.sl 3 ((gK s t).map It.awa),.sl 3 ((iq s t).map It.awa)]):=by
 refine aZ func49 p49.2 λb d=>au ?_;simp only[p49,SS,seval];simp only[ag,VV,seval];refine⟨by simp[maxLen];omega,by simp[maxLen];omega,?_⟩;refine xl J.length (by simp only[jX];rfl) (rJ (s++t) (by simp;omega) _) (by simp[fz,oa,ev]) ?_;have a:=jE (s++t);rw[vv,aj]at a;rw[vv];simp only[ag,VV,seval];refine aw (W0 (cS s t).length (by omega) _) rfl ?_;simp only[VV,seval];refine aw (tF s (cS s t) (eE (cS s t).length) (by omega) (by omega) (by omega) _) rfl ?_;simp only[VV,seval];refine aw (tF t (cS s t) (eE (cS s t).length) (by omega) (by omega) (by omega) _) rfl ?_;simp only[VV,seval];exact bg b (.inr rfl) (by simp only[RS,seval];rfl) (by simp[LW]) ⟨rfl,rfl⟩
def EE:dq:=[[83,97,118,101],[114,101,100,32,99,97,114],[82,101,100,32,99,97,114,115]]
def RI:∀s∈EE,bQ [] [⟨1,s,0⟩]=0/\s.length<=8:=by decide +kernel
def EF:dq:=[[],[],[83,97,118,101],[114,101,100,32,99,97,114]]
def EG:dq:=[[],[],[120],[83,97,118,101]]
def zG:dq:=[[],[97,110,110],[98,111,98]]
def xf:dq:=[[],[112],[113]]
def aiB:(∀s∈EF,s∈J7)/\(∀s∈EG,s∈J7)/\(∀s∈zG,s∈AY)/\∀s∈xf,s∈AY:=by decide +kernel
set_option maxRecDepth 20000 in
def RT(S:ak)(a:Nat)(c:a<S.length)(l:bH)(k:Nat)(hk:k<2^48):
  PC prog 41 [.ptr a 0] (gT S a l k) (λr J'=>∃(e:En) (k':Nat),r=.agg e.awa/\xo e/\(k<=k'/\k'<=k+200)/\J'=gT S a l k'):=by
 refine aZ func41 c41 λK dN=>?_;simp only[p41,SS,seval];refine bZ.cut λR b=>?_;simp only[bf,VV,seval];refine b _ ?_;clear b R;refine bZ.cut λR b=>?_;simp only[bf,VV,seval];refine cD (afh S a c l k (by omega) 4 (by decide) _) rfl ?_;rintro _ _ ⟨F,E,rfl,L,f2,f3,f4,rfl⟩;simp only[bf,jt,nb,eK,ki,VV,seval];refine b _ (bZ.fg (fr':=(.ptr a 0::uu 1 (.ptr S.length 0::.sl 3 (F.map It.awa)::uu 52 []))) ?_ (by repeat' constructor));clear b R;refine bZ.cut λR b=>?_
 have g:∀(f:List It) (u:Nat) {G:aB},BS f [] 4->f≠[]->f.length<=8->bd f<=92->(k<=u/\u<=k+50)->oJ G (.ptr a 0::uu 1 (.ptr S.length 0::.sl 3 (f.map It.awa)::uu 52 [])) ->
   R ⟨G,gT S a l u++[.box 37 [.nil,.nil,.s [],.s [],.s [],.s [],.I 0,.I 0]]⟩:=by
  intro f u G H O c3 c4 c5 Z;refine b _ (bZ.fg ?_ Z);clear b R;refine bZ.cut λR b=>?_;simp only[bf,jt,nb,eK,ki,VV,seval];refine cD (Wv S a c l u (by omega) f H.err (by omega) (by omega) _) rfl ?_;rintro _ _ ⟨t,d,rfl,U,t2,t3,t4,rfl⟩;simp only[bf,jt,nb,eK,ki,VV,seval];refine b _ (bZ.fg (fr':=(.ptr a 0::uu 1 (.ptr S.length 0::.sl 3 (f.map It.awa)::.sl 3 (t.map It.awa)::uu 51 []))) ?_ (by repeat' constructor));clear b R;refine bZ.cut λR b=>?_;simp only[bf,jt,nb,eK,ki,VV,seval];refine aw (oV f t (by omega) (by omega) (by omega) (by omega) _) rfl ?_;simp only[bf,jt,nb,eK,ki,VV,seval];refine b _ (bZ.fg (fr':=(.ptr a 0::uu 1 (.ptr S.length 0::uu 2 (.sl 3 ((gK f t).map It.awa)::.sl 3 ((iq f t).map It.awa)::uu 49 [])))) (au ?_) (by repeat' constructor));clear b R;simp only[bf,jt,nb,eK,ki,VV,seval];refine cD (ff S a c l d (by omega) 4 (by decide) (by decide) _) rfl ?_;rintro _ _ ⟨M,rfl,LH,rfl⟩;obtain⟨j,HU,i⟩:=lk (ws:=EF) (n:=M.toNat) (by simp[EF];omega);simp only[EF,aH,bR]at i;simp only[i,bf,jt,nb,eK,ki,VV,seval];refine⟨by omega,?_⟩;refine cD (ff S a c l (d+1) (by omega) 4 (by decide) (by decide) _) rfl ?_;rintro _ _ ⟨W,rfl,TR,rfl⟩;obtain⟨p,N,o⟩:=lk (ws:=EG) (n:=W.toNat) (by simp[EG];omega);simp only[EG,aH,bR]at o;simp only[i,o,bf,jt,nb,eK,ki,VV,seval]
  iterate 3 (try refine aC (by omega) ?_)
  refine cD (ff S a c l (d+1+1) (by omega) 3 (by decide) (by decide) _) rfl ?_;rintro _ _ ⟨v3,rfl,Q,rfl⟩;obtain⟨x,D,y⟩:=lk (ws:=zG) (n:=v3.toNat) (by simp[zG];omega);simp only[zG,aH,bR]at y;simp only[i,o,y,bf,jt,nb,eK,ki,VV,seval]
  iterate 4 (try refine aC (by omega) ?_)
  refine cD (ff S a c l (d+1+1+1) (by omega) 3 (by decide) (by decide) _) rfl ?_;rintro _ _ ⟨v4,rfl,aa,rfl⟩;obtain⟨q,C,A⟩:=lk (ws:=xf) (n:=v4.toNat) (by simp[xf];omega);simp only[xf,aH,bR]at A;simp only[i,o,y,A,bf,jt,nb,eK,ki,VV,seval]
  iterate 6 (try refine aC (by omega) ?_)
  refine cD (ff S a c l (d+1+1+1+1) (by omega) 50 (by decide) (by decide) _) rfl ?_;rintro _ _ ⟨z,rfl,ab,rfl⟩;simp only[i,o,y,A,bf,jt,nb,eK,ki,VV,seval]
  iterate 6 (try refine aC (by omega) ?_)
  refine cD (ff S a c l (d+1+1+1+1+1) (by omega) 3 (by decide) (by decide) _) rfl ?_;rintro _ _ ⟨m,rfl,Y,rfl⟩;have B:IntKind.i64.wrap (1+m)=1+m:=IntWalk.i64_in _ (by omega);simp only[i,o,y,A,B,bf,jt,nb,eK,ki,VV,seval];refine⟨by omega,?_⟩;obtain⟨X,J,i3,V⟩:=aiB;have hE:xo ⟨gK f t,iq f t,j,p,x,q,z,1+m⟩:=X9 H U O (by omega) (by omega) (by omega) (by omega) (X _ HU) (J _ N) (i3 _ D) (V _ C) (by omega) (by omega);refine fH (xs:=[.agg (En.awa ⟨gK f t,iq f t,j,p,x,q,z,1+m⟩)]) (xs':=[.agg (En.awa ⟨gK f t,iq f t,j,p,x,q,z,1+m⟩)]) (.inr rfl) (by simp only[ni,xr,jt,VV,seval];rfl) ?_ rfl ⟨_,d+1+1+1+1+1+1,rfl,hE,by omega,rfl⟩;have:=Wk.vN (P:=prog) (xs:=[.agg (En.awa ⟨gK f t,iq f t,j,p,x,q,z,1+m⟩)]) (loc:=[Ob.box 37 (En.awa ⟨gK f t,iq f t,j,p,x,q,z,1+m⟩)]) (fB (k':=d+1+1+1+1+1+1) K) (by simp only[En.awa,bf,LW]);rw[bf]at this;exact this
 simp only[ag,bf,jt,nb,eK,ki,VV,seval];refine⟨λh=>?_,λh=>?_⟩
 .refine cD (ff S a c l E (by omega) 3 (by decide) (by decide) _) rfl ?_;rintro _ _ ⟨v,rfl,hv,rfl⟩;obtain⟨w,T,e⟩:=lk (ws:=EE) (n:=v.toNat) (by simp[EE];omega);obtain⟨j,p⟩:=RI _ T;simp only[EE,aH,bR]at e;simp only[e,bf,jt,nb,eK,ki,VV,seval];refine⟨by omega,?_⟩;refine g [⟨1,w,0⟩] (E+1) ⟨rfl,j,by simp[tg,b9],by simp,by simp⟩ (by simp) (by simp) (by simp[bd];omega) (by omega) ?_;simp only[aH,bR,It.awa]
  repeat first|exact .nil|refine .cons (.refl _) ?_|refine .cons (.lit _ _) ?_|refine .cons (.forget _) ?_
 .have h:F≠[]:=by rintro rfl;simp at h
  refine g F E L h (by omega) (by omega) (by omega) ?_
  repeat' constructor
def Kk(S:ak)(a:Nat)(b:a<S.length)(l:bH)(k:Nat)(c:k<2^48)(loc:ak):
  PC prog 41 [.ptr a 0] (gT S a l k++loc) (λr J'=>∃(e:En) (k':Nat),r=.agg e.awa/\xo e/\(k<=k'/\k'<=k+200)/\J'=gT S a l k'++loc):=by
 rw[oF b];refine(RT (S++loc) a (by rw[aj];omega) l k c).mono ?_;rintro r J' ⟨e,k',g,d,h,f⟩;exact⟨e,k',g,d,h,by rw[f,oF b]⟩
structure Wl (q:Qr):Prop where
 en:∃e,xo e/\q.awc=e.awc/\q.bU=e.bU/\q.next=e.next
 now:0<=q.now/\q.now<90
 threshold:1<=q.threshold/\q.threshold<=102
 gJ:1<=q.gJ/\q.gJ<=12
def Iq:Ti prog 37 8 128:=qJ (by kernel_rfl)
def qq(g:Nat)(sh:Bool)(f:List En):Ob:=.row 37 8 128 g sh (f.map En.awa)
def Ul{out:List En}{n:Nat}(h:n<out.length):∃x∈out,(out.map En.awa).getD n []=x.awa :=
 ⟨out[n],dC h,by simp[aq,h]⟩
def Dx:dq:=[[32],[46],[32,99,97,114],[115]]
def Ns{s:aG}(h:s∈Dx):s.length<=4:=by revert s;decide
set_option maxRecDepth 20000 in
def Oj(S:ak)(a:Nat)(D:a<S.length)(l:bH){K:bl}(G:Nat)(Ht:G<2^46)(bn:cn (gT S a l G))(N:Nat)(hN:N<=20):∀(m:Nat) (k:Nat) (out:List En) (g:Nat),m<=N->out.length+m<=N->(∀o∈out,pL out.length o)->k+1000*m<=G+1000*N ->
  (∀(k:Nat) (out:List En) (g:Nat),(∀o∈out,pL out.length o)->out.length<=N->k<=G+1000*N->((fj 5 (fh (.own S.length g) (fj 53 fo))) λZZ=>K (.exit 0) ⟨ZZ,gT S a l k++[qq g false out]⟩)) ->
  fm S.length prog Vo K (m+1) ⟨(.ptr a 0::uu 4 (.own S.length g::.I m::uu 52 [])),gT S a l k++[qq g false out]⟩:=by
 intro m
 induction m with
 |zero =>
  intro k out g hm vI F hk U;refine ar λR hR=>?_;simp only[Vo,VV,seval];exact⟨λh=>by simp at h,λ_=>U k out g F (by omega) (by omega) ..⟩
 |succ m ih =>
  intro k out g hm vI F hk U;have hw:IntKind.i64.wrap (((m+1:Nat):Int) - 1)=(m:Int):=by rw[IntWalk.i64_in _ (by omega)];omega
  refine sN λR hR=>?_;simp only[Vo];refine bZ.cut λR1 EC=>?_;simp only[VV,seval];refine⟨λ_=>?_,λh=>by simp at h<;>omega⟩;refine EC _ (bZ.fg (fr':=(.ptr a 0::uu 4 (.own S.length g::.I (m+1:Nat)::uu 52 []))) ?_ (by repeat' constructor));clear EC R1;refine bZ.HC λR2 XZ=>bZ.lZ ?_
  have again:∀(d:List En) (p f:Nat) (ext:ak) {i:aB},(∀o∈d,pL d.length o)->d.length<=out.length+1->f<=k+1000->oJ i (.ptr a 0::uu 4 (.own S.length p::.I (m+1:Nat)::uu 52 []))->R2 ⟨i,gT S a l f++(qq p false d::ext)⟩:=by
   intro d p f ext i L c2 c3 B;refine XZ _ (bZ.fg (au ?_) B);simp only[hw,VV,seval]
   have wx:Wk prog S.length (.ptr a 0::uu 4 (.own S.length p::.I m::uu 52 [])) (gT S a l f++(qq p false d::ext)) (.ptr a 0::uu 4 (.own S.length p::.I m::uu 52 [])) (gT S a l f++[qq p false d]):=by
    have:=Wk.A2 (P:=prog) (n:=S.length) (xs:=(.ptr a 0::uu 4 (.own S.length p::.I m::uu 52 []))) (J:=gT S a l f++[qq p false d]) (loc:=ext) (by simp[bf]) (cC (fB bn) (by simp[qq])) (gZ.1 (by
     rw[aj,bf];simp only[ai,al,ajl,acs 1 D,aY,LW]))
    rwa [bk,fI]at this
   exact hR _ (rF ((Wk.fg (by repeat' constructor)).trans wx) (ih f d p (by omega) (by omega) L (by omega) U))
  refine bZ.cut λR3 Y=>?_;simp only[qq,bf,jt,nb,eK,ki,VV,seval];refine cD (Kk S a D l k (by omega) _) rfl ?_;rintro _ _ ⟨e,u,rfl,hE,tn,rfl⟩;simp only[En.awa,bf,jt,nb,eK,ki,VV,seval];refine Y _ (bZ.fg (fr':=(.ptr a 0::uu 4 (.own S.length g::.I (m+1:Nat)::.ptr (S.length+1) 0::uu 51 []))) ?_ (by repeat' constructor));clear Y R3;refine bZ.HC λR4 W=>?_
  have q:∀(e:En) (f:Nat) (ext:ak) {i:aB},pL (out.length+1) e->f<=k+1000->oJ i (.ptr a 0::uu 4 (.own S.length g::.I (m+1:Nat)::.ptr (S.length+1) 0::uu 51 [])) ->
    R4 ⟨i,gT S a l f++(qq g false out::.box 37 e.awa::ext)⟩:=by
   intro e f ext i L c3 B;refine W _ (bZ.fg (au ?_) B);simp only[qq,En.awa,bJ,bc,bf,jt,nb,eK,ki,ag,V.pure,VV,seval];refine⟨⟨by omega,by simp only[maxLen];omega⟩,?_⟩
   have e0:out.map En.awa++[[.sl 3 (e.awc.map It.awa),.sl 3 (e.awf.map It.awa),.s e.bU,.s e.next,.s e.c8,.s e.cA,.I e.awh,.I e.awq]]=(out++[e]).map En.awa:=by
    simp[En.awa]
   rw[e0];refine again (out++[e]) (g+1) f _ (λz y=>?_) (by simp) c3 (by repeat' constructor);rw[aj,eI];rcases bP.1 y with y|y
   .exact(F z y).mono (by omega)
   .rw[cv]at y;subst y;exact L
  refine bZ.cut λR5 T=>?_
  have skip:∀(f:Nat) {i:aB},f<=u+1->oJ i (.ptr a 0::uu 4 (.own S.length g::.I (m+1:Nat)::.ptr (S.length+1) 0::uu 19 (.b false::uu 31 [])))->R5 ⟨i,gT S a l f++[qq g false out,.box 37 e.awa]⟩:=by
   intro f i sD B;refine T _ (bZ.fg (bZ.ahP rfl (au ?_)) B);simp only[VV,seval];exact q e f [] (hE.toB _) (by omega) (by repeat' constructor)
  simp only[qq,bf,jt,nb,eK,ki,ag,VV,seval]
  by_cases H:out=[]
  .have A:decide ((0:Int)<(out.length:Int))=false:=by simp[H]
   refine ua (Q:=λ_ _=>True) (c:=false) (by simp only[A,VV,seval]<;>rfl) (λh=>by simp at h) rfl (λh=>by simp at h) λ_=>⟨.I 0,?_⟩;simp only[A,VV,seval];refine skip u (by omega) ?_
   repeat' constructor
  have A:decide ((0:Int)<(out.length:Int))=true:=by
   have:=cT.2 H;simp;omega
  refine ua (c:=true) (by simp only[A,VV,seval]<;>rfl) (λ_=>ff S a D l u (by omega) 2 (by decide) (by decide) _) rfl ?_ (λh=>by simp at h);rintro _ _ _ ⟨v,rfl,hv,rfl⟩
  by_cases X:v=0
  .have O:(v==0)=true:=by simp[X]
   simp only[A,O,VV,seval];refine T _ (bZ.fg (fr':=(.ptr a 0::uu 4 (.own S.length g::.I (m+1:Nat)::.ptr (S.length+1) 0::uu 19 (.b true::uu 31 [])))) (bZ.ahO rfl ?_) (by repeat' constructor));clear T skip R5;refine bZ.cut λR6 C=>?_;simp only[qq,bf,jt,nb,eK,ki,ag,VV,seval];refine cD (ff S a D l (u+1) (by omega) out.length (by have:=cT.2 H;omega) (by omega) _) rfl ?_;rintro _ _ ⟨j,rfl,Z,rfl⟩;simp only[qq,bf,jt,nb,eK,ki,ag,VV,seval];obtain⟨x,M,Pp⟩:=Ul (out:=out) (n:=j.toNat) (by omega);have r:=F x M;simp only[Pp,En.awa,V.pure,VV,seval];refine⟨⟨Z.1,Z.2⟩,?_⟩;refine C _ (bZ.fg (fr':=(.ptr a 0::uu 4 (.own S.length g::.I (m+1:Nat)::.ptr (S.length+1) 0::.ptr (S.length+2) 0::uu 50 []))) ?_ (by repeat' constructor));clear C R6;refine bZ.cut λR7 E=>?_;simp only[bf,jt,nb,eK,ki,V.pure,VV,seval];refine cD (ff S a D l (u+1+1) (by omega) 4 (by decide) (by decide) _) rfl ?_;rintro _ _ ⟨w,rfl,aa,rfl⟩;obtain⟨t,ht,et⟩:=lk (ws:=Dx) (n:=w.toNat) (by simp[Dx];omega);have BF:=Ns ht;simp only[Dx,aH,bR]at et;have b1:=r.jr;have b2:=r.ie;have b3:=r.uk;have b4:=r.rv;simp only[et,bf,jt,nb,eK,ki,V.pure,VV,seval];refine⟨by omega,?_⟩;refine ml (zs:=[.sl 3 (x.awc.map It.awa),.sl 3 ([(⟨1,t,0⟩:It)].map It.awa)]) (.cons (.refl _) (.cons (.lit _ _) .nil)) (jW x.awc [⟨1,t,0⟩] (by omega) (by simp) (by omega) (by simp[bd];omega) _) ?_;simp only[bf,jt,nb,eK,ki,V.pure,VV,seval];obtain⟨_,_,f1,f2⟩:=Ds r.src (ou r.ok).nonempty t;refine E _ (bZ.fg (fr':=(.ptr a 0::uu 4 (.own S.length g::.I (m+1:Nat)::.ptr (S.length+1) 0::.ptr (S.length+2) 0::.sl 3 ((awl (x.awc++[⟨1,t,0⟩])).map It.awa)::uu 49 []))) (au ?_) (by repeat' constructor));clear E R7;simp only[bf,jt,nb,eK,ki,V.pure,VV,seval];refine aw (oV (awl (x.awc++[⟨1,t,0⟩])) x.awf (by omega) (by omega) (by omega) (by omega) _) rfl ?_;simp only[bf,jt,nb,eK,ki,V.pure,VV,seval];refine q ⟨gK (awl (x.awc++[⟨1,t,0⟩])) x.awf,iq (awl (x.awc++[⟨1,t,0⟩])) x.awf,e.bU,e.next,e.c8,e.cA,e.awh,e.awq⟩ (u+1+1+1) _ (WC (by omega) (hE.toB 0) r BF) (by omega) ?_
   repeat' constructor
  .have O:(v==0)=false:=by simpa using X
   simp only[A,O,VV,seval];refine skip (u+1) (by omega) ?_
   repeat' constructor
structure UC (q:Qr):Prop where
 ok:fi q=0
 jr:q.awc.length<=70
 ie:bd q.awc<=600
 prev:q.bU.length<=7
 next:q.next.length<=7
structure xn (p:Pn):Prop where
 ok:oX p=0
 iN:0<=p.iN/\p.iN<=58
end Go.Proofs.Tryz

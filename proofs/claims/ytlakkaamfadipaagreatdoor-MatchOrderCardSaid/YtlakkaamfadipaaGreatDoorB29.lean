/- A part of a proof; the claim's last text says of what. -/
import Derived.StillTailTactics
import Derived.LoopN
import Derived.Test.YtlakkaamfadipaaGreatDoorB28
set_option linter.all false
set_option maxHeartbeats 8000000

namespace Go.Proofs.Tryz
open Go Go.Pm Go.Bt Go.RowKit
def WR{w:bD}{J:ak}{μ:Mem}{xs:dF}{r:aB}{sz:Nat}{vals news:List Value}(h:kN w J μ xs sz vals)(s:vals.length=xs.length*sz)(t:kN w J μ [r] sz news)(y:news.length=sz)(m:Nat)(n:m<=xs.length):
  kN w J μ (xs.take m++r::xs.drop m) sz (vals.take (m*sz)++news++vals.drop (m*sz)):=by
 have g:(vals.take (m*sz)).length=m*sz:=by
  rw[aP,s];exact fb (bI _ n)
 have k:(xs.take m).length=m:=by rw[aP];exact fb n
 have p:kN w J μ (xs.take m) sz (vals.take (m*sz)):=by
  refine⟨λq a=>h.1 q (cF a),λi j x b=>?_⟩
  have l:i<m:=by
   obtain⟨q,a,_⟩:=jz b;have:=(ah.1 a).1;omega
  have c:gj xs i j=some x:=by
   simp only[gj,ee,az l]at b |-;exact b
  obtain⟨d,u,f,e⟩:=h.2 i j x c
  have B:j<sz:=by
   obtain⟨q,a,z⟩:=jz c;have:=h.1 q (bE a);have:=(ah.1 z).1;omega
  refine⟨d,u,?_,e⟩
  have A:i*sz+j<m*sz:=by
   have:(i+1)*sz<=m*sz:=bI _ l;rw[cJ,ir]at this;omega
  rw[ee,az A];exact f
 have o:kN w J μ (xs.drop m) sz (vals.drop (m*sz)):=by
  refine⟨λq a=>h.1 q (cH a),λi j x b=>?_⟩
  have c:gj xs (m+i) j=some x:=by
   simp only[gj,db]at b |-;exact b
  obtain⟨d,u,f,e⟩:=h.2 _ j x c;refine⟨d,u,?_,e⟩;rw[db,<- f,cJ,iW]
 have v:=(p.append t (by rw[g,k])).append o (by rw[aj,aj,g,y,k,cJ];simp);simpa using v
def Rj(l:List dM)(x:dM)(m id f g g2:Nat)(Z:Bool)(hm:m<l.length)(hl:l.length<2^30)(J:ak)(P:id≠f)(h1:J[id]?=some (.row 108 11 176 g false (l.map dM.awa)))(R:J[f]?=some (.row 108 11 176 g2 Z [x.awa])):
  PC prog 71 [.own id g,.I m,.own f g2] J (λr J'=>r=.own id (g+1)/\J'=J.set id (.row 108 11 176 (g+1) false ((l.take m++x::l.drop m).map dM.awa))):=by
 refine PC.Vr h1 λB w0 w U vs H o=>?_;have L:=o.2 0 _ rfl;have a1:=(o.2 1 _ rfl).iF;have N:=o.2 2 _ rfl;have L:=L.mK h1;have N:=N.mK R;obtain⟨_,c,Q,dd⟩:=H.obj id _ h1;obtain⟨_,a,t,MS⟩:=H.obj f _ R
 have e:vs=#[U id,.int .i64 m,U f]:=by
  obtain⟨q⟩:=vs
  match q,o.1 with
  |[u,v,y],_=>simp at L a1 N;rw[L,a1,N]
 rw[e];have o1:=kN.one H dd Q.1;have o2:=kN.one H MS t.1;rcases Q.2 with⟨_,hn⟩|⟨s,i,d,S,hB,C,Ez,Co,F,D⟩
 .rw[ag]at hn;omega
 rcases t.2 with⟨_,hn⟩|⟨E,p,A,z,ad,K,aa,ac,ab,X⟩
 .simp at hn
 have Y:(l.map dM.awa).length=l.length:=ag ..;rw[Y]at S Ez D Q;have V:E≠s:=λe=>P (H.sep id f _ _ s h1 R (by simp) (by simp) (by rw[S];rfl) (by rw[z,e];rfl));have O:a.length=11:=by simpa using t.1
 have LG:c.length=l.length*11:=by rw[Q.1]
 have Eu:∀j v,a[j]?=some v->w.cell? ⟨E,0+j,none⟩=some v:=by
  intro j v M;rw[<- X,ee]at M;split at M
  .simp only[World.cell?,K,aY];simpa using M
  .cases M
 have W:E<w.heap.size:=(cg.1 K).1;have n:((l.take m++x::l.drop m).map dM.awa).length=l.length+1:=by simp;omega
 have OO:kN w J U ((l.take m++x::l.drop m).map dM.awa) 11 (c.take (m*11)++a++c.drop (m*11)):=by
  have:=WR (r:=x.awa) dd (by rw[Y];exact LG) MS O m (by rw[Y];omega);simpa[eu,eO]using this
 have h:(c.take (m*11)++a++c.drop (m*11)).length=(l.length+1)*11:=by
  simp only[aj,aP,bA,LG,O];omega
 rw[S,z]
 by_cases Ey:l.length+1<=i
 .refine(LD s l.length i m E 0 p d a w hm Ey (by unfold maxLen at Co;omega) V C F O Eu (λv o=>o1 v (D▸o)) o2 108 108 A.size d.size (by simp[World.shape?,K]) (by simp[World.shape?,C]) (by rw[F];omega) (by simp[World.frozen?,K]) (by simp[World.frozen?,K])).mono ?_;rintro e w' ⟨rfl,rfl⟩;refine⟨_,_,rfl,?_,λb T=>.inl T,?_,OO⟩
  .refine⟨rfl,rfl,rfl,?_,λk hk P=>?_⟩
   .simp only[World.setRow,World.drew,xL];exact aD _
   .have sD:¬s=k:=λe=>P (by rw[e];rfl);simp only[World.setRow,World.drew,dp,an sD]
  .rw[n]
   have e1:d.toList.take (m*11)=c.take (m*11):=by
    rw[<- D,lB,fb (by omega)]
   have e2:(FZ d l.length m a).toList=(c.take (m*11)++a++c.drop (m*11))++d.toList.drop ((l.length+1)*11):=by
    rw[FZ,D,e1]
   refine⟨h,.inr ⟨s,i,_,rfl,hB,setRow_heap w.drew s d _ 108 (0,0) C,Ey,Co,?_,?_⟩⟩
   .have e3:(FZ d l.length m a).size=(FZ d l.length m a).toList.length:=bh.symm;rw[e3,e2,aj,h,bA,(show d.toList.length=i*11 from by rw[bh,F])];omega
   .rw[e2,dL (by rw[h];exact aD _),bW (by rw[h];exact aD _)]
 .have qi:i=l.length:=by omega
  subst qi;have iI:d.toList=c:=by rw[<- D,bW (by rw[bh,F];exact aD _)]
  refine(OC s l.length m E 0 p d a w hm (by omega) C F O Eu (λv o=>o1 v (iI▸o)) o2 W).mono ?_;rintro e w' ⟨G,row,rfl,q1,q2,q3,q4,q5,q6⟩;refine⟨_,_,rfl,?_,λb T=>.inr ?_,?_,OO⟩
  .obtain⟨p1,p2,p3,p4,p5⟩:=q6;exact⟨p1,p2,p3,p4,λk hk P=>p5 k hk (by simp)⟩
  .simp only[lZ,ae]at T;omega
  .rw[n];refine⟨h,.inr ⟨w.heap.size,G,row,rfl,by have:=(cg.1 C).1;omega,q5,q1,q2,q3,?_⟩⟩;rw[q4,iI]

set_option maxRecDepth 8000
set_option maxHeartbeats 4000000
def XN(l:List dM)(x:dM)(m id a g:Nat)(i:m<=l.length)(f:l.length<2^30)(J:ak)(d:id≠a)(h1:J[id]?=some (jK g l))(c:J[a]?=some (.row 108 11 176 0 false [x.awa])):
  PC prog 71 [.own id g,.I m,.own a 0] J (λr J'=>r=.own id (g+1)/\∃sh,J'=(J.set a (.row 108 11 176 0 sh [x.awa])).set id (jK (g+1) (l.take m++x::l.drop m))):=by
 rcases Nat.lt_or_eq_of_le i with h|h
 .refine(Rj l x m id a g 0 false h f J d h1 c).mono λv J' b=>?_;exact⟨b.1,false,by rw[As c];exact b.2⟩
 .subst h;refine PC.wk (Wk.fz a c) ?_
  have e:[V.own id g,.I l.length,.own a 0].map (fz a 0 11 [x.awa])=[V.own id g,.I l.length,.sl 11 [x.awa]]:=by
   simp[Pm.fz,oa,d]
  rw[e];refine(TO l x id g f _ (by rw[bz d.symm];exact h1)).mono λv J' b=>?_;exact⟨b.1,true,by rw[b.2];simp⟩
def Mw{α:Type}[DecidableEq α]{E n:Nat}{o o':Ob}{T X:ak}{G:List (α×(Nat×Nat))}{f:α->eR}(h:Bt.lP E n (o::T) G f)(b:∀g d,o≠mo E g d):Bt.lP E n (o'::(T++X)) G f :=
 ⟨h.nodup,λk r g c=>by
  obtain⟨j,e,a⟩:=h.row k r g c;cases j with
  |zero=>exact absurd (by simpa using a) (b g (f k))
  |succ j =>
   refine⟨j+1,e,?_⟩;simp only[bX]at a |-;rw[ay (ah.1 a).1];exact a,h.Ho,h.inj⟩
def LX.swap{n:Nat}{g:Nat}{M:List dM}{o':Ob}{T X:ak}{L:List LE}{c:List (GK×(Nat×Nat))}{d:List (TK×(Nat×Nat))}(h:LX n (jK g M::T) L c d):LX n (o'::(T++X)) L c d :=
 ⟨h.keys,h.awk,λe i=>by
  obtain⟨j,k,a⟩:=h.cls e i;cases j with
  |zero=>simp[jK]at a
  |succ j =>
   refine⟨j+1,k,?_⟩;simp only[bX]at a |-;rw[ay (ah.1 a).1];exact a,
  Mw h.p2 (λg f b=>by simp[jK,mo]at b),Mw h.p3 (λg f b=>by simp[jK,mo]at b),h.dis⟩
def EH{E:Nat×Nat×Nat}(J:ak)(L:List LE)(a:List (GK×(Nat×Nat)))(b:List (TK×(Nat×Nat)))(next:Int)(g:Nat)(M:List dM)(T X:ak):me E J L a b next g M T++X=ur E J L a b (LO J.length (.own (J.length+5) g) next) (jK g M::(T++X)):=by
 simp[me,ur]
def W5{E:Nat×Nat×Nat}(J:ak)(L:List LE)(d:List (GK×(Nat×Nat)))(c:List (TK×(Nat×Nat)))(next:Int)(hn:0<=next/\next<2^60)(g:Nat)(M:List dM)(T:ak)(Z:LX J.length (jK g M::T) L d c)(B:cX next L=none)(G:L.length<1024)(hM:M.length<1024)(hs:kK M)
  (e:En) (u:e.awk) (h0:cj e=0) (O:aN e ∉ M.map dM.key) (S:(dz e.awc).length<2^27) :
  PC prog 27 [.ptr (J.length+4) 0,.agg e.awa] (me E J L d c next g M T) (λr F=>r=.I 0/\∃q m k h,F=me E J (L++[(next,(dz e.awc,m))]) k h (next+1) (g+1) (M.take (fN M (aN e))++⟨next,aN e,e,dz e.awc⟩::M.drop (fN M (aN e))) q /\
   LX J.length (jK (g+1) (M.take (fN M (aN e))++⟨next,aN e,e,dz e.awc⟩::M.drop (fN M (aN e)))::q) (L++[(next,(dz e.awc,m))]) k h):=by
 refine aZ func27 c27 λbn dN=>au ?_;have e1:=u.awc;have e2:=u.nU;have e3:=u.awf;simp only[p27,SS,seval];simp only[En.awa,↓IT,VV,seval];refine aw (rV e u _) (by simp only[En.awa,VV,seval]) ?_;simp only[h0,↓IT,VV,seval];refine aw (FL e u _) (by simp only[En.awa,VV,seval]) ?_;simp only[↓IT,VV,seval];refine aw (EI J L d c next g M T hs (by omega) (aN e) _) rfl ?_;have Q:decide (aN e∈M.map dM.key)=false:=nf O;have D:decide ((1024:Int)<=(M.length:Int))=false:=by simp;omega
 have H:IntKind.i64.wrap (next+1)=next+1:=IntWalk.i64_in _ (by omega)
 obtain⟨N,b⟩:∃N,∀a g M,(me E J L d c a g M T).length=N:=⟨J.length+(T.length+6),λa g M=>by simp[me,ur]⟩;have i:∀a g M X,(me E J L d c a g M T++X)[N]?=X[0]?:=λa g M X=>by rw[<- b a g M,aU (aD _)];simp
 have f:∀a g M X j,(me E J L d c a g M T++X)[N+j]?=X[j]?:=λa g M X j=>by rw[<- b a g M,aU (by omega)];simp
 have l:∀a g M X j o,(me E J L d c a g M T++X).set (N+j) o=me E J L d c a g M T++X.set j o:=λa g M X j o=>by rw[<- b a g M,dA _ _ (by omega)];simp
 have y:∀a g M X o,(me E J L d c a g M T++X).set N o=me E J L d c a g M T++X.set 0 o:=λa g M X o=>by rw[<- b a g M,dA _ _ (aD _)];simp
 have t:∀a g M X,(me E J L d c a g M T++X)[J.length+4]?=some (.box 105 [.ptr (J.length+3) 0,.own (J.length+5) g,.I a]):=λa g M X=>by simp[me,ur,LO]
 have w:∀a g M X,(me E J L d c a g M T++X)[J.length+5]?=some (.row 108 11 176 g false (M.map dM.awa)):=λa g M X=>by simp[me,ur,jK]
 have pP:∀a n g M X,(me E J L d c a g M T++X).set (J.length+4) (.box 105 [.ptr (J.length+3) 0,.own (J.length+5) g,.I n])=me E J L d c n g M T++X:=λa n g M X=>by simp[me,ur,LO]
 have P:∀a g x M p X,((me E J L d c a g M T++X).set (J.length+5) (jK x p)).set (J.length+4) (.box 105 [.ptr (J.length+3) 0,.own (J.length+5) x,.I a])=me E J L d c a x p T++X:=λa g x M p X=>by simp[me,ur,LO]
 generalize z:M.take (fN M (aN e))++⟨next,aN e,e,dz e.awc⟩::M.drop (fN M (aN e))=p;simp only[b,i,f,y,l,t,w,Q,D,ag,↓IT,VV,seval];intro X;refine aw (Kx e (by omega) (by omega) _) (by simp only[En.awa,VV,seval]) ?_;simp only[En.awa,b,i,f,y,l,t,w,↓IT,VV,seval];intro X2;refine aw (xO e.awc (by omega) (by omega) _) rfl ?_;simp only[En.awa,H,pP,b,i,f,y,l,t,w,↓IT,V.pure,VV,seval]
 have Y:J.length+5<N:=by
  have:=b 0 0 M;simp only[me,ur,aj,ai]at this;omega
 refine cD (XN M ⟨next,aN e,e,dz e.awc⟩ (fN M (aN e)) (J.length+5) (N+2) g (Em _ _) (by omega) _ (by omega) (w _ _ _ _) (by rw[f];rfl)) rfl ?_;rintro _ _ ⟨rfl,U,rfl⟩;rw[z];have W:∀a g M X o,((me E J L d c a g M T++X).set (J.length+5) o)[J.length+4]?=some (.box 105 [.ptr (J.length+3) 0,.own (J.length+5) g,.I a]):=λa g M X o=>by rw[bz (by omega)];exact t ..
 simp only[En.awa,W,P,b,i,f,y,l,t,↓IT,V.pure,VV,seval];refine⟨?_,?_⟩
 .have R:J.length+5<(me E J L d c (next+1) g M T++[Ob.box 37 [.sl 3 (e.awc.map It.awa),.sl 3 (e.awf.map It.awa),.s e.bU,.s e.next,.s e.c8,.s e.cA,.I e.awh,.I e.awq],Ob.box 108 [.I next,.s (aN e),.sl 3 (e.awc.map It.awa),.sl 3 (e.awf.map It.awa),.s e.bU,.s e.next,.s e.c8,.s e.cA,.I e.awh,.I e.awq,.sl 3 ((dz e.awc).map It.awa)],Ob.row 108 11 176 0 U [dM.awa ⟨next,aN e,e,dz e.awc⟩]]).length:=(ah.1 (w (next+1) g M _)).1;rw[aL R];simp[jK]
 rw[EH];refine cD (MP _ _ L d c J Z.swap next B G (dz e.awc) S) rfl ?_;rintro r F ⟨rfl,q,m,k,h,rfl,A,K⟩;have C:q[0]?=some (jK (g+1) p):=K.2 0 _ rfl (by simp[jK,still])
 obtain⟨v,rfl⟩:∃v,q=jK (g+1) p::v:=by
  cases q with
  |nil=>simp at C
  |cons o v=>simp only[aM,ae]at C;exact⟨v,by rw[C]⟩
 simp only[↓IT,VV,seval];exact fH (.inr rfl) rfl (Wk.refl _ _) rfl ⟨rfl,v,m,k,h,rfl,A⟩

set_option maxRecDepth 8000
set_option maxHeartbeats 4000000
def W4{E:Nat×Nat×Nat}(J:ak)(L:List LE)(k:List (GK×(Nat×Nat)))(i:List (TK×(Nat×Nat)))(next:Int)(hn:0<=next/\next<2^60)(g:Nat)(M:List dM)(T:ak)(hI:LX J.length (jK g M::T) L k i)(aa:cX next L=none)(hL:L.length<=1024)(hM:M.length<=1024)(hs:kK M)
  (e:En) (C:e.awk) (h0:cj e=0) (h:dM) (O:M[fN M (aN e)]?=some h) (Ht:h.key=aN e) (l0:List It) (m0:Nat) (x:cX h.id L=some (l0,m0)) (JI:(dz e.awc).length<2^27) :
  PC prog 27 [.ptr (J.length+4) 0,.agg e.awa] (me E J L k i next g M T) (λr Y=>r=.I 0/\∃n p m d c,Y=me n J (na L h.id++[(next,(dz e.awc,m))]) d c (next+1) g (M.set (fN M (aN e)) ⟨next,aN e,e,dz e.awc⟩) p /\
   LX J.length (jK g (M.set (fN M (aN e)) ⟨next,aN e,e,dz e.awc⟩)::p) (na L h.id++[(next,(dz e.awc,m))]) d c):=by
 refine aZ func27 c27 λbn dN=>au ?_;have e1:=C.awc;have e2:=C.nU;have e3:=C.awf;simp only[p27,SS,seval];simp only[En.awa,↓IT,VV,seval];refine aw (rV e C _) (by simp only[En.awa,VV,seval]) ?_;simp only[h0,↓IT,VV,seval];refine aw (FL e C _) (by simp only[En.awa,VV,seval]) ?_;simp only[↓IT,VV,seval];refine aw (EI J L k i next g M T hs (by omega) (aN e) _) rfl ?_;have hd:decide (aN e∈M.map dM.key)=true:=lz ((mJ hs _).2 ⟨h,O,Ht⟩);have hw:IntKind.i64.wrap (next+1)=next+1:=IntWalk.i64_in _ (by omega)
 obtain⟨N,b⟩:∃N,∀a g M,(me E J L k i a g M T).length=N:=⟨J.length+(T.length+6),λa g M=>by simp[me,ur]⟩;have t:∀a g M X,(me E J L k i a g M T++X)[N]?=X[0]?:=λa g M X=>by rw[<- b a g M,aU (aD _)];simp
 have s:∀a g M X j,(me E J L k i a g M T++X)[N+j]?=X[j]?:=λa g M X j=>by rw[<- b a g M,aU (by omega)];simp
 have w:∀a g M X j o,(me E J L k i a g M T++X).set (N+j) o=me E J L k i a g M T++X.set j o:=λa g M X j o=>by rw[<- b a g M,dA _ _ (by omega)];simp
 have S:∀a g M X o,(me E J L k i a g M T++X).set N o=me E J L k i a g M T++X.set 0 o:=λa g M X o=>by rw[<- b a g M,dA _ _ (aD _)];simp
 have R:∀a g M X,(me E J L k i a g M T++X)[J.length+4]?=some (.box 105 [.ptr (J.length+3) 0,.own (J.length+5) g,.I a]):=λa g M X=>by simp[me,ur,LO]
 have hr:∀a g M X,(me E J L k i a g M T++X)[J.length+5]?=some (.row 108 11 176 g false (M.map dM.awa)):=λa g M X=>by simp[me,ur,jK]
 have pP:∀a v g M X,(me E J L k i a g M T++X).set (J.length+4) (.box 105 [.ptr (J.length+3) 0,.own (J.length+5) g,.I v])=me E J L k i v g M T++X:=λa v g M X=>by simp[me,ur,LO]
 have Rr:∀a g K M f X,((me E J L k i a g M T++X).set (J.length+5) (jK K f)).set (J.length+4) (.box 105 [.ptr (J.length+3) 0,.own (J.length+5) K,.I a])=me E J L k i a K f T++X:=λa g K M f X=>by simp[me,ur,LO]
 have xd:fN M (aN e)<M.length:=(ah.1 O).1;have ft:(M.map dM.awa).getD (fN M (aN e)) []=h.awa:=by simp[aq,O]
 have SE:(0:Int)<=((fN M (aN e):Nat):Int):=by omega
 have H:((fN M (aN e):Nat):Int)<(M.length:Int):=by omega
 simp only[b,t,s,S,w,R,hr,hd,ag,↓IT,VV,seval];intro X;refine aw (Kx e (by omega) (by omega) _) (by simp only[En.awa,VV,seval]) ?_;simp only[En.awa,b,t,s,S,w,R,hr,↓IT,VV,seval];intro X2;refine aw (xO e.awc (by omega) (by omega) _) rfl ?_;simp only[En.awa,hw,pP,b,t,s,S,w,R,hr,↓IT,V.pure,VV,seval];have EB:gj (M.map dM.awa) (fN M (aN e)) 0=some (.I h.id):=by simp[gj,O,dM.awa]
 have D:N=J.length+(T.length+6):=by
  have:=b 0 0 M;simp only[me,ur,aj,ai]at this;omega
 simp only[ft,EB,SE,H,ag,ao,V.pure,VV,seval];rw[EH];refine cD (MO _ _ L k i J hI.swap h.id l0 m0 x hL) rfl ?_;rintro _ Y ⟨rfl,n,p,d,c,rfl,U,W⟩;have LI:p[0]?=some (jK g M):=W.2 0 _ rfl (by simp[jK,still])
 obtain⟨l,rfl⟩:∃l,p=jK g M::l:=by
  cases p with
  |nil=>simp at LI
  |cons o l=>simp only[aM,ae]at LI;exact⟨l,by rw[LI]⟩
 have Pr:=W.2 (T.length+1) _ (by simp;rfl) rfl;have VK:=W.2 (T.length+2) _ (by simp;rfl) rfl;simp only[bX]at Pr VK;have F:∀f,ur n J (na L h.id) d c (LO J.length (.own (J.length+5) g) (next+1)) (jK g f::l)=me n J (na L h.id) d c (next+1) g f l:=λf=>rfl;rw[F];have ac:∀f,(me n J (na L h.id) d c (next+1) g f l)[J.length+4]?=some (.box 105 [.ptr (J.length+3) 0,.own (J.length+5) g,.I (next+1)]):=λf=>by simp[me,ur,LO]
 have Q:∀f,(me n J (na L h.id) d c (next+1) g f l)[J.length+5]?=some (.row 108 11 176 g false (f.map dM.awa)):=λf=>by simp[me,ur,jK]
 have MU:∀f,(me n J (na L h.id) d c (next+1) g f l)[N]?=l[T.length]?:=λf=>by
  unfold me ur;rw[D,aU (by omega),(by omega:J.length+(T.length+6) - J.length=T.length+6)];simp only[bX]
 have MT:∀f,(me n J (na L h.id) d c (next+1) g f l)[N+1]?=l[T.length+1]?:=λf=>by
  unfold me ur;rw[D,aU (by omega),(by omega:J.length+(T.length+6)+1 - J.length=T.length+1+6)];simp only[bX]
 have XV:(M.map dM.awa).set (fN M (aN e)) (dM.awa ⟨next,aN e,e,dz e.awc⟩)=(M.set (fN M (aN e)) ⟨next,aN e,e,dz e.awc⟩).map dM.awa:=by rw[List.map_set]
 have B:∀f u,(me n J (na L h.id) d c (next+1) g f l).set (J.length+5) (.row 108 11 176 g false (u.map dM.awa))=me n J (na L h.id) d c (next+1) g u l:=λf u=>by simp[me,ur,jK]
 have Z:(h.awa).drop 11=[]:=rfl;simp only[dM.awa]at XV;simp only[ac,Q,MU,MT,Pr,VK,ft,Z,XV,B,SE,H,ag,ao,↓IT,V.pure,VV,seval];refine⟨xd,?_⟩;rw[<- F];have ad:(na L h.id).length<L.length:=Ng.2 ⟨_,H3 x,by simp⟩;have y:=U.swap (o':=jK g (M.set (fN M (aN e)) ⟨next,aN e,e,dz e.awc⟩)) (X:=[]);rw[bL]at y;refine cD (MP _ _ (na L h.id) d c J y next (by rw[AV,aa,ite_self]) (by omega) (dz e.awc) JI) rfl ?_;rintro r Y ⟨rfl,p,m,G,A,rfl,ab,P⟩;have q:p[0]?=some (jK g (M.set (fN M (aN e)) ⟨next,aN e,e,dz e.awc⟩)):=P.2 0 _ rfl (by simp[jK,still])
 obtain⟨z,rfl⟩:∃z,p=jK g (M.set (fN M (aN e)) ⟨next,aN e,e,dz e.awc⟩)::z:=by
  cases p with
  |nil=>simp at q
  |cons o z=>simp only[aM,ae]at q;exact⟨z,by rw[q]⟩
 simp only[↓IT,VV,seval];exact fH (.inr rfl) rfl (Wk.refl _ _) rfl ⟨rfl,n,z,m,G,A,rfl,ab⟩

set_option maxRecDepth 8000
set_option maxHeartbeats 4000000
def fP(M:List dM)(e:En):Int:=if cj e≠0 then cj e else if aN e∈M.map dM.key\/M.length<1024 then 0 else 3
def W6{E:Nat×Nat×Nat}(J:ak)(L:List LE)(b:List (GK×(Nat×Nat)))(d:List (TK×(Nat×Nat)))(next:Int)(g:Nat)(M:List dM)(T:ak)(m:kK M)(p:M.length<=1024)
  (e:En) (c:e.awk) (h0:fP M e≠0) :
  PC prog 27 [.ptr (J.length+4) 0,.agg e.awa] (me E J L b d next g M T) (λr n=>r=.I (fP M e)/\n=me E J L b d next g M T):=by
 refine aZ func27 c27 λi o=>au ?_;have q:=c.awc;have t:=c.nU;have s:=c.awf;have l:∀X,(me E J L b d next g M T++X)[J.length+4]?=some (.box 105 [.ptr (J.length+3) 0,.own (J.length+5) g,.I next]):=λX=>by simp[me,ur,LO]
 have k:∀X,(me E J L b d next g M T++X)[J.length+5]?=some (.row 108 11 176 g false (M.map dM.awa)):=λX=>by simp[me,ur,jK]
 simp only[p27,SS,seval];simp only[En.awa,↓IT,VV,seval];refine aw (rV e c _) (by simp only[En.awa,VV,seval]) ?_;simp only[↓IT,VV,seval];refine⟨λh=>?_,λh=>?_⟩
 .have h:cj e≠0:=by simpa using h
  exact bg i (.inr rfl) (by simp only[RS,seval];rfl) (by simp[LW]) ⟨by rw[fP,az h];rfl,rfl⟩
 have h:cj e=0:=by simpa using h
 rw[fP,an (by simp[h])]at h0;have a:¬(aN e∈M.map dM.key\/M.length<1024):=λa=>h0 (az a);refine aw (FL e c _) (by simp only[En.awa,VV,seval]) ?_;simp only[↓IT,VV,seval];refine aw (EI J L b d next g M T m (by omega) (aN e) _) rfl ?_;have j:decide (aN e∈M.map dM.key)=false:=nf λh=>a (.inl h)
 have f:decide ((1024:Int)<=(M.length:Int))=true:=by
  have:¬M.length<1024:=λh=>a (.inr h);simp;omega
 simp only[l,k,j,f,ag,↓IT,VV,seval];exact bg i (.inr rfl) (by simp only[RS,seval];rfl) (by simp[LW]) ⟨by rw[fP,an (by simp[h]),an a];rfl,rfl⟩
def kj(next:Int)(e:En):dM:=⟨next,aN e,e,dz e.awc⟩
def kp(M:List dM)(next:Int)(e:En):List dM :=
 if fP M e=0 then(if aN e∈M.map dM.key then M.set (fN M (aN e)) (kj next e)else M.take (fN M (aN e))++kj next e::M.drop (fN M (aN e)))else M
def sB(M:List dM)(next:Int)(e:En):Int:=if fP M e=0 then next+1 else next
def Sw(s:dM):Int×List It:=(s.id,s.dz)
def idL(e:LE):Int×List It:=(e.1,e.2.1)
def CC(J:ak)(M:List dM)(next:Int)(S:ak):Prop :=
 ∃E L a b g T,S=me E J L a b next g M T/\LX J.length (jK g M::T) L a b/\(L.map idL).Perm (M.map Sw)/\∀e∈L,e.1<next
def CC.app{J:ak}{M:List dM}{next:Int}{S:ak}(h:CC J M next S)(X:ak):CC J M next (S++X):=by
 obtain⟨E,L,c,d,g,T,rfl,b,a,e⟩:=h;exact⟨E,L,c,d,g,T++X,EH ..,b.swap,a,e⟩
def LX.ao9(n:Nat)(T:ak):LX n T [] [] [] :=
 ⟨mB,λe a=>by simp at a,λe a=>by simp at a,⟨mB,λk r g h=>by simp[cX,gM]at h,λk h=>rfl,λk b r g c h=>by simp[cX,gM]at h⟩,
  ⟨mB,λk r g h=>by simp[cX,gM]at h,λk h=>rfl,λk b r g c h=>by simp[cX,gM]at h⟩,λk r g b d c h=>by simp[cX,gM]at h⟩
def CC.new(J:ak):CC J [] 0 (me ix0 J [] [] [] 0 0 [] []) :=
 ⟨ix0,[],[],[],0,[],rfl,LX.ao9 _ _,ajo _,λe a=>by cases a⟩
def CC.pre{J:ak}{M:List dM}{next:Int}{S:ak}(h:CC J M next S):∃loc,S=J++loc:=by
 obtain⟨E,L,a,b,g,T,rfl,_⟩:=h;exact⟨_,rfl⟩
def ZT{L:List LE}{A B:List dM}{a:dM}(f:(L.map (·.1)).Nodup)(b:(L.map idL).Perm ((A++a::B).map Sw)):((na L a.id).map idL).Perm ((A++B).map Sw):=by
 have c:(((A++a::B).map Sw).map (·.1)).Nodup:=(b.map _).nodup_iff.1 (by rw[jn];exact f)
 have g:(na L a.id).map idL=(L.map idL).filter λp=>!decide (p.1=a.id):=by
  unfold na;rw[afL];rfl
 rw[g];refine(b.filter _).trans ?_
 have i:∀p∈A.map Sw,(!decide (p.1=a.id))=true:=λp b=>by
  obtain⟨x,d,rfl⟩:=bF.1 b
  have:x.id≠a.id:=λe=>by
   simp only[cM,aH,iX]at c;exact c.2.2 x.id (bF.2 ⟨_,gN d,rfl⟩) a.id (wc ..) e
  simp[Sw,this]
 have h:∀p∈B.map Sw,(!decide (p.1=a.id))=true:=λp b=>by
  obtain⟨x,d,rfl⟩:=bF.1 b
  have:x.id≠a.id:=λe=>by
   simp only[cM,aH,iX]at c;exact(gz.1 c.2.1).1 (bF.2 ⟨_,gN d,e⟩)
  simp[Sw,this]
 rw[cM,aH,kG,kR (by simp[Sw]),kg.2 i,kg.2 h,cM]
def Qx{L:List LE}{M:List dM}(g:(L.map (·.1)).Nodup)(c:(L.map idL).Perm (M.map Sw)){k:Nat}{a:dM}(b:M[k]?=some a):((na L a.id).map idL).Perm ((M.take k++M.drop (k+1)).map Sw):=by
 have f:=(ah.1 b).1
 have d:M.take k++a::M.drop (k+1)=M:=by
  have e:M.drop k=a::M.drop (k+1):=by
   rw[dG f,(ah.1 b).2]
  rw[<- e,dZ]
 exact ZT g (by rw[d];exact c)
def Ny{J:ak}{M:List dM}{next:Int}{S:ak}(h:CC J M next S)(H:0<=next/\next<2^60)(t:kK M)(F:M.length<=1024)(e:En)(B:e.awk)(G:(dz e.awc).length<2^27):
  PC prog 27 [.ptr (J.length+4) 0,.agg e.awa] S (λr u=>r=.I (fP M e)/\CC J (kp M next e) (sB M next e) u):=by
 obtain⟨E,L,s,p,g,T,rfl,q,k,o⟩:=h
 have n:cX next L=none:=by
  cases P:cX next L with
  |none=>rfl
  |some v=>have:=o _ (H3 P);simp at this
 have X:L.length=M.length:=by have:=k.length_eq;simpa using this
 by_cases b:fP M e=0
 .have z:cj e=0:=by
   unfold fP at b;split at b
   .exact b
   .rename_i h;simpa using h
  by_cases j:aN e∈M.map dM.key
  .obtain⟨i,w,O⟩:=(mJ t _).1 j;have W:(i.id,i.dz)∈L.map idL:=k.mem_iff.2 (bF.2 ⟨i,bE w,rfl⟩);obtain⟨x,l,K⟩:=bF.1 W
   have D:∃v,cX i.id L=some v:=by
    have:i.id∈L.map (·.1):=bF.2 ⟨x,l,by have:=congrArg Prod.fst K;exact this⟩;exact pB.1 ((kL _ _).1 this)
   obtain⟨⟨R,U⟩,y⟩:=D;refine(W4 J L s p next H g M T q n (by omega) F t e B z i w O R U y G).mono ?_;rintro r u ⟨rfl,Q,C,m,d,c,rfl,f⟩;refine⟨by rw[b],?_⟩;rw[kp,az b,az j,sB,az b];refine⟨Q,_,d,c,g,C,rfl,f,?_,λx l=>?_⟩
   .have N:=(ah.1 w).1;rw[cM,gQ,az N];have a:=Qx q.keys k w;simp only[cM,aH]at a |-;refine(a.append_right _).trans ?_;rw[bk];exact sk _ (List.perm_append_comm.trans (ajo _))
   .rcases bP.1 l with a|a
    .have:=o x (cZ.1 a).1;omega
    .simp only[cv]at a;subst a;simp;omega
  .have A:M.length<1024:=by
    unfold fP at b;rw[an (by simp[z])]at b;split at b
    .rename_i a;rcases a with a|a
     .exact absurd a j
     .exact a
    .cases b
   refine(W5 J L s p next H g M T q n (by omega) A t e B z j G).mono ?_;rintro r u ⟨rfl,C,m,d,c,rfl,f⟩;refine⟨by rw[b],?_⟩;rw[kp,az b,an j,sB,az b];refine⟨E,_,d,c,g+1,C,rfl,f,?_,λx l=>?_⟩
   .rw[cM,cM,aH];refine(k.append_right _).trans ?_;have V:M.map Sw=(M.take (fN M (aN e))).map Sw++(M.drop (fN M (aN e))).map Sw:=by rw[<- List.map_append,dZ]
    rw[V,bk];exact sk _ List.perm_append_comm
   .rcases bP.1 l with a|a
    .have:=o x a;omega
    .simp only[cv]at a;subst a;simp;omega
 .refine(W6 J L s p next g M T t F e B b).mono ?_;rintro r u ⟨rfl,rfl⟩;rw[kp,an b,sB,an b];exact⟨rfl,E,L,s,p,g,T,rfl,q,k,o⟩

set_option maxRecDepth 4000
set_option maxHeartbeats 1000000
def xD{S:ak}{i:Nat}{o:Ob}(h:S[i]?=some o)(l:ak):(S++l)[i]?=some o:=by
 rw[ay (ah.1 h).1];exact h
def afD{ea eb ec:Nat}{S:ak}(x w O K:Nat)(Z:S[x]?=some (.box 170 [.mp w,.mp O,.mp K]))(L:List LE)(V:L.length<2^20)(h1:S[w]?=some (.map 3 ea (emap fZ Jn L)))(J:List (GK×(Nat×Nat)))(f:GK->eR)(h2:S[O]?=some (.map 184 eb (emap wA sS J)))
  (MS:∀k r g,cX k J=some (r,g)->S[r]?=some (mo 190 g (f k))) (TV:∀k,cX k J=none->f k=[]) (HZ:∀k,∀p∈f k,0<=p.2) (U:∀k,(f k).length<2^30)
  (C:List (TK×(Nat×Nat))) (d:TK->eR) (h3:S[K]?=some (.map 150 ec (emap lD sS C)))
  (Q:∀k r g,cX k C=some (r,g)->S[r]?=some (mo 190 g (d k))) (TU:∀k,cX k C=none->d k=[]) (A:∀k,∀p∈d k,0<=p.2) (M:∀k,(d k).length<2^30)
  (q:List It) (Y:q.length<2^27) (K7:∀g∈dS (bS q),0<=g.2) (X:∀p∈om [] q,0<=p.2)
  (hm:nL (yp f (dS (bS q)))+nL (yq d (om [] q))<=2^40) (p:Int) (hp : -(2^40)<=p/\p<=2^40)
  (hq:(nh q).ok (2^40)/\0<=lq q/\lq q<=2^40) (hL:∀e∈L,(nh e.2.1).ok (2^40)/\0<=lq e.2.1/\lq e.2.1<=2^40) :
  PC prog 58 [.ptr x 0,.sl 3 (q.map It.awa),.I p] S (λr S'=>∃(D:List (TK×Int)) (E:List LE),D.Perm (om [] q)/\E.Perm L/\r=.sl 1 ((((E.filter (Cj q (fV (fV [] (yp f (dS (bS q)))) (yq d D)) p)).map (·.1)).mergeSort λx y=>decide (x<=y)).map bV)/\S'=S):=by
 refine aZ func58 p58.2 λW dN=>au ?_;simp only[p58,SS,seval];simp only[VV,seval];refine aw (Mg q Y _) rfl ?_;simp only[ag6,zX,FM,VV,seval];generalize hT:[Ob.box 162 _,Ob.map 150 3 _,Ob.box 162 _,Ob.box 162 _]=T4;have aa:T4.length=4:=by rw[<- hT];rfl
 have e3:(S++T4)[S.length+1]?=some (.map 150 3 (emap lD fZ (om [] q))):=by rw[<- hT];simp
 have e7:(S++T4)[S.length+3]?=some (.box 162 (zX q (S.length+1))):=by rw[<- hT];simp[zX,FM]
 refine cD (WD (S:=S++T4) x w O K (S.length+1) (xD Z _) J f (xD h2 _) (λk r g h=>xD (MS k r g h) _) TV HZ U C d (xD h3 _) (λk r g h=>xD (Q k r g h) _) TU A M q Y e3 K7 X hm) rfl ?_;rintro r S' ⟨D,u,l,B,rfl,rfl⟩;have e8:∀a b c,(S++T4++[a,b,c])[(S++T4).length+1]?=some b:=λa b c=>by rw[aU (by omega)];simp
 have m:=e8 (.box 162 (zX q (S.length+1))) (.map 3 160 (emap fZ uS (fV (fV [] (yp f (dS (bS q)))) (yq d D)))) (.iter false (S.length+1) 3 (emap lD fZ (om [] q)).length u l);have z:=xD e7 [.box 162 (zX q (S.length+1)),.map 3 160 (emap fZ uS (fV (fV [] (yp f (dS (bS q)))) (yq d D))),.iter false (S.length+1) 3 (emap lD fZ (om [] q)).length u l];have v:=xD (xD Z T4) [.box 162 (zX q (S.length+1)),.map 3 160 (emap fZ uS (fV (fV [] (yp f (dS (bS q)))) (yq d D))),.iter false (S.length+1) 3 (emap lD fZ (om [] q)).length u l];have s:=xD (xD h1 T4) [.box 162 (zX q (S.length+1)),.map 3 160 (emap fZ uS (fV (fV [] (yp f (dS (bS q)))) (yq d D))),.iter false (S.length+1) 3 (emap lD fZ (om [] q)).length u l];have t:∃F,S++T4++[.box 162 (zX q (S.length+1)),.map 3 160 (emap fZ uS (fV (fV [] (yp f (dS (bS q)))) (yq d D))),.iter false (S.length+1) 3 (emap lD fZ (om [] q)).length u l]=S++F:=⟨_,bk ..⟩;generalize S++T4++[Ob.box 162 (zX q (S.length+1)),.map 3 160 (emap fZ uS (fV (fV [] (yp f (dS (bS q)))) (yq d D))),.iter false (S.length+1) 3 (emap lD fZ (om [] q)).length u l]=S5 at m z v s t |-;simp only[v,s,VV,seval];rw[aj]at m
 have HX:YM (yp f (dS (bS q))):=λi n=>by
  obtain⟨g,P,n⟩:=nN.1 n;exact VH (K7 g P) (HZ _) i n
 have R:YM (yq d D):=λi n=>by
  obtain⟨g,P,n⟩:=nN.1 n;exact HR (X g (B.mem_iff.1 P)) (A _) i n
 have ad:nL (yq d D)=nL (yq d (om [] q)):=An _ B;have hO:OB (2^40) (fV (fV [] (yp f (dS (bS q)))) (yq d D)):=((OB.nil.apply _ HX).apply _ R).mono (by omega);refine bZ.aK (fr':=(uu 2 (.I p::uu 4 (.ptr (S.length+3) 0::.mp (S.length+T4.length+1)::.nil::uu 11 (.it (S5.length+0)::uu 28 []))))) (by repeat' constructor) ((emap fZ Jn L).length+1) (ahB w (S.length+3) (S.length+T4.length+1) (S.length+1) L V s q z _ hO m p hp hq hL 0 _ (List.range (emap fZ Jn L).length) none [] .nil [.iter false w ea (emap fZ Jn L).length (List.range (emap fZ Jn L).length) none] (by simp) pT (by simp[emap]) (by simp[emap]) (by simp) (.inl ⟨rfl,rfl⟩) ?_);rintro E v' G H OO;rw[vO,sP]at H;rw[bc]at OO;simp only[JE];intros;rcases OO with⟨OH,rfl⟩|⟨j,g,rfl,ab,hj⟩
 .simp only[VV,seval];refine aw (PC.ada Tryz.afT) rfl ?_;obtain⟨F,rfl⟩:=t;simp only[bk,VV,seval];refine kb (ys:=[.sl 1 []]) W (.inr rfl) (by simp only[RS,seval];rfl) ?_ ?_ ⟨D,E,B,H,by rw[OH];simp;rfl,rfl⟩
  .exact .cons (.nil _) .nil
  .simp[LW]
 .simp only[VV,seval];have T:∀o,(S5++G).set (S5.length+j) o=S5++G.set j o:=λo=>by rw[dA _ _ (by omega)];simp
  have N:(S5++G)[S5.length+j]?=G[j]?:=by rw[aU (by omega)];simp
  have ac:=H.length_eq;have yu:=eB (Cj q (fV (fV [] (yp f (dS (bS q)))) (yq d D)) p) E;refine aw (PC.Zs Tryz.afT _ (by rw[ag];omega) (N.trans hj)) rfl ?_;rw[T];have pR:=(ah.1 hj).1;obtain⟨F,rfl⟩:=t;simp only[bk,aj,VV,seval];refine mW (F.length+j) W (.inr rfl) (by simp only[RS,seval];rfl) (by rw[aU (by omega),fF,aL pR]) ?_ ⟨D,E,B,H,?_,rfl⟩
  .simp[fz,oa,LW,iW]
  .simp only[fz,oa,iW,aH,bR];simp;rfl
open Go.Sort
def Yp(a b:Int):Lib.compareInt a b=ox a b:=by
 simp only[Lib.compareInt,ox]
def Xe(x y z u:Int)(b T:Nat)(W:bD)(f:W.heap[b]?=some (.cells #[.int .i64 x,.int .i64 y,.int .i64 z,.int .i64 u] T (0,0))):
  Calls prog 62 #[.slice (some ⟨b,0,none⟩) 4 4] W λe w'=>e=.returned (.int .i64 (AK [x,y,z,u]))/\w'=W:=by
 have k:W.cell? ⟨b,0,none⟩=some (.int .i64 x):=by simp[World.cell?,f]
 have l:W.cell? ⟨b,1,none⟩=some (.int .i64 y):=by simp[World.cell?,f]
 have i:W.cell? ⟨b,2,none⟩=some (.int .i64 z):=by simp[World.cell?,f]
 have j:W.cell? ⟨b,3,none⟩=some (.int .i64 u):=by simp[World.cell?,f]
 go_enter func62,Tryz.ntmps62
 go_wp2
 refine wp_loop_rounds 5 ?_;rw[rounds_succ]
 go_wp2
 .rename_i c
  go_ret
  exact⟨by simp[AK,show x≠0 by simpa using c],rfl⟩
 .rename_i c;rw[rounds_succ]
  go_wp2
  .rename_i d
   go_ret
   exact⟨by simp[AK,show x=0 by simpa using c,show y≠0 by simpa using d],rfl⟩
  .rename_i d;rw[rounds_succ]
   go_wp2
   .rename_i g
    go_ret
    exact⟨by simp[AK,show x=0 by simpa using c,show y=0 by simpa using d,show z≠0 by simpa using g],rfl⟩
   .rename_i g;rw[rounds_succ]
    go_wp2
    .rename_i h
     go_ret
     exact⟨by simp[AK,show x=0 by simpa using c,show y=0 by simpa using d,show z=0 by simpa using g,show u≠0 by simpa using h],rfl⟩
    .rename_i h;rw[rounds_succ]
     go_wp2
     go_ret
     exact⟨by simp[AK,show x=0 by simpa using c,show y=0 by simpa using d,show z=0 by simpa using g,show u=0 by simpa using h],rfl⟩
def PD{W w:bD}{A B:Obj}(h:w.heap=(W.heap.push A).push B):w.heap[W.heap.size]?=some A/\w.heap[W.heap.size+1]?=some B:=by
 have e:W.heap.size+1=(W.heap.push A).size:=by simp
 rw[h];refine⟨?_,by rw[e];exact uR⟩;rw[KX (by simp),Array.getElem_push_eq]
def D6{W w:bD}{A B:Obj}(h:w.heap=(W.heap.push A).push B){b o:Nat}{v:Value}(a:W.cell? ⟨b,o,none⟩=some v):w.cell? ⟨b,o,none⟩=some v:=by
 have d:b<W.heap.size:=by
  apply bN;intro c;simp[World.cell?,qY (acu c)]at a
 have e:w.heap[b]?=W.heap[b]?:=by
  rw[h,BX,BX,an (by simp;omega),an (by omega)]
 unfold World.cell? at a |-;simp only[e]at *;exact a
set_option maxRecDepth 4000 in
def Tw(g k v u l f m w C i c d:Int)(bb b B n z:Nat)(W:bD)(o:W.cell? ⟨bb,0,none⟩=some (.pointer (some ⟨b,0,none⟩)))(E:W.cell? ⟨b,1,none⟩=some (.slice (some ⟨B,0,none⟩) n z))
  (T:0<=g/\g<n) (R:0<=f/\f<n) (F:W.cell? ⟨B,g.toNat*11+8,none⟩=some (.int .i64 c)) (D:W.cell? ⟨B,f.toNat*11+8,none⟩=some (.int .i64 d)) :
  Calls prog 61 #[.agg #[.int .i64 g,.int .i64 k,.int .i64 v,.int .i64 u,.int .i64 l],.agg #[.int .i64 f,.int .i64 m,.int .i64 w,.int .i64 C,.int .i64 i],.pointer (some ⟨bb,0,none⟩)] W
   λe w'=>e=.returned (.int .i64 (AK [ox i l,ox m k,ox d c,ox g f]))/\∃q h,w'=grow (W.drewN q) h:=by
 have r:∀(x y:Int) (t:bD),Calls prog 63 #[.int .i64 x,.int .i64 y] t λe w'=>e=.returned (.int .i64 (ox x y))/\w'=t:=λx y t=>by
  have:=AnyG.cmp_Compare_int Tryz.ajb x y t;rw[Yp]at this;exact this
 go_enter func61,Tryz.ntmps61
 go_wp2
 generalize A:(W.alloc (.cells #[.int .i64 g,.int .i64 k,.int .i64 v,.int .i64 u,.int .i64 l] 44)).alloc (.cells #[.int .i64 f,.int .i64 m,.int .i64 w,.int .i64 C,.int .i64 i] 44)=w2;refine wp_region_still_tail 36 (by kernel_rfl) (by kernel_rfl) ?_;have j:w2.drew.heap=(W.heap.push (.cells #[.int .i64 g,.int .i64 k,.int .i64 v,.int .i64 u,.int .i64 l] 44)).push (.cells #[.int .i64 f,.int .i64 m,.int .i64 w,.int .i64 C,.int .i64 i] 44):=by rw[<- A];rfl
 obtain⟨s,p⟩:=PD j;have J:w2.drew.cell? ⟨W.heap.size,4,none⟩=some (.int .i64 l):=by simp[World.cell?,s]
 have U:w2.drew.cell? ⟨W.heap.size,1,none⟩=some (.int .i64 k):=by simp[World.cell?,s]
 have O:w2.drew.cell? ⟨W.heap.size,0,none⟩=some (.int .i64 g):=by simp[World.cell?,s]
 have V:w2.drew.cell? ⟨W.heap.size+1,4,none⟩=some (.int .i64 i):=by simp[World.cell?,p]
 have Q:w2.drew.cell? ⟨W.heap.size+1,1,none⟩=some (.int .i64 m):=by simp[World.cell?,p]
 have S:w2.drew.cell? ⟨W.heap.size+1,0,none⟩=some (.int .i64 f):=by simp[World.cell?,p]
 have M:=D6 j o;have L:=D6 j E;have N:=D6 j F;have P:=D6 j D;have G:∃q h,w2.drew=grow (W.drewN q) h:=⟨1,_,by rw[<- A,alloc_eq_grow,alloc_eq_grow,grow_grow];rfl⟩;simp only[dt,mA,iJ,mD];change wpStill _ _ w2.drew (λH=>wpList _ _ _ _ H w2.drew) _ _;have I:w2.drew.heap.size=W.heap.size+2:=by simp[j]
 generalize w2.drew=w3 at *;clear s p j A w2 F D o E
 still_step
 still_step
 still_step
 still_step
 refine wpStill_step (λK a=>?_)
 go_simp
 refine⟨_,r i l w3,a _ ?_⟩;clear a K
 still_step
 still_step
 still_step
 still_step
 refine wpStill_step (λK a=>?_)
 go_simp
 refine⟨_,r m k w3,a _ ?_⟩;clear a K
 still_step
 still_step
 still_step
 still_step
 still_step
 still_step
 still_step
 still_step
 still_step
 still_step
 still_step
 still_step
 still_step
 still_step
 still_step
 still_step
 still_step
 still_step
 still_step
 still_step
 refine wpStill_step (λK a=>?_)
 go_simp
 refine⟨_,r d c w3,a _ ?_⟩;clear a K
 still_step
 still_step
 still_step
 still_step
 refine wpStill_step (λK a=>?_)
 go_simp
 refine⟨_,r g f w3,a _ ?_⟩;clear a K;refine wpStill_nil ?_
 go_wp2_with (go_at_call 62;refine(Xe (ox i l) (ox m k) (ox d c) (ox g f) (W.heap.size+2) 3 _ (by rw[<- I];exact uR)).mono ?_;rintro e w' ⟨rfl,rfl⟩)
 go_ret
 obtain⟨q,os,rfl⟩:=G;exact⟨rfl,q,_,by rw[alloc_eq_grow,grow_grow]⟩
def kX(c:Mt->Int)(a b:Mt):Int:=AK [ox b.score a.score,ox b.iC a.iC,ox (c b) (c a),ox a.awg b.awg]
end Go.Proofs.Tryz

/- A part of a proof; the claim's last text says of what. -/
import Derived.Test.YtlakkaamfadipaaGreatDoorB12
import Derived.Test.YtlakkaamfadipaaGreatDoorB14
import Derived.Test.YtlakkaamfadipaaGreatDoorB22
set_option linter.all false
set_option maxHeartbeats 2000000

namespace Go.Proofs.Tryz
open Go Go.Pm Go.Bt
open Go.Pm.V(u)
def Y9(x:It)(J:ak):bM prog 153 [.agg x.awa] J (.I (width x)):=by
 refine aZ func153 al1.2 λa b=>au ?_;simp only[al1,It.awa,SS,seval];simp only[W,seval];refine⟨λh=>?_,λh=>?_⟩
 .exact bg a (.inr rfl) rfl (by simp[LW]) (by simp at h;simp[Pm.one,width,h])
 .exact bg a (.inr rfl) rfl (by simp[LW]) (by simp at h;simp[Pm.one,width,h])
def ahs{J:ak}{K:bl}(a:List It)(i:cn J)(c:a.length<2^63):∀(rest pre:List It) (acc:Int),a=pre++rest ->
  (K (.exit 0) ⟨[.sl 3 (a.map It.awa),u,.I 0,.I (eQ acc rest),u,u,.sl 3 (a.map It.awa),.I a.length,.I a.length,.b false,u,u,u,u,u,u,u,u],J⟩) ->
  fm J.length prog U1 K (rest.length+1) ⟨[.sl 3 (a.map It.awa),u,.I 0,.I acc,u,u,.sl 3 (a.map It.awa),.I a.length,.I pre.length,u,u,u,u,u,u,u,u,u],J⟩:=by
 intro rest
 induction rest with
 |nil =>
  intro pre acc d e;subst d;refine ar λR f=>?_;simp only[U1,W,seval];refine⟨λh=>by simp at h,λ_=>?_⟩;simpa[eQ]using e
 |cons x rest ih =>
  intro pre acc d e;subst d;refine ar λR f=>?_;simp only[U1,um,It.awa,W,seval];refine⟨λ_=>⟨?_,?_⟩,λh=>?_⟩
  .simp;omega
  .refine aw (Y9 x _) rfl ?_;simp only[W,seval];refine f _ ?_
   have g:=dh pre x (by simp at c;omega)
   rw[g];refine ny (aD _) i ?_ ?_ (ih (pre++[x]) (IntKind.i64.wrap (acc+width x)) (by simp) ?_)
   .repeat first|exact .nil|refine .cons (.refl _) ?_|refine .cons (.forget _) ?_
   .simp only[LW]
   .simpa[eQ]using e
  .simp at h;omega
def XG(a:List It)(J:ak):bM prog 95 [.sl 3 (a.map It.awa)] J (.I (eQ 0 a)):=by
 refine aZ func95 p95.2 λd c=>au ?_
 have b:a.length<2^63:=by
  have:=mG (c 0 _ rfl).1;simpa using this
 simp only[p95,SS,seval];simp only[ag,W,seval];refine bZ.uh (a.length+1) (ahs a d b a [] 0 (by simp) ?_);simp only[W,seval];exact aO (.inr rfl) rfl ⟨rfl,rfl⟩
def ad2{J:ak}{K:bl}(s:aG)(aa:s.length<2^63):∀(rest pre:aG),s=pre++rest ->
  (rest.all fw=true->∀j0 j1 j2 j3 j4 j5 j6 j7 j8 j9 D z N Q O i S l L P y t C G r H a v w Y j B A e n T x M o V E X f m k F g p U d q,K (.exit 0) ⟨[j0,j1,j2,j3,j4,j5,j6,j7,j8,j9,D,z,N,Q,O,i,S,l,L,P,y,t,C,G,r,H,a,v,w,Y,j,B,A,e,n,T,x,M,o,V,E,X,f,m,k,F,g,p,U,d,q],J⟩) ->
  (rest.all fw=false->∀j0 j1 j3 j4 j5 j6 j7 j8 j9 D z N Q O i S l L P y t C G r H a v w Y j B A e n T x M o V E X f m k F g p U d q,K .ret ⟨[j0,j1,.b false,j3,j4,j5,j6,j7,j8,j9,D,z,N,Q,O,i,S,l,L,P,y,t,C,G,r,H,a,v,w,Y,j,B,A,e,n,T,x,M,o,V,E,X,f,m,k,F,g,p,U,d,q],J⟩) ->
  fm J.length prog N6 K (rest.length+1) ⟨[.s s,u,u,.I pre.length,u,u,u,u,u,u,u,u,u,u,u,u,u,u,u,u,u,u,u,u,u,u,u,u,u,u,u,u,u,u,u,u,u,u,u,u,u,u,u,u,u,u,u,u,u,u,u],J⟩:=by
 intro rest
 induction rest with
 |nil =>
  intro pre he h1 Z;subst he;refine ar λR hR=>?_;simp only[N6,W,seval];exact⟨λh=>by simp at h,λ_=>h1 rfl ..⟩
 |cons c rest ih =>
  intro pre he h1 Z;subst he;refine ar λR hR=>?_;simp only[N6,W,seval];refine⟨λ_=>⟨by simp;omega,λh=>?_,λh=>?_⟩,λh=>by simp at h;omega⟩
  .refine Z ?_ ..;simp only[gO,L5];left;simp at h;simp[fw];omega
  .refine hR _ (aK (fr':=[.s (pre++c::rest),u,u,.I (pre++[c]).length,u,u,u,u,u,u,u,u,u,u,u,u,u,u,u,u,u,u,u,u,u,u,u,u,u,u,u,u,u,u,u,u,u,u,u,u,u,u,u,u,u,u,u,u,u,u,u]) ?_ (ih (pre++[c]) (by simp) (λZ=>h1 ?_) (λh3=>Z ?_)))
   .rw[cm (by simp at aa;omega)];simp only[aj,ai,al]
    repeat first|exact .nil|refine .cons (.refl _) ?_|refine .cons (.forget _) ?_
   .simp[Z];simp at h;simp[fw];omega
   .simp[h3]
def aaM(n:Int)(J:ak):bM prog 127 [.I n] J (.b false):=by
 refine aZ func127 amf.2 λc a=>au ?_;simp only[amf,SS,seval];simp only[W,seval];exact aO (.inr rfl) rfl (by simp[Pm.one])
def ahz{J:ak}{K:bl}(l:bH)(b:l.length<2^63):∀(rest pre:bH),l=pre++rest ->
  (AK rest=0->((fj 3 (fh (.I 0) (fj 14 fo))) λg=>K (.exit 0) ⟨g,J⟩))->(AK rest≠0->((fj 2 (fh (.I (AK rest)) (fj 15 fo))) λg=>K .ret ⟨g,J⟩)) ->
  fm J.length prog Vd K (rest.length+1) ⟨(uu 3 (.I 0::uu 2 (.sl 1 (l.map bV)::.I l.length::.I pre.length::uu 9 []))),J⟩:=by
 intro rest
 induction rest with
 |nil =>
  intro pre f d a;subst f;refine ar λR i=>?_;simp only[Vd,W,seval];exact⟨λh=>by simp at h,λ_=>d rfl ..⟩
 |cons c rest ih =>
  intro pre f d a;subst f;refine ar λR i=>?_;simp only[Vd,W,seval];simp only[bV,W,seval];refine⟨λ_=>⟨by simp;omega,λh=>?_,λh=>?_⟩,λh=>by simp at h;omega⟩
  .simp at h;have e:AK (c::rest)=c:=by simp[AK,h]
   rw[e]at a;exact a h ..
  .simp at h;have e:AK (c::rest)=AK rest:=by simp[AK,h]
   rw[e]at d a;refine i _ (aK ?_ (ih (pre++[c]) (by simp) d a));rw[cm (by simp at b;omega)];simp only[aj,ai,al]
   repeat' constructor
def ahd(l:bH)(J:ak):bM prog 62 [.sl 1 (l.map bV)] J (.I (AK l)):=by
 refine aZ func62 p62.2 λc b=>au ?_;have a:l.length<2^63:=by simpa using mG (b 0 _ rfl).1
 simp only[p62,SS,seval];simp only[ag,W,seval];refine bZ.aK ?_ (l.length+1) (ahz l a l [] (by simp) ?_ ?_)
 .repeat' constructor
 .intro h;simp only[W,seval];simp only[JE];intros;exact aO (.inr rfl) rfl (by simp[Pm.one,h])
 .intro h;simp only[W,seval];simp only[JE];intros;exact aO (.inr rfl) rfl ⟨rfl,rfl⟩
def sK:Ti prog 3 1 8:=qJ (by kernel_rfl)
def Du(l:aG)(c:UInt8)(J:ak):bM prog 208 [.s l,.i .u8 c.toNat] J (.I (Lib.indexByte l c)):=by
 refine PC.Oc λw h g a=>?_;obtain⟨x,f,b,_⟩:=(a.2 0 _ rfl).qf;have d:=(a.2 1 _ rfl).iF;refine⟨.int .i64 (Lib.indexByte l c),?_,.i _ _⟩;rw[vs2 a.1,f,d];refine(Tryz.sA x c.toNat w).mono ?_;rintro e j ⟨rfl,rfl⟩;refine⟨?_,rfl⟩;rw[b];have:((c.toNat:Int).toNat).toUInt8=c:=by simp
 rw[this]
def zz(l:aG)(c:UInt8)(J:ak):bM prog 157 [.s l,.i .u8 c.toNat] J (.I (Lib.indexByte l c)):=by
 refine aZ func157 alX.2 λb a=>au ?_;simp only[alX,SS,seval];simp only[W,seval];refine aw (Du l c _) rfl ?_;simp only[W,seval];exact aO (.inr rfl) rfl ⟨rfl,rfl⟩
def Lg(l:aG)(c:UInt8)(J:ak):bM prog 272 [.s l,.s [c]] J (.I (Lib.indexByte l c)):=by
 refine PC.Oc λw k j b=>?_;obtain⟨x,g,d,_⟩:=(b.2 0 _ rfl).qf;obtain⟨y,f,a,_⟩:=(b.2 1 _ rfl).qf;refine⟨.int .i64 (Lib.indexByte l c),?_,.i _ _⟩
 have e:y=⟨#[c]⟩:=by
  have h:y.data=#[c]:=by apply Array.toList_inj.1;rw[a]
  cases y;simp_all
 rw[vs2 b.1,g,f,e];refine(Tryz.sy x c w).mono ?_;rintro e m ⟨rfl,rfl⟩;exact⟨by rw[d],rfl⟩
def PZ(l:aG)(c:UInt8)(J:ak):bM prog 246 [.s l,.s [c]] J (.iQ [.s (cutAt l c).1,.s (cutAt l c).2.1,.b (cutAt l c).2.2]):=by
 refine aZ func246 ak4.2 λj a=>au ?_;simp only[ak4,SS,seval];simp only[W,seval];refine aw (Lg l c _) rfl ?_;simp only[W,Nat.reduceAdd,Nat.reduceSub,Nat.reduceLeDiff,Nat.reduceEqDiff,Int.reduceToNat,reduceIte,reduceCtorEq];have g:=mL l c;have i:=Dj (a 0 _ rfl).1;refine⟨λh=>?_,λh=>?_⟩
 .simp only[aV]at h;have d:IntKind.i64.wrap (Lib.indexByte l c+((1:Nat):Int))=Lib.indexByte l c+1:=IntWalk.i64_in _ (by omega);rw[d];refine⟨by omega,by omega,aO (.inr rfl) rfl ⟨?_,rfl⟩⟩;have e:(Lib.indexByte l c+1).toNat=(Lib.indexByte l c).toNat+1:=by omega
  have f:(l.drop ((Lib.indexByte l c).toNat+1)).take (l.length - ((Lib.indexByte l c).toNat+1))=l.drop ((Lib.indexByte l c).toNat+1):=bW (by simp);simp only[Pm.one,cutAt,h,aT,e,f,xG,aA,aR]
 .simp only[dB]at h;exact aO (.inr rfl) rfl ⟨by simp only[Pm.one,cutAt,h,aS,aA,aR],rfl⟩
def Kq(l:aG)(c:UInt8)(J:ak):bM prog 206 [.s l,.s [c]] J (.iQ [.s (cutAt l c).1,.s (cutAt l c).2.1,.b (cutAt l c).2.2]):=by
 refine aZ func206 alp.2 λd a=>au ?_;simp only[alp,SS,seval];simp only[W,seval];refine aw (PZ l c _) rfl ?_;simp only[W,seval];exact aO (.inr rfl) rfl ⟨rfl,rfl⟩
def Dw(l p:aG)(J:ak):bM prog 248 [.s l,.s p] J (.b (aws l p)):=by
 refine aZ func248 ak3.2 λc a=>au ?_;simp only[ak3,SS,seval];simp only[W,seval];refine⟨λh=>by simp at h;omega,aO (.inr rfl) rfl ⟨?_,rfl⟩⟩;simp[Pm.one,aws]
def ON(l p:aG)(J:ak):bM prog 209 [.s l,.s p] J (.b (aws l p)):=by
 refine aZ func209 aln.2 λc a=>au ?_;simp only[aln,SS,seval];simp only[W,seval];refine aw (Dw l p _) rfl ?_;simp only[W,seval];exact aO (.inr rfl) rfl ⟨rfl,rfl⟩
def Dv(l p:aG)(J:ak):bM prog 249 [.s l,.s p] J (.b (awt l p)):=by
 refine aZ func249 ak2.2 λj c=>au ?_;simp only[ak2,SS,seval];simp only[W,seval];have i:=Dj (c 0 _ rfl).1;have g:=Dj (c 1 _ rfl).1;have d:IntKind.i64.wrap ((l.length:Int) - (p.length:Int))=l.length - p.length:=IntWalk.i64_in _ (by omega);rw[d];refine⟨λh=>by simp at h;omega,aO (.inr rfl) rfl ⟨?_,rfl⟩⟩;simp only[Pm.one,awt,aA,aR]
 by_cases a:p.length<=l.length
 .have e:((l.length:Int) - (p.length:Int)).toNat=l.length - p.length:=by omega
  have f:(l.drop (l.length - p.length)).take (l.length - (l.length - p.length))=l.drop (l.length - p.length):=bW (by simp);simp[e,f,a]
 .simp[a]
def OM(l p:aG)(J:ak):bM prog 210 [.s l,.s p] J (.b (awt l p)):=by
 refine aZ func210 alm.2 λc a=>au ?_;simp only[alm,SS,seval];simp only[W,seval];refine aw (Dv l p _) rfl ?_;simp only[W,seval];exact aO (.inr rfl) rfl ⟨rfl,rfl⟩
def Rg(l:aG)(J:ak):bM prog 155 [.s l] J (.s (cW l)):=by
 refine aZ func155 alZ.2 λb a=>au ?_;simp only[alZ,SS,seval];simp only[W,seval];refine aw (Kq l 32 _) rfl ?_;simp only[W,seval];exact aO (.inr rfl) rfl ⟨rfl,rfl⟩
def Hm(l:aG)(J:ak):bM prog 160 [.s l] J (.s (cW l)):=by
 refine aZ func160 alU.2 λb a=>au ?_;simp only[alU,SS,seval];simp only[W,seval];refine aw (Kq l 32 _) rfl ?_;simp only[W,seval];exact aO (.inr rfl) rfl ⟨rfl,rfl⟩
set_option maxRecDepth 8000 in
def s5(b:UInt8)(J:ak):bM prog 168 [.i .u8 b.toNat] J (.I (ei b)):=by
 refine aZ func168 alQ.2 λg d=>au ?_;simp only[alQ,SS,seval];simp only[W,seval];clear d g;refine⟨λa=>?_,λa=>⟨λe=>?_,λe=>⟨λc=>?_,λc=>⟨λf=>?_,λf=>?_⟩⟩⟩⟩<;>refine aO (.inr rfl) rfl ⟨?_,rfl⟩<;>simp at*<;> simp only[Pm.one,ei,aA,aR,V.i.injEq,gA]<;>(repeat' split)<;>omega
def pH(s:aG)(J:ak):bM prog 117 [.s s] J (.b (awj s)):=by
 refine aZ func117 amm.2 λg f=>au ?_;have a:=Dj (f 0 _ rfl).1;simp only[amm,SS,seval];simp only[W,seval];refine⟨?_,?_,λh=>?_,λh=>?_⟩
 .intro h;simp at h;omega
 .intro h;simp at h;omega
 .refine aO (.inr rfl) rfl ⟨?_,rfl⟩;simp only[Pm.one,aA,aR,V.b.injEq];cases s with
  |nil=>rfl
  |cons c r =>
   simp only[awj];simp at h;simp;omega
 .cases s with
  |nil=>simp at h
  |cons c r =>
   have e:awj (c::r)=r.all fw:=by
    simp only[awj];simp at h;simp;omega
   refine bZ.aK ?_ (r.length+1) (ad2 (c::r) a r [c] rfl (λd=>?_) (λd=>?_))
   .simp only[W,seval]
    repeat' constructor
   .simp only[W,seval];intros;exact aO (.inr rfl) rfl ⟨by simp only[Pm.one,e,d,aA,aR],rfl⟩
   .simp only[W,seval];intros;exact aO (.inr rfl) rfl ⟨by simp only[Pm.one,e,d,aA,aR],rfl⟩
def rW(x:It)(J:ak):bM prog 97 [.agg x.awa] J (.b (b9 x)):=by
 refine aZ func97 p97.2 λa c=>au ?_;simp only[p97,It.awa,SS,seval];simp only[W,seval];exact bg a (.inr rfl) rfl (by simp[LW]) ⟨rfl,rfl⟩
def adX{J:ak}{K:bl}(s:aG)(d:s.length<2^63):∀(rest pre:aG),s=pre++rest ->
  (rest.all (λb=>!fT b)=true->((fh (.s s) (fj 62 fo)) λg=>K (.exit 0) ⟨g,J⟩))->(rest.all (λb=>!fT b)=false->((fj 2 (fh (.b false) (fj 60 fo))) λg=>K .ret ⟨g,J⟩)) ->
  fm J.length prog NZ K (rest.length+1) ⟨(.s s::uu 2 (.I pre.length::uu 59 [])),J⟩:=by
 intro rest
 induction rest with
 |nil =>
  intro pre a i f;have a:=cN a
  subst a;refine ar λR j=>?_;simp only[NZ,W,seval];exact⟨λh=>by simp at h,λ_=>i rfl ..⟩
 |cons c rest ih =>
  intro pre a i f;subst a;refine ar λR j=>?_;simp only[NZ,W,seval];refine⟨λ_=>⟨by simp;omega,λ_=>by simp;omega,λ_=>by simp;omega,?_⟩,λh=>by simp at h;omega⟩;refine bB rfl (λ_=>zz [60,62,123,125] c _) rfl ?_;simp only[W,seval]
  have e:(decide ((c.toNat:Int)<32)||decide (126<(c.toNat:Int))||decide (0<=Lib.indexByte [60,62,123,125] c))=fT c:=by
   simp only[fT];congr 2<;>exact decide_eq_decide.2 (by omega)
  rw[e];refine⟨λh=>?_,λh=>?_⟩
  .exact f (by simp[h]) ..
  .refine j _ (aK ?_ (ih (pre++[c]) (by simp) (λe=>i (by simp[h,e])) (λe=>f (by simp only[gO,e,gB]))));rw[cm (by simp at d;omega)];simp only[aj,ai,al]
   repeat' constructor
def uK(s:aG)(J:ak):bM prog 154 [.s s] J (.b (cV s)):=by
 refine aZ func154 al0.2 λk f=>au ?_;have a:=Dj (f 0 _ rfl).1;simp only[al0,SS,seval];simp only[W,seval];have g:∀n:Nat,n<2^63->0<n->IntKind.i64.wrap ((n:Int) - 1)=((n - 1:Nat):Int):=λn d j=>by rw[IntWalk.i64_in _ (by omega)];omega
 have i:∀h:s.length≠0,IntKind.i64.wrap ((s.length:Int) - 1)=((s.length - 1:Nat):Int):=λh=>g _ a (by omega)
 by_cases c:s.length=0
 .refine⟨λh=>by simp[c]at h,λ_=>?_,λh=>by simp[c]at h⟩;exact aO (.inr rfl) rfl ⟨by simp[Pm.one,cV,kn,c],rfl⟩
 .rw[i c];refine⟨λ_=>by omega,λh=>?_,λh=>?_⟩
  .refine aO (.inr rfl) rfl ⟨?_,rfl⟩
   have e:kn s=false:=by
    simp only[kn];simp[c]at h |-;omega
   simp only[Pm.one,cV,e,dR,aA,aR]
  .have e:kn s=true:=by
    simp only[kn];simp[c]at h |-;omega
   refine bZ.aK ?_ (s.length+1) (adX s a s [] rfl (λd=>?_) (λd=>?_))
   .simp only[W,seval]
    repeat' constructor
   .simp only[JE];intros;simp only[W,seval];refine aw (Kq s 32 _) rfl ?_;simp only[W,seval];refine aw (pH _ _) rfl ?_;simp only[W,seval];refine aO (.inr rfl) rfl ⟨?_,rfl⟩;simp only[Pm.one,cV,e,d,ga,cc,aA,aR];congr 3;exact decide_eq_decide.2 (by omega)
   .simp only[JE];intros;simp only[W,seval];exact aO (.inr rfl) rfl ⟨by simp only[Pm.one,cV,e,d,cc,dR,aA,aR],rfl⟩
def ahr{J:ak}{K:bl}(x:It)(a:List It)(p:cn J)(c:a.length<2^63):∀(rest pre:List It),a=pre++rest ->
  (fits rest x=true->((fj 40 fo) λl=>K (.exit 0) ⟨l,J++[.box 61 x.awa]⟩))->(fits rest x=false->∀loc,((fj 4 (fh (.b false) (fj 35 fo))) λl=>K .ret ⟨l,J++loc⟩)) ->
  fm J.length prog U0 K (rest.length+1) ⟨(uu 3 (.ptr J.length 0::uu 3 (.sl 3 (a.map It.awa)::.I a.length::.I pre.length::uu 30 []))),J++[.box 61 x.awa]⟩:=by
 intro rest
 induction rest with
 |nil =>
  intro pre g j i;have g:=cN g
  subst g;refine ar λR m=>?_;simp only[U0,W,seval];exact⟨λh=>by simp at h,λ_=>j rfl ..⟩
 |cons y rest ih =>
  intro pre g j i;subst g;refine ar λR m=>?_;simp only[U0,It.awa,W,seval];refine⟨λ_=>⟨by simp;omega,?_⟩,λh=>by simp at h;omega⟩;refine aw (rW y _) rfl ?_;simp only[W,seval];have n:cn (J++[.box 61 x.awa]):=cC p (by simp[It.awa,jP,adB,ahm])
  have d:fits (y::rest) x=fits rest x->∀f,oJ f ((uu 3 (.ptr J.length 0::uu 3 (.sl 3 ((pre++y::rest).map It.awa)::.I (pre++y::rest).length::.I (pre++[y]).length::uu 30 []))))->∀o,R ⟨f,J++[.box 61 x.awa,o]⟩:=by
   intro e f q o;rw[e]at j i;refine m _ (cG [.box 61 x.awa] [o] n q ?_ (ih (pre++[y]) (by simp) j i));simp only[LW,ai,al,aY];omega
  refine⟨λh=>?_,λh=>?_⟩
  .refine d ?_ _ ?_ _
   .have:dP x y=false:=by simp only[dP,h,fO,dR]
    simp[fits,this]
   .rw[cm (by simp at c;omega)];simp only[aj,ai,al]
    repeat' constructor
  .refine bB rfl (λ_=>Rg y.awd _) rfl ?_;simp only[W,seval];refine⟨λk=>?_,λk=>?_⟩
   .refine i ?_ _ ..;have:dP x y=true:=by simp only[dP,h,iw,cc];exact k
    simp[fits,this]
   .refine d ?_ _ ?_ _
    .have:dP x y=false:=by simp only[dP,h,iw,cc];exact k
     simp[fits,this]
    .rw[cm (by simp at c;omega)];simp only[aj,ai,al]
     repeat' constructor
def afi(x:It)(a:List It)(J:ak):bM prog 98 [.sl 3 (a.map It.awa),.agg x.awa] J (.b (fits a x)):=by
 refine aZ func98 p98.2 λe f=>au ?_;have c:=mG (f 0 _ rfl).1;rw[ag]at c;simp only[p98,SS,seval];simp only[ag,W,seval];refine⟨by simp[It.awa,kt,kq],?_⟩;refine bZ.aK ?_ (a.length+1) (ahr x a e c a [] rfl (λd=>?_) (λd=>?_))
 .simp only[W,seval]
  repeat' constructor
 .simp only[JE];intros;simp only[W,seval];exact bg e (.inr rfl) rfl (by simp[LW]) ⟨by simp[Pm.one,d],rfl⟩
 .simp only[JE];intros;simp only[W,seval];exact bg e (.inr rfl) rfl (by simp[LW]) ⟨by simp[Pm.one,d],rfl⟩
set_option maxRecDepth 8000 in
def Ld(pre rest:List It)(x:It)(J:ak):bM prog 96 [.sl 3 ((pre++x::rest).map It.awa),.I pre.length] J (.b (bG pre.getLast? x)):=by
 refine aZ func96 p96.2 λf n=>au ?_;have d:=mG (n 0 _ rfl).1;rw[ag]at d;simp only[p96,SS,seval];simp only[It.awa,W,seval];refine⟨by simp;omega,λa=>?_,λa=>⟨λi=>?_,λi=>?_⟩⟩
 .simp only[cE]at a
  have q:∀y c,pre=c++[y]->IntKind.i64.wrap ((pre.length:Int) - 1)=c.length:=λy c e=>by
   subst e;have:(c++[y]).length<2^63:=by simp at d |-;omega
   rw[IntWalk.i64_in _ (by omega)];simp
  rcases dn pre with o|⟨c,y,l⟩
  .subst o;refine⟨λh=>by simp at h,.I 0,λh=>by simp at h,?_⟩;simp only[W,seval];refine bg f (.inr rfl) rfl (by simp[LW]) ⟨?_,rfl⟩;simp[Pm.one,bG,a]
  .rw[da]at l;rw[q y c l];subst l
   have m:gj (List.map It.awa (c++[y]++x::rest)) c.length 0=some (.I y.awb):=by
    rw[bk,fI,qR];rfl
   simp only[ao,m];refine⟨λ_=>by simp;omega,.I y.awb,λ_=>⟨True,rfl,trivial⟩,?_⟩;simp only[W,seval];refine bg f (.inr rfl) rfl (by simp[LW]) ⟨?_,rfl⟩;have p:(((c++[y]).length:Int)==0)=false:=by simp;omega
   simp only[Pm.one,bG,a,p,aT,aA,aR,jg,gG,mz,iY]
 .refine aw (pH _ _) rfl ?_;simp only[W,seval];simp only[cE,di]at a i;refine bg f (.inr rfl) rfl (by simp[LW]) ⟨?_,rfl⟩;simp only[Pm.one,bG,a,i,aT,aS,aA,aR];simp
 .simp only[cE,di,fc]at a i
  have tagged:(x.awb=2\/x.awb=4)->bG pre.getLast? x=(cV x.awd&&decide (1<=x.id)&&decide (x.id<=999)):=λh=>by
   simp only[bG,a,i,h,aT,aS]
  refine⟨λg=>⟨λ_=>?_,λh=>?_⟩,λg=>⟨λj=>?_,λj=>⟨λk=>?_,λk=>?_⟩⟩⟩
  .refine aw (uK _ _) rfl ?_;simp only[W,seval];refine bg f (.inr rfl) rfl (by simp[LW]) ⟨?_,rfl⟩;simp at g;simp only[Pm.one,tagged (.inl g),aA,aR]
  .rw[g]at h;simp at h
  .refine aw (uK _ _) rfl ?_;simp only[W,seval];refine bg f (.inr rfl) rfl (by simp[LW]) ⟨?_,rfl⟩;simp at j;simp only[Pm.one,tagged (.inr j),aA,aR]
  .refine aw (pH _ _) rfl ?_;simp only[W,seval];refine bg f (.inr rfl) rfl (by simp[LW]) ⟨?_,rfl⟩;simp at k;simp[Pm.one,bG,k]
  .refine bg f (.inr rfl) rfl (by simp[LW]) ⟨?_,rfl⟩;simp at g k j;simp[Pm.one,bG,a,i,g,k,j]
def ahF{J:ak}{K:bl}(a:List It)(m:cn J)(d:a.length<2^63):∀(rest pre:List It),a=pre++rest ->
  (bQ pre rest=0->((fj 35 fo) λi=>K (.exit 0) ⟨i,J⟩))->(bQ pre rest≠0->∀loc,((fj 2 (fh (.I (bQ pre rest)) (fj 32 fo))) λi=>K .ret ⟨i,J++loc⟩)) ->
  fm J.length prog Vh K (rest.length+1) ⟨(.sl 3 (a.map It.awa)::uu 12 (.sl 3 (a.map It.awa)::.I a.length::.I pre.length::uu 19 [])),J⟩:=by
 intro rest
 induction rest with
 |nil =>
  intro pre c f b;have c:=cN c
  subst c;refine ar λR k=>?_;simp only[Vh,W,seval];exact⟨λh=>by simp at h,λ_=>f rfl ..⟩
 |cons y rest ih =>
  intro pre c f b;subst c;refine ar λR k=>?_;simp only[Vh,It.awa,W,seval];refine⟨λ_=>⟨by simp;omega,?_⟩,λh=>by simp at h;omega⟩;refine aw (Ld pre rest y _) rfl ?_;simp only[W,seval];refine⟨λh=>?_,λh=>?_⟩
  .have e:bQ pre (y::rest)=1:=by simp at h;simp[bQ,h]
   rw[e]at b;exact b (by decide) _ ..
  .refine aw (rW y _) rfl ?_;simp only[W,seval];have l:List.take (pre.length - 0) (List.map It.awa (pre++y::rest))=pre.map It.awa:=by simp
   simp only[l];refine⟨λ_=>by simp;omega,bB rfl (λ_=>afi y pre _) rfl ?_⟩;simp only[W,seval];have j:bG pre.getLast? y=true:=by simpa using h
   refine⟨λg=>?_,λg=>?_⟩
   .have e:bQ pre (y::rest)=7:=by
     simp only[bQ,j,g,aT,aS,mg]
    rw[e]at b;exact b (by decide) _ ..
   .have e:bQ pre (y::rest)=bQ (pre++[y]) rest:=by
     simp only[bQ,j,g,aS,mg,aI]
    rw[e]at f b;refine k _ (ny (aD _) m ?_ ?_ (ih (pre++[y]) (by simp) f b))
    .rw[cm (by simp at d;omega)];simp only[aj,ai,al]
     repeat' constructor
    .simp only[LW]
def qE(a:List It)(J:ak):bM prog 44 [.sl 3 (a.map It.awa)] J (.I (cd a)):=by
 refine aZ func44 p44.2 λc f=>au ?_;have b:=mG (f 0 _ rfl).1;rw[ag]at b;simp only[p44,SS,seval];simp only[ag,W,seval];refine bB rfl (λ_=>XG a _) rfl ?_;simp only[ag,W,seval];refine⟨λh=>?_,λh=>?_⟩
 .refine aO (.inr rfl) rfl ⟨?_,rfl⟩;simp at h;have:512<a.length\/1024<eQ 0 a:=by omega
  simp only[Pm.one,cd,this,aT,aA,aR]
 .simp at h;have e:¬(512<a.length\/1024<eQ 0 a):=by omega
  refine bZ.aK ?_ (a.length+1) (ahF a c b a [] rfl (λd=>?_) (λd=>?_))
  .simp only[W,seval]
   repeat' constructor
  .simp only[JE];intros;simp only[W,seval];exact aO (.inr rfl) rfl ⟨by simp only[Pm.one,cd,e,d,aS,aA,aR],rfl⟩
  .simp only[JE];intros;simp only[W,seval];exact bg c (.inr rfl) rfl (by simp[LW]) ⟨by simp only[Pm.one,cd,e,aS,aA,aR],rfl⟩
def adZ{J:ak}{K:bl}(c:List It)(n:cn J)(a:c.length<2^40):∀(rest pre:List It) (acc:bH),c=pre++rest->acc.length<=pre.length ->
  (∀r,((fj 3 (fh (.own (J.length+1) (eF acc rest).length) (fj 29 fo))) λo=>K (.exit 0) ⟨o,J++[r,.row 3 1 8 (eF acc rest).length false ((eF acc rest).map bV)]⟩)) ->
  fm J.length prog Ja K (rest.length+1) ⟨(uu 3 (.own (J.length+1) acc.length::.mp J.length::uu 3 (.sl 3 (c.map It.awa)::.I c.length::.I pre.length::uu 22 []))),J++[.map 3 4 (lu acc),.row 3 1 8 acc.length false (acc.map bV)]⟩:=by
 intro rest
 induction rest with
 |nil =>
  intro pre acc k m d;have k:=cN k
  subst k;refine ar λR l=>?_;simp only[Ja,W,seval];exact⟨λh=>by simp at h,λ_=>d _ ..⟩
 |cons y rest ih =>
  intro pre acc k m d;subst k;refine ar λR l=>?_
  by_cases f:y.id∈acc
  .have j:ek (J++[.map 3 4 (lu acc),.row 3 1 8 acc.length false (acc.map bV),.box 61 y.awa]) 0 (.mp J.length) (.I y.id)=some (some (0+acc.idxOf y.id,.b true)):=by
    simp only[ek,jX,aM,BL,f,aT]
   simp only[It.awa]at j;simp only[Ja,It.awa,W,seval];refine⟨λ_=>⟨by simp;omega,?_⟩,λh=>by simp at h;omega⟩;refine aw (rW y _) rfl ?_;simp only[j,W,seval]
   have e:eF acc (y::rest)=eF acc rest:=by
    simp[eF,f]
   rw[e]at d;have g:cn (J++[.map 3 4 (lu acc),.row 3 1 8 acc.length false (acc.map bV)]):=cC n (by simp[Gn]);refine⟨λ_=>by simp[V.yf],λh=>by simp at h,λ_=>?_⟩;refine l _ (cG [_,_] [_] g ?_ ?_ (ih (pre++[y]) acc (by simp) (by simp;omega) d))
   .rw[cm (by simp at a;omega)];simp only[aj,ai,al]
    repeat' constructor
   .simp only[LW,ai,al,aY];omega
  .have j:ek (J++[.map 3 4 (lu acc),.row 3 1 8 acc.length false (acc.map bV),.box 61 y.awa]) 0 (.mp J.length) (.I y.id)=some none:=by
    simp only[ek,jX,aM,BL,f,aS]
   have t:gV 0 (.I y.id) (lu acc) 0=some none:=by simp only[BL,f,aS]
   simp only[It.awa]at j;simp only[Ja,It.awa,W,seval];refine⟨λ_=>⟨by simp;omega,?_⟩,λh=>by simp at h;omega⟩;refine aw (rW y _) rfl ?_;simp only[j,t,W,seval];have u:acc.contains y.id=false:=by simpa using f
   refine⟨λ_=>by simp[V.yf],λh=>?_,λh=>?_⟩
   .have e:eF acc (y::rest)=eF (acc++[y.id]) rest:=by simp[eF,f,h]
    rw[e]at d;have q:acc.map bV++[[V.i .i64 y.id]]=(acc++[y.id]).map bV:=by simp[bV]
    have s:lu acc++[(V.i .i64 y.id,eS [none] (V.b true))]=lu (acc++[y.id]):=by simp[lu,eS]
    have p:acc.length+1=(acc++[y.id]).length:=by simp
    rw[q,s,p];have g:cn (J++[.map 3 4 (lu (acc++[y.id])),.row 3 1 8 (acc++[y.id]).length false ((acc++[y.id]).map bV)]):=cC n (by simp[Gn]);refine⟨by simp[V.yf,eS,V.lO,V.cell,V.pure],?_,?_⟩
    .simp at a;simp[maxLen];omega
    .refine l _ (cG [_,_] [_] g ?_ ?_ (ih (pre++[y]) (acc++[y.id]) (by simp) (by simp;omega) d))
     .rw[cm (by simp at a;omega)];simp only[aj,ai,al]
      repeat' constructor
     .simp only[LW,ai,al,aY];omega
   .have e:eF acc (y::rest)=eF acc rest:=by simp[eF,h]
    rw[e]at d;have g:cn (J++[.map 3 4 (lu acc),.row 3 1 8 acc.length false (acc.map bV)]):=cC n (by simp[Gn]);refine l _ (cG [_,_] [_] g ?_ ?_ (ih (pre++[y]) acc (by simp) (by simp;omega) d))
    .rw[cm (by simp at a;omega)];simp only[aj,ai,al]
     repeat' constructor
    .simp only[LW,ai,al,aY];omega
def wR(a:List It)(b:a.length<2^40)(J:ak):PC prog 142 [.sl 3 (a.map It.awa)] J (λr J'=>r=.own J.length 0/\J'=J++[.row 3 1 8 0 false ((awm a).map bV)]):=by
 refine aZ func142 al4.2 λc d=>au ?_;simp only[al4,SS,seval];simp only[ag,W,seval];refine bZ.wk ((Wk.jA (J:=J) [_] (k:=3) sK rfl).trans (Wk.fg ?_)) (bZ.uh (a.length+1) (adZ a c b a [] [] rfl (aD _) ?_))
 .simp only[W,seval]
  repeat' constructor
 .simp only[JE];intros;simp only[W,seval];exact zh 1 c (.inr rfl) rfl rfl rfl (by simp[Hn,Ob.gen]) (by simp[Pm.one,awm,mv1,Ob.fresh])
def CQ(a:List It)(b:a.length<2^40)(J:ak):bM prog 142 [.sl 3 (a.map It.awa)] J (.sl 1 ((awm a).map bV)) :=
 PC.closed λc=>PC.fz c (wR a b J)
def VA{J:ak}{K:bl}(e:cn J)(N:Nat)(j:N<2^40):∀(k i:Nat),i+k=N ->
  ((fj 3 (fh (.own J.length 0) (fj 15 fo))) λf=>K (.exit 0) ⟨f,J++[.row 3 1 8 0 false (lp N N)]⟩) ->
  fm J.length prog NN K (k+1) ⟨(uu 3 (.own J.length 0::uu 4 (.I N::.I i::uu 9 []))),J++[.row 3 1 8 0 false (lp N i)]⟩
 |0,i,b,h1=>by
  have b:i=N:=by omega
  subst b;refine ar λR c=>?_;simp only[NN,W,seval];exact⟨λh=>by simp at h,λ_=>h1 ..⟩
 |k+1,i,b,h1=>by
  have a:i<N:=by omega
  refine ar λR c=>?_;simp only[NN,Cw (YE a),LS a,W,seval];refine⟨λ_=>?_,λh=>by simp at h;omega⟩;have d:=cm (n:=i) (by omega);rw[d];have g:(lp N i).set i [V.i .i64 (((i+1:Nat)):Int)]=lp N (i+1):=by rw[<- LR a];rfl
  rw[g];refine⟨by omega,a,c _ (aK ?_ (VA e N j k (i+1) (by omega) h1))⟩
  repeat' constructor
def G9(n:Nat)(b:n<2^40)(J:ak):bM prog 197 [.I n] J (.sl 1 ((eE n).map bV)):=by
 refine aZ func197 alw.2 λa c=>au ?_;simp only[alw,SS,seval];simp only[W,seval];refine⟨⟨by omega,.inl trivial,by omega,by omega,by simp[maxLen];omega⟩,?_⟩;have e:List.replicate n [V.i .i64 0]=lp n 0:=by simp[lp,eE]
 rw[e];refine bZ.aK (fr':=(uu 3 (.own J.length 0::uu 4 (.I n::.I (0:Nat)::uu 9 [])))) ?_ (n+1) (VA a n b n 0 (by omega) ?_)
 .rw[Cw (fA _)]
  repeat' constructor
 .simp only[JE];intros;simp only[W,seval];refine mW 0 a (.inr rfl) rfl rfl ?_ ?_
  .simp[fz,oa,jP,GS]
  .simp[fz,oa,Pm.one,lp]
def TP(l:bH)(x:Int):Int:=if x∈l then l.idxOf x else -1
def adJ{J:ak}{K:bl}(x:Int)(l:bH)(b:l.length<2^63):∀(rest pre:bH),l=pre++rest->x ∉ pre ->
  (x ∉ l->((fj 19 fo) λg=>K (.exit 0) ⟨g,J⟩))->(x∈l->((fj 4 (fh (.I (TP l x)) (fj 14 fo))) λg=>K .ret ⟨g,J⟩)) ->
  fm J.length prog NG K (rest.length+1) ⟨(.sl 1 (l.map bV)::.I x::uu 5 (.I l.length::.I pre.length::uu 10 [])),J⟩:=by
 intro rest
 induction rest with
 |nil =>
  intro pre a f i d;have a:=cN a
  subst a;refine ar λR j=>?_;simp only[NG,W,seval];exact⟨λh=>by simp at h,λ_=>i f ..⟩
 |cons c rest ih =>
  intro pre a f i d;subst a;refine ar λR j=>?_;simp only[NG,bV,W,seval];refine⟨λ_=>⟨by simp;omega,λh=>?_,λh=>?_⟩,λh=>by simp at h;omega⟩
  .simp at h;subst h
   have e:TP (pre++x::rest) x=pre.length:=by
    simp[TP,List.idxOf_append,f]
   rw[e]at d;exact d (by simp) ..
  .simp at h;refine j _ (aK ?_ (ih (pre++[c]) (by simp) (by simp[f,h]) i d));rw[cm (by simp at b;omega)];simp only[aj,ai,al]
   repeat' constructor
def Rm(l:bH)(x:Int)(J:ak):bM prog 239 [.sl 1 (l.map bV),.I x] J (.I (TP l x)):=by
 refine aZ func239 ak7.2 λc b=>au ?_;have a:=mG (b 0 _ rfl).1;rw[ag]at a;simp only[ak7,SS,seval];simp only[ag,W,seval];refine bZ.aK ?_ (l.length+1) (adJ x l a l [] rfl (by simp) (λh=>?_) (λh=>?_))
 .repeat' constructor
 .simp only[JE];intros;simp only[W,seval];exact aO (.inr rfl) rfl ⟨by simp[Pm.one,TP,h],rfl⟩
 .simp only[JE];intros;simp only[W,seval];exact aO (.inr rfl) rfl ⟨rfl,rfl⟩
def Kr(l:bH)(x:Int)(J:ak):bM prog 196 [.sl 1 (l.map bV),.I x] J (.b (l.contains x)):=by
 refine aZ func196 alx.2 λc a=>au ?_;simp only[alx,SS,seval];simp only[W,seval];refine aw (Rm l x _) rfl ?_;simp only[W,seval];refine aO (.inr rfl) rfl ⟨?_,rfl⟩
 by_cases h:x∈l
 .simp[Pm.one,TP,h]
 .simp[Pm.one,TP,h]
def Vz{J:ak}{K:bl}(a b:List It)(g:a.length<2^63)(j:a.length=b.length):∀(d c f i:List It),a=f++d->b=i++c->f.length=i.length ->
  (gL d c=true->((fj 26 fo) λk=>K (.exit 0) ⟨k,J⟩))->(gL d c=false->((fj 4 (fh (.b false) (fj 21 fo))) λk=>K .ret ⟨k,J⟩)) ->
  fm J.length prog NM K (d.length+1) ⟨(.sl 3 (a.map It.awa)::.sl 3 (b.map It.awa)::uu 10 (.I a.length::.I f.length::uu 12 [])),J⟩
 |[],c,f,i,ha,hb,hp,h1,h2=>by
  have:c=[]:=by
   subst ha;subst hb;simp at j;have:c.length=0:=by omega
   exact fG.1 this
  subst this;subst ha;refine ar λR l=>?_;simp only[NM,W,seval];exact⟨λh=>by simp at h,λ_=>h1 rfl ..⟩
 |x::d,[],f,i,ha,hb,hp,h1,h2=>by
  subst ha;subst hb;simp at j;omega
 |x::d,y::c,f,i,ha,hb,hp,h1,h2=>by
  subst ha;subst hb;refine ar λR l=>?_;have m:(List.map It.awa (i++y::c)).getD f.length []=y.awa:=by rw[hp];exact um
  simp only[NM,m,It.awa,gC,dD,W,seval];refine⟨λ_=>⟨by simp;omega,by simp;omega,λh=>?_,λh=>?_⟩,λh=>by simp at h;omega⟩
  .refine h2 ?_ ..;have:Hp x y=false:=by simpa only[Hp,dm]using h
   simp[gL,this]
  .have n:Hp x y=true:=by simpa only[Hp,dQ]using h
   have e:gL (x::d) (y::c)=gL d c:=by simp[gL,n]
   rw[e]at h1 h2;refine l _ (aK ?_ (Vz _ _ g j d c (f++[x]) (i++[y]) (by simp) (by simp) (by simp[hp]) h1 h2));rw[cm (by simp at g;omega)];simp only[aj,ai,al]
   repeat' constructor
def LP(a b:List It)(J:ak):bM prog 198 [.sl 3 (a.map It.awa),.sl 3 (b.map It.awa)] J (.b (gL a b)):=by
 refine aZ func198 alv.2 λg f=>au ?_;have c:=mG (f 0 _ rfl).1;rw[ag]at c;simp only[alv,SS,seval];simp only[ag,W,seval];refine⟨λh=>?_,λh=>?_⟩
 .refine aO (.inr rfl) rfl ⟨?_,rfl⟩;simp at h;simp only[Pm.one,aA,aR,V.b.injEq];cases e:gL a b
  .rfl
  .exact absurd (ML e) (by omega)
 .simp at h;refine bZ.aK ?_ (a.length+1) (Vz a b c (by omega) a b [] [] rfl rfl rfl (λd=>?_) (λd=>?_))
  .simp only[W,seval]
   repeat' constructor
  .simp only[W,seval];simp only[JE];intros;exact aO (.inr rfl) rfl ⟨by simp[Pm.one,d],rfl⟩
  .simp only[W,seval];simp only[JE];intros;exact aO (.inr rfl) rfl ⟨by simp[Pm.one,d],rfl⟩
def GW(a b:List It)(J:ak):bM prog 129 [.sl 3 (a.map It.awa),.sl 3 (b.map It.awa)] J (.b (gL a b)):=by
 refine aZ func129 amd.2 λd c=>au ?_;simp only[amd,SS,seval];simp only[W,seval];refine aw (LP a b _) rfl ?_;simp only[W,seval];exact aO (.inr rfl) rfl ⟨rfl,rfl⟩
def aak{J:ak}{K:bl}(a:List It)(i:Nat)(rows:dF)(r:cn J)(d:a.length<2^40):
  ∀(rest pre:List It) (b:aG) (g:Nat),a=pre++rest->b.length+(awp rest).1.length<2^40 ->
  (∀n,((fh (.sl 3 (a.map It.awa)) (fj 2 (fh (.own J.length i) (fh (.I (a.length - (awp rest).2.length:Nat)) (fh (.own (J.length+1) n) (fj 50 fo)))))) λq=>K (.exit 2) ⟨q,J++[.row 61 3 32 i false rows,.row 5 1 1 n false (gp (b++(awp rest).1))]⟩)) ->
  fm J.length prog I9 K (rest.length+1) ⟨(.sl 3 (a.map It.awa)::uu 2 (.own J.length i::.I pre.length::.own (J.length+1) g::uu 50 [])),J++[.row 61 3 32 i false rows,.row 5 1 1 g false (gp b)]⟩:=by
 intro rest
 induction rest with
 |nil =>
  intro pre b g f j c;have f:=cN f
  subst f;refine ar λR o=>?_;simp only[I9,W,seval];refine⟨λh=>by simp at h,.I 0,λh=>by simp at h,?_⟩;simp only[W,seval];refine⟨λh=>by simp at h,λ_=>?_⟩;have e:b++(awp []).1=b:=by simp[awp]
  rw[e]at c;exact c _ ..
 |cons x rest ih =>
  intro pre b g f j c;subst f;refine ar λR o=>?_;simp only[I9,It.awa,W,seval];refine⟨λ_=>by simp;omega,.I x.awb,λ_=>rfl,?_⟩;simp only[W,seval];have p:decide ((pre.length:Int)<((List.map It.awa (pre++x::rest)).length:Int))=true:=by simp;omega
  simp only[p,It.awa,W,seval];refine⟨λh=>?_,λh=>?_⟩
  .simp at h;have l:(awp (x::rest)).1=x.awd++(awp rest).1:=by simp[awp,h]
   have k:(awp (x::rest)).2=(awp rest).2:=by simp[awp,h]
   rw[l]at c j;rw[k]at c;simp only[<- List.append_assoc b]at c;rw[aj]at j;refine⟨by simp;omega,⟨?_,?_⟩,?_⟩
   .simp only[il];omega
   .simp only[il,maxLen];omega
   .rw[nc];refine o _ (aK ?_ (ih (pre++[x]) (b++x.awd) (g+1) (by simp) (by rw[aj];omega) c));rw[cm (by simp at d;omega)];simp only[aj,ai,al]
    repeat' constructor
  .simp at h;have l:(awp (x::rest))=([],x::rest):=by simp[awp,h]
   rw[l]at c;have k:(pre++x::rest).length - (x::rest).length=pre.length:=by simp
   have m:=c g;simp only[k,bL]at m;exact m ..
def yX:Ti prog 61 3 32:=qJ (by kernel_rfl)
def Zj:Ti prog 5 1 1:=qJ (by kernel_rfl)
def BD{J:ak}{K:bl}(d:List It)(f:cn J)(a:d.length<2^40):
  ∀(n:Nat) (rest pre out:List It),d=pre++rest->rest.length<=n->bd rest<2^40->out.length<=pre.length ->
  ((fj 3 (fh (.own J.length (out++lU n rest).length) (fj 52 fo))) λt=>K (.exit 0) ⟨t,J++[.row 61 3 32 (out++lU n rest).length false ((out++lU n rest).map It.awa)]⟩) ->
  fm J.length prog N1 K (n+1) ⟨(.sl 3 (d.map It.awa)::uu 2 (.own J.length out.length::.I pre.length::uu 51 [])),J++[.row 61 3 32 out.length false (out.map It.awa)]⟩
 |n,[],pre,out,g,hn,ht,ho,h1=>by
  have g:=cN g
  subst g;have e:out++lU n []=out:=by cases n<;>simp[lU]
  rw[e]at h1;refine ar λR j=>?_;simp only[N1,W,seval];exact⟨λh=>by simp at h,λ_=>h1 ..⟩
 |0,x::rest,pre,out,g,hn,ht,ho,h1=>by simp at hn
 |n+1,x::rest,pre,out,g,hn,ht,ho,h1=>by
  subst g;refine ar λR j=>?_;simp only[N1,It.awa,W,seval];refine⟨λ_=>⟨by simp;omega,λc=>?_,λc=>?_⟩,λh=>by simp at h;omega⟩
  .simp at c;have e:out++lU (n+1) (x::rest)=(out++[x])++lU n rest:=by simp[lU,c]
   rw[e]at h1;have o:out.map It.awa++[[.I x.awb,.s x.awd,.I x.id]]=(out++[x]).map It.awa:=by simp[It.awa]
   have m:out.length+1=(out++[x]).length:=by simp
   rw[o,m];simp only[bd]at ht;refine⟨by simp;omega,?_,?_⟩
   .simp at a;simp[maxLen];omega
   .refine j _ (aK ?_ (BD _ f a n rest (pre++[x]) (out++[x]) (by simp) (by simp at hn;omega) (by omega) (by simp;omega) h1));rw[cm (by simp at a;omega)];simp only[aj,ai,al]
    repeat' constructor
  .simp at c;obtain⟨b,p⟩:=Cg (x::rest);have w:=th (r:=rest) c;have q:=DB (x::rest)
   have u:(pre++x::rest).length - (awp (x::rest)).2.length=(pre++b).length:=by
    have:=congrArg List.length p;simp only[aj]at this |-;omega
   refine bZ.wk ((Wk.jA (J:=J) [_] (k:=5) Zj rfl).trans (Wk.fg ?_)) (bZ.uh ((x::rest).length+1) (aak _ out.length (out.map It.awa) f a (x::rest) pre [] 0 rfl (by simp;omega) ?_))
   .simp only[W,seval]
    repeat' constructor
   .simp only[JE];intros;rw[u,bc];simp only[il,sf,W,seval];have i:pre++x::rest=(pre++b)++(awp (x::rest)).2:=by rw[bk,<- p]
    have v:1<=b.length:=by
     have:=congrArg List.length p;simp only[aj,ai]at this;omega
    refine⟨λh=>⟨?_,?_⟩,λh=>?_⟩
    .simp at a;simp[maxLen];omega
    .simp at h
     have e:out++lU (n+1) (x::rest)=(out++[⟨1,(awp (x::rest)).1,0⟩])++lU n (awp (x::rest)).2:=by
      have:¬(awp (x::rest)).1.length=0:=by omega
      simp[lU,c,this]
     rw[e]at h1;have o:out.map It.awa++[[.I 1,.s (awp (x::rest)).1,.I 0]]=(out++[(⟨1,(awp (x::rest)).1,0⟩:It)]).map It.awa:=by simp[It.awa]
     have m:out.length+1=(out++[(⟨1,(awp (x::rest)).1,0⟩:It)]).length:=by simp
     rw[o,m];have l:cn (J++[.row 61 3 32 (out++[(⟨1,(awp (x::rest)).1,0⟩:It)]).length false ((out++[(⟨1,(awp (x::rest)).1,0⟩:It)]).map It.awa)]):=cC f (by simp);refine j _ (cG [_] [_] l ?_ ?_ (BD _ f a n (awp (x::rest)).2 (pre++b) (out++[⟨1,(awp (x::rest)).1,0⟩]) i (by simp at hn;omega) (by omega) (by simp;omega) h1))
     .repeat' constructor
     .simp only[LW,ai,al,aY];omega
    .simp at h
     have e:out++lU (n+1) (x::rest)=out++lU n (awp (x::rest)).2:=by
      simp[lU,c,h]
     rw[e]at h1;have l:cn (J++[.row 61 3 32 out.length false (out.map It.awa)]):=cC f (by simp);refine j _ (cG [_] [_] l ?_ ?_ (BD _ f a n (awp (x::rest)).2 (pre++b) out i (by simp at hn;omega) (by omega) (by simp;omega) h1))
     .repeat' constructor
     .simp only[LW,ai,al,aY];omega
def Od(a:List It)(b:a.length<2^40)(d:bd a<2^40)(J:ak):bM prog 145 [.sl 3 (a.map It.awa)] J (.sl 3 ((awl a).map It.awa)):=by
 refine aZ func145 al3.2 λc e=>au ?_;simp only[al3,SS,seval];simp only[W,seval];refine bZ.wk ((Wk.ij (k:=3) yX rfl).trans (Wk.fg ?_)) (bZ.uh (a.length+1) (BD a c b a.length a [] [] rfl (aD _) d (aD _) ?_))
 .simp only[W,seval]
  repeat' constructor
 .simp only[JE];intros;simp only[W,seval];refine mW 0 c (.inr rfl) rfl rfl ?_ ?_
  .simp[fz,oa,jP,GS]
  .simp[fz,oa,Pm.one,awl]
def Q6{J:ak}{K:bl}(F:V)(fr a:bH)(d:fr.length<2^63):
  ∀(i:Nat) (l:eR),i<=min fr.length a.length->(∀x,cX x l=Dm (fr.drop i) (a.drop i) x) ->
  (∀l,(∀x,cX x l=Dm fr a x)->((fh (F) (fj 6 (fh (.mp J.length) (fj 52 fo)))) λp=>K (.exit 0) ⟨p,J++[.map 3 3 (uB l)]⟩)) ->
  fm J.length prog U3 K (i+1) ⟨(F::.sl 1 (fr.map bV)::.sl 1 (a.map bV)::uu 4 (.mp J.length::.I ((i:Int) - 1)::uu 51 [])),J++[.map 3 3 (uB l)]⟩
 |0,l,hi,hl,h1=>by
  refine ar λR g=>?_;simp only[U3,W,seval];exact⟨nofun,λ_=>h1 l (by simpa using hl) ..⟩
 |i+1,l,hi,hl,h1=>by
  have c:i<fr.length:=by omega
  have j:i<a.length:=by omega
  have n:((i+1:Nat):Int) - 1=(i:Nat):=by omega
  have m:IntKind.i64.wrap ((i:Int) - 1)=(i:Int) - 1:=IntWalk.i64_in _ (by omega);have o:∀x,cX x (iZ l (fr.getD i 0) (a.getD i 0))=Dm (fr.drop i) (a.drop i) x:=λx=>by rw[jy,PI c j,hl x]
  rw[n];refine ar λR g=>?_;simp only[U3,ao,Be c,Be j,W,seval];rcases GR l (fr.getD i 0)with⟨_,e,f⟩|⟨k,b,_,e,f⟩
  all_goals
   simp only[e,m,eS,f,W,seval];refine⟨λ_=>⟨by simp;omega,by simp;omega,by simp[V.yf,V.lO,V.cell,V.pure],?_⟩,λh=>by simp at h<;>omega⟩;refine g _ (aK ?_ (Q6 F fr a d i _ (by omega) o h1))
   repeat' constructor
def aan{J:ak}{K:bl}(d:List It)(fr a:bH)(l:eR)(A:cn J)(f:d.length<2^40)(B:∀x,cX x l=Dm fr a x):∀(rest pre:List It) (out:List It),d=pre++rest->out.length<=pre.length ->
  ((fj 9 (fh (.own (J.length+1) (out++awv rest fr a).length) (fj 50 fo))) λH=>K (.exit 2) ⟨H,J++[.map 3 3 (uB l),.row 61 3 32 (out++awv rest fr a).length false ((out++awv rest fr a).map It.awa)]⟩) ->
  fm J.length prog QB K (rest.length+1) ⟨(uu 7 (.mp J.length::uu 1 (.own (J.length+1) out.length::uu 24 (.sl 3 (d.map It.awa)::.I d.length::.I pre.length::uu 23 [])))),J++[.map 3 3 (uB l),.row 61 3 32 out.length false (out.map It.awa)]⟩:=by
 intro rest
 induction rest with
 |nil =>
  intro pre out n u g;have n:=cN n
  subst n;have e:out++awv [] fr a=out:=by simp[awv]
  rw[e]at g;refine ar λR i=>?_;simp only[QB,W,seval];exact⟨λh=>by simp at h,λ_=>g ..⟩
 |cons x rest ih =>
  intro pre out n u g;subst n
  have t:=dh pre x (by simp at f;omega)
  have o:pre++x::rest=(pre++[x])++rest:=by simp
  have put:∀(y:It),WU fr a x=some y->∀{R:ca} {z:aB} ,(∀p,fm J.length prog QB K (rest.length+1) p->R p)->oJ z (uu 7 (.mp J.length::uu 1 (.own (J.length+1) (out++[y]).length::uu 24 (.sl 3 ((pre++x::rest).map It.awa)::.I (pre++x::rest).length::.I (pre++[x]).length::uu 23 [])))) ->
    R ⟨z,J++[.map 3 3 (uB l),.row 61 3 32 (out++[y]).length false ((out++[y]).map It.awa),.box 61 y.awa]⟩:=λy L R z i G=>by
   have e:out++awv (x::rest) fr a=(out++[y])++awv rest fr a:=by simp[awv,L]
   rw[e]at g;have w:cn (J++[.map 3 3 (uB l),.row 61 3 32 (out++[y]).length false ((out++[y]).map It.awa)]):=cC A (by simp[He]);refine i _ (cG [_,_] [_] w G ?_ (ih (pre++[x]) (out++[y]) o (by simp;omega) g));simp only[LW,ai,al,aY];omega
  have j:∀(m:Nat),m<=pre.length->((m+1)*32<=2^47/\m+1<=maxLen):=λm M=>by simp at f;simp[maxLen];omega
  have D:∀(y:It),out.map It.awa++[[.I y.awb,.s y.awd,.I y.id]]=(out++[y]).map It.awa:=λy=>by simp[It.awa]
  have E:∀(y:It),out.length+1=(out++[y]).length:=λy=>by simp
  refine ar λR i=>?_;simp only[QB,It.awa,W,seval];refine⟨λ_=>⟨by simp;omega,?_⟩,λh=>by simp at h;omega⟩;refine aw (rW x _) rfl ?_;simp only[W,seval];refine⟨λq=>?_,λq=>?_⟩
  .have C:∀s,ek (J++(.map 3 3 (uB l))::s) 0 (.mp J.length) (.I x.id)=gV 0 (.I x.id) (uB l) 0:=λs=>by simp only[ek,jX,aM]
   rcases GR l x.id with⟨r,v,F⟩|⟨k,b,r,v,F⟩
   .have c:WU fr a x=none:=by simp only[WU,q,aT,<- B x.id,r,lJ]
    have e:out++awv (x::rest) fr a=out++awv rest fr a:=by simp[awv,c]
    rw[e]at g;simp only[C,v,W,seval];refine⟨by simp[V.yf],?_⟩;have w:cn (J++[.map 3 3 (uB l),.row 61 3 32 out.length false (out.map It.awa)]):=cC A (by simp[He]);refine i _ (cG [_,_] [_] w ?_ ?_ (ih (pre++[x]) out o (by simp;omega) g))
    .rw[t];repeat' constructor
    .simp only[LW,ai,al,aY];omega
   .have c:WU fr a x=some ⟨x.awb,x.awd,b⟩:=by simp only[WU,q,aT,<- B x.id,r,cL]
    simp only[C,v,W,seval];refine⟨by simp[V.yf],⟨j _ (by rw[ag];exact u),?_⟩⟩;rw[E ⟨x.awb,x.awd,b⟩,D ⟨x.awb,x.awd,b⟩];refine put _ c i ?_;rw[t];repeat' constructor
  .have c:WU fr a x=some x:=by simp only[WU,q];rfl
   refine⟨j _ (by rw[ag];exact u),?_⟩;rw[E x,D x];refine put _ c i ?_;rw[t];repeat' constructor
def Bx(a:List It)(fr b:bH)(c:a.length<2^40)(j:bd a<2^40)(J:ak):bM prog 85 [.sl 3 (a.map It.awa),.sl 1 (fr.map bV),.sl 1 (b.map bV)] J (.sl 3 ((rename a fr b).map It.awa)):=by
 refine aZ func85 p85.2 λh g=>au ?_;have d:=mG (g 1 _ rfl).1;have e:=mG (g 2 _ rfl).1;rw[ag]at d e;simp only[p85,SS,seval];simp only[ag,W,seval]
 have f:IntKind.i64.wrap ((if((b.length:Int)<(fr.length:Int))then(b.length:Int)else(fr.length:Int)) - 1)=((min fr.length b.length:Nat):Int) - 1:=by
  rw[IntWalk.i64_in _ (by split<;>omega)];split<;>omega
 rw[f];refine bZ.aK (fr':=(.sl 3 (a.map It.awa)::.sl 1 (fr.map bV)::.sl 1 (b.map bV)::uu 4 (.mp J.length::.I (((min fr.length b.length:Nat):Int) - 1)::uu 51 []))) ?_ _ (Q6 _ fr b d (min fr.length b.length) [] (aD _) (λx=>by rw[UP (aD _)];rfl) ?_)
 .repeat' constructor
 .intro l i;simp only[JE];intros;simp only[ag,W,seval];refine bZ.wk ((Wk.jA (J:=J) [_] (k:=9) yX rfl).trans (Wk.fg ?_)) (bZ.uh (a.length+1) (aan a fr b l h c i a [] [] rfl (aD _) ?_))
  .simp only[W,seval]
   repeat' constructor
  .simp only[JE];intros;simp only[bc,W,seval];refine xl (J.length+1) (by simp only[qv];rfl) (Od (awv a fr b) (v8 (tE _ _ _) c) (v8 (DE _ _ _) j) _) (by simp[fz,oa,ev]) ?_;simp only[W,seval];exact bg h (.inr rfl) rfl (by simp[LW]) ⟨rfl,rfl⟩
def ad1{J:ak}{K:bl}(A B:V)(m:bH)(c:m.length<2^40):∀(rest pre l:bH) (g:Nat) (sh:Bool),m=pre++rest->l.length+rest.length<2^40 ->
  (∀g sh,((fh (A) (fh (B) (fj 4 (fh (.own J.length g) (fj 32 fo))))) λo=>K (.exit 0) ⟨o,J++[.row 3 1 8 g sh ((jl l rest).map bV)]⟩)) ->
  fm J.length prog N2 K (rest.length+1) ⟨(A::B::uu 4 (.own J.length g::uu 5 (.sl 1 (m.map bV)::.I m.length::.I pre.length::uu 24 []))),J++[.row 3 1 8 g sh (l.map bV)]⟩:=by
 intro rest
 induction rest with
 |nil =>
  intro pre l g sh d k a;have d:=cN d
  subst d;refine ar λR f=>?_;simp only[N2,W,seval];exact⟨λh=>by simp at h,λ_=>a _ _ ..⟩
 |cons x rest ih =>
  intro pre l g sh d k a;subst d
  have j:=dh pre x (by simp at c;omega)
  have b:pre++x::rest=(pre++[x])++rest:=by simp
  refine ar λR f=>?_;simp only[N2,bV,W,seval];refine⟨λ_=>⟨by simp;omega,?_⟩,λh=>by simp at h<;>omega⟩;refine xl J.length (by simp only[jX];rfl) (Kr l x _) (by simp[fz,oa,ev,bV]) ?_;simp only[W,seval];simp only[ai]at k;refine⟨λh=>⟨?_,?_⟩,λh=>?_⟩
  .simp[maxLen];omega
  .have e:jl l (x::rest)=jl (l++[x]) rest:=by
    simp at h;simp[jl,h]
   rw[e]at a;have q:List.map (λn=>[V.i .i64 n]) l++[[.I x]]=(l++[x]).map bV:=by simp[bV]
   refine f _ ?_;have p:l.map bV++[[.I x]]=(l++[x]).map bV:=by simp[bV]
   rw[p];refine aK ?_ (ih (pre++[x]) (l++[x]) (g+1) _ b (by simp;omega) a);rw[j];repeat' constructor
  .have e:jl l (x::rest)=jl l rest:=by
    simp at h;simp[jl,h]
   rw[e]at a;refine f _ (aK ?_ (ih (pre++[x]) l g _ b (by omega) a));rw[j];repeat' constructor
def O6(s t:List It)(l:s.length<2^39)(i:t.length<2^39)(c:bd s<2^40)(a:bd t<2^40)(J:ak):bM prog 128 [.sl 3 (s.map It.awa),.sl 3 (t.map It.awa)] J (.iQ [.sl 3 ((gK s t).map It.awa),.sl 3 ((iq s t).map It.awa)]):=by
 refine aZ func128 ame.2 λd e=>au ?_;have h:=jE s;have f:=jE t;have j:=z7 (awm t) (awm s);simp only[ame,SS,seval];simp only[W,seval];refine aw (wR s (by omega) _) rfl ?_;simp only[W,seval];refine aw (CQ t (by omega) _) rfl ?_;simp only[ag,W,seval];refine bZ.aK ?_ ((awm t).length+1) (ad1 (.sl 3 (s.map It.awa)) (.sl 3 (t.map It.awa)) (awm t) (by omega) (awm t) [] (awm s) 0 false rfl (by omega) ?_)
 .repeat' constructor
 .intro g k;simp only[JE];intros;simp only[W,seval];have b:(jl (awm s) (awm t)).length<2^40:=by omega
  refine aw (G9 (jl (awm s) (awm t)).length b _) (by simp[ev]) ?_;simp only[W,seval];refine xl J.length (by simp only[jX];rfl) (Bx s (cS s t) (eE (cS s t).length) (by omega) c _) (by simp[fz,oa,ev,cS]) ?_;simp only[W,seval];refine aw (G9 (jl (awm s) (awm t)).length b _) (by simp[ev]) ?_;simp only[W,seval];refine xl J.length (by simp only[jX];rfl) (Bx t (cS s t) (eE (cS s t).length) (by omega) a _) (by simp[fz,oa,ev,cS]) ?_;simp only[W,seval];exact bg d (.inr rfl) rfl (by simp[LW]) ⟨rfl,rfl⟩
def abf(c:UInt8)(J:ak):bM prog 207 [.i .u8 c.toNat] J (.iQ [.i .u8 (gE c).1.toNat,.b (gE c).2]):=by
 refine aZ func207 alo.2 λe d=>au ?_;simp only[alo,SS,seval];simp only[W,seval];refine⟨λh=>?_,λh=>⟨λa=>?_,λa=>?_⟩⟩<;>refine aO (.inr rfl) rfl ?_
 .simp at h;have:=aeI c (by omega);simp[Pm.one,this]
 .simp at a;have:=aeH c (by omega);simp[Pm.one,this]
 .simp at h a;have:=ah9 c (by omega) (by omega);simp[Pm.one,this]
def Qu(c:UInt8)(J:ak):bM prog 159 [.i .u8 c.toNat] J (.b (qM c)):=by
 refine aZ func159 alV.2 λd a=>au ?_;simp only[alV,SS,seval];simp only[W,seval];refine bB (by simp only[W,seval];rfl) (λ_=>s5 c _) rfl ?_;simp only[W,seval];refine aO (.inr rfl) rfl ⟨?_,rfl⟩;simp only[Pm.one,qM,aA,aR,V.b.injEq];simp only[<- agY];rfl
def Yi(s:aG)(J:ak):bM prog 156 [.s s] J (.iQ [.i .u8 (dj s).1.toNat,.I (dj s).2.1,.b (dj s).2.2]):=by
 refine aZ func156 alY.2 λt r=>au ?_;simp only[alY,SS,seval]
 by_cases o:s.length<2
 .have n:decide ((s.length:Int)<2)=true:=by simp;omega
  simp only[n,W,seval];refine aO (.inr rfl) rfl ⟨?_,rfl⟩;simp[Pm.one,dj,o]
 have n:decide ((s.length:Int)<2)=false:=by simp;omega
 have l:(0:Int)<=1/\(1:Int)<s.length:=by omega
 by_cases d:s.getD 1 0=92
 .simp only[n,Wq (k:=92) d rfl,W,seval,-Int.reduceLE]
  repeat refine aC l ?_
  refine aO (.inr rfl) rfl ⟨?_,rfl⟩;have e:dj s=(s.getD 1 0,2,true):=by simp[dj,o,<- List.getD_eq_getElem?_getD,d]
  rw[e];rfl
 by_cases g:s.getD 1 0=60
 .simp only[n,xN (k:=92) d rfl,Wq (k:=60) g rfl,W,seval,-Int.reduceLE]
  repeat refine aC l ?_
  refine aO (.inr rfl) rfl ⟨?_,rfl⟩;have e:dj s=(s.getD 1 0,2,true):=by simp[dj,o,<- List.getD_eq_getElem?_getD,d,g]
  rw[e];rfl
 by_cases a:s.getD 1 0=123
 .simp only[n,xN (k:=92) d rfl,xN (k:=60) g rfl,Wq (k:=123) a rfl,W,seval,-Int.reduceLE]
  repeat refine aC l ?_
  refine aO (.inr rfl) rfl ⟨?_,rfl⟩;have e:dj s=(s.getD 1 0,2,true):=by simp[dj,o,<- List.getD_eq_getElem?_getD,d,g,a]
  rw[e];rfl
 by_cases f:s.getD 1 0=110
 .simp only[n,xN (k:=92) d rfl,xN (k:=60) g rfl,xN (k:=123) a rfl,Wq (k:=110) f rfl,W,seval,-Int.reduceLE]
  repeat refine aC l ?_
  refine aO (.inr rfl) rfl ⟨?_,rfl⟩;have e:dj s=(10,2,true):=by simp[dj,o,<- List.getD_eq_getElem?_getD,d,g,a,f]
  rw[e];rfl
 by_cases j:s.getD 1 0=116
 .simp only[n,xN (k:=92) d rfl,xN (k:=60) g rfl,xN (k:=123) a rfl,xN (k:=110) f rfl,Wq (k:=116) j rfl,W,seval,-Int.reduceLE]
  repeat refine aC l ?_
  refine aO (.inr rfl) rfl ⟨?_,rfl⟩;have e:dj s=(9,2,true):=by simp[dj,o,<- List.getD_eq_getElem?_getD,d,g,a,f,j]
  rw[e];rfl
 have all:∀{c:UInt8},s.getD 1 0=c->c=120->dj s=if s.length<4 then(0,0,false)else(fQ (s.getD 2 0) (s.getD 3 0),4,(gE (s.getD 2 0)).2&&(gE (s.getD 3 0)).2&&(fQ (s.getD 2 0) (s.getD 3 0)==13||ei (fQ (s.getD 2 0) (s.getD 3 0))==1)):=by
  rintro c h rfl;simp only[dj,o,h,aS];rfl
 by_cases m:s.getD 1 0=120
 .have e:=all m rfl
  by_cases q:s.length<4
  .have p:decide ((s.length:Int)<4)=true:=by simp;omega
   simp only[n,p,xN (k:=92) d rfl,xN (k:=60) g rfl,xN (k:=123) a rfl,xN (k:=110) f rfl,xN (k:=116) j rfl,Wq (k:=120) m rfl,W,seval,-Int.reduceLE]
   repeat refine aC l ?_
   refine aO (.inr rfl) rfl ⟨?_,rfl⟩;rw[e,az q];rfl
  have p:decide ((s.length:Int)<4)=false:=by simp;omega
  rw[an q]at e;simp only[n,p,xN (k:=92) d rfl,xN (k:=60) g rfl,xN (k:=123) a rfl,xN (k:=110) f rfl,xN (k:=116) j rfl,Wq (k:=120) m rfl,W,seval,-Int.reduceLE]
  repeat refine aC l ?_
  refine⟨by omega,?_⟩;refine aw (abf (s.getD 2 0) _) rfl ?_;simp only[Int.reduceToNat,W,seval];refine⟨by omega,?_⟩;refine aw (abf (s.getD 3 0) _) rfl ?_;simp only[TX,W,seval,-Int.reduceLE];refine⟨by omega,?_⟩;refine bB (by simp only[W,seval];rfl) (λ_=>s5 (fQ (s.getD 2 0) (s.getD 3 0)) _) rfl ?_;simp only[W,seval];refine aO (.inr rfl) rfl ⟨?_,rfl⟩;rw[e];simp only[Pm.one,aA,aR];rw[<- Fp];rfl
 .simp only[n,xN (k:=92) d rfl,xN (k:=60) g rfl,xN (k:=123) a rfl,xN (k:=110) f rfl,xN (k:=116) j rfl,xN (k:=120) m rfl,W,seval,-Int.reduceLE]
  repeat refine aC l ?_
  refine aO (.inr rfl) rfl ⟨?_,rfl⟩;have e:dj s=(0,0,false):=by simp[dj,o,<- List.getD_eq_getElem?_getD,d,g,a,f,j,m]
  rw[e];rfl
def adM{J:ak}{K:bl}(s:aG)(d:s.length<4):∀(rest pre:aG) (n:Int),s=pre++rest->0<=n->n<10^pre.length ->
  (rest.all cQ=true->((fj 4 (fh (.I (cR n rest)) (fj 41 fo))) λi=>K (.exit 0) ⟨i,J⟩)) ->
  (rest.all cQ=false->((fj 2 (fh (.I 0) (fh (.b false) (fj 42 fo)))) λi=>K .ret ⟨i,J⟩)) ->
  fm J.length prog NL K (rest.length+1) ⟨(.s s::uu 3 (.I n::.I pre.length::uu 40 [])),J⟩:=by
 intro rest
 induction rest with
 |nil =>
  intro pre n e q l g f;have e:=cN e
  subst e;refine ar λR k=>?_;simp only[NL,W,seval];exact⟨λh=>by simp at h,λ_=>g rfl ..⟩
 |cons c rest ih =>
  intro pre n e q l g f;subst e;refine ar λR k=>?_;simp only[NL,W,seval]
  have a:cQ c=!(decide ((c.toNat:Int)<48)||decide (57<(c.toNat:Int))):=by
   rw[cB];simp[cQ];omega
  refine⟨λ_=>⟨by simp;omega,λ_=>by simp;omega,λh=>?_,λh=>⟨by simp;omega,?_⟩⟩,λh=>by simp at h<;>omega⟩
  .rw[h]at a;exact f (by simp[a]) ..
  .rw[h]at a;have a:cQ c=true:=a;have u:pre.length<3:=by simp at d;omega
   have p:(10:Int)^pre.length<=10^2:=by
    have:pre.length=0\/pre.length=1\/pre.length=2:=by omega
    rcases this with h|h|h<;>rw[h]<;>decide
   have o:=a;simp only[cQ,aJ,aV]at o;have t:n<100:=Int.lt_of_lt_of_le l (by simpa using p)
   have m:IntKind.i64.wrap (IntKind.i64.wrap (10*n)+IntKind.i64.wrap (IntKind.u8.wrap ((c.toNat:Int) - 48)))=10*n+(c.toNat - 48:Int):=by
    rw[Zd c a,IntWalk.i64_in (10*n) (by omega),IntWalk.i64_in ((c.toNat:Int) - 48) (by omega),IntWalk.i64_in _ (by omega)]
   have r:cR n (c::rest)=cR (10*n+(c.toNat - 48:Int)) rest:=rfl;have j:(c::rest).all cQ=rest.all cQ:=by simp[a]
   rw[r,j]at g;rw[j]at f;refine k _ (aK ?_ (ih (pre++[c]) (10*n+(c.toNat - 48:Int)) (by simp) (by omega) ?_ g f))
   .rw[m,cm (by simp at d;omega)];simp only[aj,ai,al]
    repeat' constructor
   .simp only[aj,ai,al,Int.pow_succ];omega
def FH(s:aG)(J:ak):bM prog 211 [.s s] J (.iQ [.I (awn s).1,.b (awn s).2]):=by
 refine aZ func211 alk.2 λm j=>au ?_;simp only[alk,SS,seval]
 by_cases a:s.length<1\/3<s.length\/s.getD 0 0=48
 .have e:awn s=(0,false):=by simp only[awn,a,aT]
  have d:((decide ((s.length:Int)<1)||decide (3<(s.length:Int)))||(((s.getD 0 0).toNat:Int)==48))=true:=by
   rcases a with h|h|h
   .simp;omega
   .simp;omega
   .rw[Wq (k:=48) h rfl];simp
  simp only[Int.reduceToNat,d,W,seval];refine⟨λh=>?_,aO (.inr rfl) rfl ⟨by rw[e];rfl,rfl⟩⟩;simp at h;omega
 .have f:¬s.length<1/\¬3<s.length/\¬s.getD 0 0=48:=by
   refine⟨λh=>a (.inl h),λh=>a (.inr (.inl h)),λh=>a (.inr (.inr h))⟩
  have d:((decide ((s.length:Int)<1)||decide (3<(s.length:Int)))||(((s.getD 0 0).toNat:Int)==48))=false:=by
   rw[xN (k:=48) f.2.2 rfl];simp;omega
  simp only[d,W,seval];refine⟨λ_=>by omega,?_⟩;refine bZ.aK ?_ (s.length+1) (adM s (by omega) s [] 0 rfl (dJ _) (by decide) (λc=>?_) (λc=>?_))
  .repeat' constructor
  .simp only[JE];intros;simp only[W,seval];refine aO (.inr rfl) rfl ⟨?_,rfl⟩;have l:=zK s 0 s.length rfl c (dJ _)
   have i:(10:Int)^s.length<=10^3:=by
    have:s.length=1\/s.length=2\/s.length=3:=by omega
    rcases this with h|h|h<;>rw[h]<;>decide
   have g:cR 0 s<=999:=by omega
   have e:awn s=(cR 0 s,true):=by simp only[awn,an a,c,aT]
   rw[e];simp[Pm.one,g]
  .simp only[JE];intros;refine aO (.inr rfl) rfl ⟨?_,rfl⟩;have e:awn s=(0,false):=by simp only[awn,an a,c];rfl
   rw[e];rfl
def ag2(s:aG)(J:ak):bM prog 158 [.s s] J (.iQ [.agg (iL s).1.awa,.b (iL s).2]):=by
 refine aZ func158 alW.2 λg r=>au ?_;have n:=Dj (r 0 _ rfl).1;simp only[alW,SS,seval];simp only[VV,seval];refine aw (ON s [47] _) rfl ?_;simp only[VV,seval];refine⟨λj=>?_,λj=>?_⟩
 .have z:1<=s.length:=by
   simp only[aws,aJ,aV]at j;simpa using j.1
  have o:(s.drop 1).take (s.length - 1)=s.drop 1:=by
   rw[bW];simp
  refine⟨by omega,?_⟩;refine aw (Kq (s.drop 1) 58 _) (by simp only[aH,bR,VV,seval];rw[o]) ?_;simp only[VV,seval];generalize k:cutAt (s.drop 1) 58=q;obtain⟨a,b,f⟩:=q;refine bB (c:=false) (v:=.b false) (by simp only[VV,seval]<;>rfl) (nofun) rfl ?_;simp only[VV,seval];refine aw (FH a _) rfl ?_;simp only[VV,seval];cases f with
  |false =>
   have e:iL s=(⟨0,[],0⟩,false):=by unfold iL;simp only[j,aT,k];simp
   simp only[VV,seval];rw[e];exact bg g (.inr rfl) (by simp only[RS,seval];rfl) (by simp[LW]) ⟨rfl,rfl⟩
  |true =>
   simp only[VV,seval];refine⟨λh=>?_,λh=>?_⟩
   .have h:(awn a).2=false:=by simpa using h
    have e:iL s=(⟨0,[],0⟩,false):=by unfold iL;simp only[j,aT,k];simp[h]
    rw[e];exact bg g (.inr rfl) (by simp only[RS,seval];rfl) (by simp[LW]) ⟨rfl,rfl⟩
   .have h:(awn a).2=true:=by simpa using h
    have e:iL s=(⟨3,b,(awn a).1⟩,awj b):=by unfold iL;simp only[j,aT,k];simp[h]
    rw[e];refine aw (pH b _) rfl ?_;simp only[VV,seval];exact bg g (.inr rfl) (by simp only[RS,seval];rfl) (by simp[LW]) ⟨rfl,rfl⟩
 .refine aw (Kq s 58 _) rfl ?_;simp only[VV,seval];generalize k:cutAt s 58=q;obtain⟨a,b,f⟩:=q;refine bB (c:=true) (by simp only[VV,seval]<;>rfl) (λh=>OM b [47] _) rfl ?_;simp only[VV,seval]
  have i:∀(d:Int) (content:aG),d≠3->iL s=(if f&&(awn a).2 then(⟨d,content,(awn a).1⟩,if d=3 then awj content else cV content)else(⟨0,[],0⟩,false)) ->
    (((f=false)\/(awn a).2=false)->iL s=(⟨0,[],0⟩,false))/\(f=true->(awn a).2=true->iL s=(⟨d,content,(awn a).1⟩,cV content)):=by
   intro d content u e;rw[e];refine⟨?_,?_⟩
   .rintro(h|h)<;>rw[h]<;>simp
   .intro w m;simp[w,m,u]
  refine⟨λl=>?_,λl=>?_⟩
  .have y:1<=b.length:=by
    simp only[awt,aJ,aV]at l;simpa using l.1
   have p:b.length<2^63:=by
    have:b=(cutAt s 58).2.1:=by rw[k]
    have m:b.length<=s.length:=by
     rw[this];simp only[cutAt];split<;>simp
    omega
   have x:IntKind.i64.wrap ((b.length:Int) - 1)=((b.length - 1:Nat):Int):=by rw[IntWalk.i64_in _ (by omega)];omega
   have t:=i 4 (b.take (b.length - 1)) (by decide) (by unfold iL;simp[j,k,l]);simp only[x,ao,VV,seval];refine⟨by omega,?_⟩;refine aw (FH a _) rfl ?_;simp only[VV,seval];cases f with
   |false =>
    simp only[VV,seval];rw[t.1 (.inl rfl)];exact bg g (.inr rfl) (by simp only[RS,seval];rfl) (by simp[LW]) ⟨rfl,rfl⟩
   |true =>
    simp only[VV,seval];refine⟨λh=>?_,λh=>?_⟩
    .have h:(awn a).2=false:=by simpa using h
     rw[t.1 (.inr h)];exact bg g (.inr rfl) (by simp only[RS,seval];rfl) (by simp[LW]) ⟨rfl,rfl⟩
    .have h:(awn a).2=true:=by simpa using h
     rw[t.2 rfl h];refine aw (uK _ _) rfl ?_;simp only[VV,seval];refine bg g (.inr rfl) (by simp only[RS,seval];rfl) (by simp[LW]) ⟨rfl,rfl⟩
  .have t:=i 2 b (by decide) (by unfold iL;simp[j,k,l]);refine aw (FH a _) rfl ?_;simp only[VV,seval];cases f with
   |false =>
    simp only[VV,seval];rw[t.1 (.inl rfl)];exact bg g (.inr rfl) (by simp only[RS,seval];rfl) (by simp[LW]) ⟨rfl,rfl⟩
   |true =>
    simp only[VV,seval];refine⟨λh=>?_,λh=>?_⟩
    .have h:(awn a).2=false:=by simpa using h
     rw[t.1 (.inr h)];exact bg g (.inr rfl) (by simp only[RS,seval];rfl) (by simp[LW]) ⟨rfl,rfl⟩
    .have h:(awn a).2=true:=by simpa using h
     rw[t.2 rfl h];refine aw (uK _ _) rfl ?_;simp only[VV,seval];refine bg g (.inr rfl) (by simp only[RS,seval];rfl) (by simp[LW]) ⟨rfl,rfl⟩
def Um(s:aG)(p:s≠[])(J:ak):bM prog 99 [.s s] J (.iQ [.agg (aX s).1.awa,.I (aX s).2.1,.b (aX s).2.2]):=by
 refine aZ func99 p99.2 λi n=>au ?_;have m:=Dj (n 0 _ rfl).1;have t:0<s.length:=cT.2 p;have d:(0:Int)<=0/\(0:Int)<s.length:=by omega
 simp only[p99,SS,seval]
 by_cases a:s.getD 0 0=92
 .have e:aX s=(⟨1,[(dj s).1],0⟩,(dj s).2.1,(dj s).2.2):=by simp only[aX,a,aT]
  rw[e];simp only[Wq (k:=92) a rfl,VV,seval,-Int.reduceLE];refine⟨d,?_⟩;refine aw (Yi s _) rfl ?_;simp only[VV,seval];exact bg i (.inr rfl) (by simp only[RS,seval];rfl) (by simp[LW]) ⟨rfl,rfl⟩
 have q:=a
 by_cases g:s.getD 0 0=60
 .simp only[xN (k:=92) a rfl,Wq (k:=60) g rfl,VV,seval,-Int.reduceLE];refine⟨d,d,?_⟩;refine aw (zz s 62 _) rfl ?_;have o:=mL s 62;simp only[VV,seval];refine⟨λh=>?_,λh=>?_⟩
  .have h:Lib.indexByte s 62<0:=by simpa using h
   have e:aX s=(gH,0,false):=by simp only[aX];rw[an a,az g];simp only[h,aT,aS]
   rw[e];exact bg i (.inr rfl) (by simp only[RS,seval];rfl) (by simp[LW]) ⟨rfl,rfl⟩
  .have h:¬Lib.indexByte s 62<0:=by simpa using h
   have r:=lW s 62 (by rw[g];decide) h;have e:aX s=((iL ((s.take (Lib.indexByte s 62).toNat).drop 1)).1,Lib.indexByte s 62+1,(iL ((s.take (Lib.indexByte s 62).toNat).drop 1)).2):=by simp only[aX];rw[an a,az g];simp only[h,aT,aS]
   rw[e];refine⟨by omega,?_⟩;have j:(s.drop 1).take ((Lib.indexByte s 62).toNat - 1)=(s.take (Lib.indexByte s 62).toNat).drop 1:=by rw[Da]
   refine aw (ag2 _ _) (by simp only[aH,bR,VV,seval];rw[j]) ?_;simp only[It.awa,VV,seval];refine bg i (.inr rfl) (by simp only[RS,seval];rfl) (by simp[LW]) ⟨?_,rfl⟩;simp only[Pm.one,aA,aR];rw[IntWalk.i64_in _ (by omega)]
 by_cases f:s.getD 0 0=123
 .simp only[xN (k:=92) a rfl,xN (k:=60) g rfl,Wq (k:=123) f rfl,VV,seval,-Int.reduceLE];refine⟨d,d,d,?_⟩;refine aw (zz s 125 _) rfl ?_;have o:=mL s 125;simp only[VV,seval]
  by_cases h:Lib.indexByte s 125<0
  .have e:aX s=(gH,0,false):=by simp only[aX];rw[an a,an g,az f];simp only[h,Ff,aT]
   have l:decide (Lib.indexByte s 125<0)=true:=by simpa using h
   rw[e];simp only[l,VV,seval];refine⟨nofun,?_⟩;refine bB (c:=false) (v:=.b false) (by simp only[VV,seval]<;>rfl) (nofun) rfl ?_;simp only[VV,seval];exact bg i (.inr rfl) (by simp only[RS,seval];rfl) (by simp[LW]) ⟨rfl,rfl⟩
  .have l:decide (Lib.indexByte s 125<0)=false:=by simpa using h
   have r:=lW s 125 (by rw[f];decide) h;have e:aX s=if awj ((s.take (Lib.indexByte s 125).toNat).drop 1)=false then(gH,0,false)else(⟨5,(s.take (Lib.indexByte s 125).toNat).drop 1,0⟩,Lib.indexByte s 125+1,true):=by simp only[aX];rw[an a,an g,az f];simp only[h,nk]
   have j:(s.drop 1).take ((Lib.indexByte s 125).toNat - 1)=(s.take (Lib.indexByte s 125).toNat).drop 1:=by rw[Da]
   rw[e];simp only[l,j,VV,seval];refine⟨by omega,?_⟩;refine bB (c:=true) (by simp only[VV,seval]<;>rfl) (λ_=>pH ((s.take (Lib.indexByte s 125).toNat).drop 1) _) rfl ?_;simp only[VV,seval];refine⟨λh=>?_,λh=>?_⟩
   .have h:awj ((s.take (Lib.indexByte s 125).toNat).drop 1)=false:=by simpa using h
    rw[az h];exact bg i (.inr rfl) (by simp only[RS,seval];rfl) (by simp[LW]) ⟨rfl,rfl⟩
   .have h:¬awj ((s.take (Lib.indexByte s 125).toNat).drop 1)=false:=by simpa using h
    rw[an h];simp only[j,VV,seval];refine⟨by omega,?_⟩;refine bg i (.inr rfl) (by simp only[RS,seval];rfl) (by simp[LW]) ⟨?_,rfl⟩;simp only[Pm.one,aA,aR];rw[IntWalk.i64_in _ (by omega)];rfl
 .have e:aX s=(⟨1,s.take 1,0⟩,1,qM (s.getD 0 0)):=by simp only[aX,a,g,f,aS]
  rw[e];simp only[xN (k:=92) a rfl,xN (k:=60) g rfl,xN (k:=123) f rfl,VV,seval,-Int.reduceLE];refine⟨d,d,d,by omega,d,?_⟩;refine aw (Qu (s.getD 0 0) _) rfl ?_;simp only[VV,seval];exact bg i (.inr rfl) (by simp only[RS,seval];rfl) (by simp[LW]) ⟨rfl,rfl⟩
def sO(n g1 g2:Nat)(s:Rd):ak :=
 [.map 3 61 (yg s.tags),.box 142 [.own (n+2) g1,.own (n+3) g2,.I s.len,.mp n],.row 61 3 32 g1 false (s.f.map It.awa),.row 5 1 1 g2 false (gp s.awd)]
def WW(n g1 g2:Nat)(s:Rd)(o:Ob)(x:It):ak :=
 [.map 3 61 (yg s.tags),.box 142 [.own (n+2) g1,.own (n+3) g2,.I s.len,.mp n],.row 61 3 32 g1 false (s.f.map It.awa),.row 5 1 1 g2 false (gp s.awd),o,.box 61 [.I x.awb,.s x.awd,.I x.id]]
def RN(s:Rd)(g1 g2:Nat)(d:s.f.length<2^40)(J ext:ak):PC prog 101 [.ptr (J.length+1) 0] (J++(sO J.length g1 g2 s++ext)) (λr J'=>r=.iQ []/\∃b a,J'=J++(sO J.length b a (ig s)++ext)):=by
 refine aZ func101 amw.2 λi g=>au ?_;simp only[amw,SS,seval];simp only[sO,W,seval];simp only[il,sf,W,seval];refine⟨λh=>⟨?_,?_⟩,λh=>?_⟩
 .simp[maxLen];omega
 .have h:0<s.awd.length:=by simpa using h
  have e:ig s=⟨s.f++[⟨1,s.awd,0⟩],[],s.len,s.tags⟩:=by simp[ig,h]
  have c:s.f.map It.awa++[[.I 1,.s s.awd,.I 0]]=(s.f++[(⟨1,s.awd,0⟩:It)]).map It.awa:=by simp[It.awa]
  rw[c];refine fH (xs:=[]) (xs':=[]) (.inl rfl) rfl (Wk.akc (id:=J.length+1) (j:=1) (idr:=J.length+3) (by simp only[W,seval];rfl) rfl (by simp only[W,seval];rfl)) rfl ⟨rfl,g1+1,g2+1,?_⟩;simp only[sO,e,W,seval];rfl
 .have h:¬0<s.awd.length:=by simpa using h
  have e:ig s=s:=by simp[ig,h]
  rw[e];exact fH (xs:=[]) (.inl rfl) rfl (Wk.refl _ _) rfl ⟨rfl,g1,g2,rfl⟩
def ajj(s:Rd)(x:It)(g1 g2:Nat)(L:s.f.length<2^40)(ht:s.awd.length+x.awd.length<2^40)(hl:s.len<2^40)(J:ak)(o:Ob):PC prog 100 [.ptr (J.length+1) 0,.agg x.awa] (J++(sO J.length g1 g2 s++[o]))
  (λr J'=>r=.I (lG s x).1/\∃d g,J'=J++(sO J.length d g (lG s x).2++[o])):=by
 refine aZ func100 arw λy dN=>?_;simp only[amx,SS,seval];have Q:∀t,ek (J++(.map 3 61 (yg s.tags))::t) 0 (.mp J.length) (.I x.id)=gV 0 (.I x.id) (yg s.tags) 0:=λt=>by simp only[ek,jX,aM]
 refine bZ.cut λR a=>?_;simp only[sO,It.awa,bJ,bc,W,seval];refine a _ ?_;clear a R;refine bZ.cut λR a=>?_;simp only[W,seval];refine a _ (bZ.fg (fr':=(.ptr (J.length+1) 0::uu 2 (.ptr (J.length+5) 0::.I 0::.b (tagged x)::uu 117 []))) ?_ ?_)
 rotate_left
 .simp only[tagged]
  repeat' constructor
 clear a R;have B:=Yr y (id:=J.length+4) (o:=o) (n:=J.length+5) (by rw[aU (by omega),fF];rfl) (by simp[sO])
 have H:∀(g1 g2:Nat) (s:Rd),cn (J++(sO J.length g1 g2 s++[o])):=λg1 g2 s =>
  Hb y (aD _) (by
   simp only[sO,mC,ai,al,gw,Gt,implies_true,kP,gA,bJ,bc,Bg];exact⟨by simp only[LW];omega,by cases o<;>exact B⟩)
 have E:∀(g1 g2:Nat) (s:Rd),cn (J++WW J.length g1 g2 s o x):=λg1 g2 s =>
  Hb y (by simp[sO,WW]) (by
   simp only[WW,mC,ai,al,gw,Gt,implies_true,kP,gA,Bg];have M:=B.mono (Nat.le_succ _);exact⟨by simp only[LW];omega,by cases o<;>exact M,by simp only[LW]⟩)
 have l:∀{fr:aB} {n:Nat} (e:Int) (F:Rd) (d g:Nat) {loc:ak},n<=J.length+5->lG s x=(e,F)->fr.getD 4 u=.I e->rG prog n [.t 4] (λr J'=>r=.I (lG s x).1/\∃d g,J'=J++(sO J.length d g (lG s x).2++[o])) .ret ⟨fr,J++((sO J.length d g F++[o])++loc)⟩:=by
  intro fr n e F d g loc hn P L;rw[<- List.append_assoc];refine fH (xs:=[.I e]) (.inr rfl) (by simp only[ni,xr,L]) (Wk.A2 (by simpa[sO]using hn) (H _ _ _) (gZ.1 (by simp[LW]))) rfl ⟨by rw[P];rfl,d,g,by rw[P]⟩
 refine bZ.cut λR a=>?_
 have G:∀{fr:aB} {loc:ak},oJ fr (.ptr (J.length+1) 0::uu 2 (.ptr (J.length+5) 0::.I 0::.b (tagged x)::uu 117 []))->¬(tagged x&&vT s x)=true->R ⟨fr,J++(WW J.length g1 g2 s o x++loc)⟩:=by
  intro fr loc m D;refine a _ (bZ.drop _ _ (by simp[sO,WW]) (E g1 g2 s) m (by simp[LW,WW]) ?_);clear a R;refine bZ.cut λR a=>?_;simp only[WW,W,seval];refine a _ ?_;clear a R;refine bZ.cut λR a=>?_;simp only[WW,ag,il,VV,seval]
  have A:∀{fr:aB},oJ fr (.ptr (J.length+1) 0::uu 2 (.ptr (J.length+5) 0::.I 0::.b (tagged x)::uu 2 (.I ((s.f.length+(if 0<s.awd.length then 1 else 0):Nat):Int)::uu 114 [])))->R ⟨fr,J++WW J.length g1 g2 s o x⟩:=by
   intro fr m;refine a _ (bZ.fg ?_ m);clear a R;refine bZ.cut λR a=>?_;simp only[WW,ag,il,VV,seval]
   have N:∀{fr:aB},oJ fr (.ptr (J.length+1) 0::uu 2 (.ptr (J.length+5) 0::.I 0::.b (tagged x)::uu 2 (.I ((mQ s x:Nat):Int)::uu 114 [])))->R ⟨fr,J++WW J.length g1 g2 s o x⟩:=by
    intro fr m;refine a _ (bZ.fg ?_ m);clear a R;have z:IntKind.i64.wrap ((s.len:Int)+1)=((s.len+1:Nat):Int):=cm (by omega);refine bZ.cut λR a=>?_;simp only[WW,z,VV,seval];refine⟨λh=>?_,λh=>?_⟩
    .have j:512<mQ s x\/1024<s.len+1:=by
      simp at h;omega
     have e:lG s x=(3,s):=by simp only[lG,D,j,aT];rfl
     exact l 3 s g1 g2 (loc:=[_]) (by simp[sO]) e (by rfl)
    .have j:¬(512<mQ s x\/1024<s.len+1):=by
      simp at h;omega
     refine a _ ?_;clear a R;refine bZ.cut λR a=>?_;simp only[z,VV,seval];refine a _ ?_;clear a R;refine bZ.cut λR a=>?_;simp only[VV,seval];refine⟨λp=>⟨⟨by simp only[il];omega,by simp only[il,maxLen];omega⟩,?_⟩,λp=>?_⟩
     .have p:x.awb=1:=by simpa using p
      have e:lG s x=(0,⟨s.f,s.awd++x.awd,s.len+1,s.tags⟩):=by simp only[lG,D,j,p,aT,aS];rfl
      rw[nc];exact l 0 ⟨s.f,s.awd++x.awd,s.len+1,s.tags⟩ g1 (g2+1) (loc:=[_]) (by simp[sO]) e (by rfl)
     .have p:¬x.awb=1:=by simpa using p
      have e:lG s x=(0,Ax (ig (rf s x)) x):=by simp only[lG,D,j,p,aT,aS];rfl
      refine a _ (bZ.fg (fr':=(.ptr (J.length+1) 0::uu 2 (.ptr (J.length+5) 0::.I 0::.b (tagged x)::uu 117 []))) ?_ (by repeat' constructor));clear a R;refine bZ.cut λR a=>?_
      have O:∀{fr:aB},oJ fr (.ptr (J.length+1) 0::uu 2 (.ptr (J.length+5) 0::.I 0::uu 118 []))->R ⟨fr,J++WW J.length g1 g2 (rf s x) o x⟩:=by
       intro fr m;refine a _ (bZ.fg ?_ m);clear a R;refine bZ.cut λR a=>?_;simp only[W,seval];refine cD (RN (rf s x) g1 g2 L J [o,.box 61 [.I x.awb,.s x.awd,.I x.id]]) rfl ?_;rintro r J' ⟨rfl,g3,U,rfl⟩;simp only[W,seval];refine a _ (bZ.fg (fr':=(.ptr (J.length+1) 0::uu 2 (.ptr (J.length+5) 0::.I 0::uu 118 []))) ?_ (by repeat' constructor));clear a R;refine au ?_
       have aa:(ig (rf s x)).f.length<=s.f.length+1:=by
        simp only[ig];split<;>simp[rf]
       simp only[sO,VV,seval];refine⟨?_,?_⟩
       .simp[maxLen];omega
       .have Y:(ig (rf s x)).f.map It.awa++[[.I x.awb,.s x.awd,.I x.id]]=(Ax (ig (rf s x)) x).f.map It.awa:=by simp[It.awa,Ax]
        rw[Y];exact l 0 (Ax (ig (rf s x)) x) (g3+1) U (loc:=[_]) (by simp[sO]) e (by rfl)
      cases i:tagged x with
      |true =>
       rcases GQ s.tags x.id with⟨w,q,C⟩|⟨k,b,w,q,C⟩
       all_goals
        have X:yg (rf s x).tags=yg (iZ s.tags x.id x):=by simp only[rf,i,aT]
        simp only[i,q,eS,VV,seval];have S:=C x;simp only[uv,It.awa]at S;rw[S,<- X];refine⟨by simp[V.yf,V.lO,V.cell,V.pure],?_⟩;refine O (by repeat' constructor)
      |false =>
       simp only[i,VV,seval];have:=O (fr:=(.ptr (J.length+1) 0::uu 2 (.ptr (J.length+5) 0::.I 0::.b false::uu 97 (.b false::uu 19 [])))) (by repeat' constructor);simp only[rf,i]at this;exact this
   have Z:IntKind.i64.wrap (((s.f.length+(if 0<s.awd.length then 1 else 0):Nat):Int)+1)=((s.f.length+(if 0<s.awd.length then 1 else 0)+1:Nat):Int):=cm (by split<;>omega);refine⟨λh=>?_,λh=>?_⟩
   .have j:x.awb≠1\/s.awd.length=0:=by simpa using h
    have e:mQ s x=s.f.length+(if 0<s.awd.length then 1 else 0)+1:=by simp only[mQ,j,aT]
    refine N ?_;rw[Z,e];repeat' constructor
   .have j:¬(x.awb≠1\/s.awd.length=0):=by simpa using h
    have e:mQ s x=s.f.length+(if 0<s.awd.length then 1 else 0):=by simp only[mQ,j,aS];rfl
    refine N ?_;rw[e];repeat' constructor
  refine⟨λh=>?_,λh=>?_⟩
  .have j:0<s.awd.length:=by simpa using h
   refine A ?_;rw[cm (by omega),az j];repeat' constructor
  .have j:¬0<s.awd.length:=by simpa using h
   refine A ?_;rw[an j];repeat' constructor
 have K:(tagged x&&vT s x)=true->lG s x=(7,s):=λh=>by simp[lG,h]
 cases i:tagged x with
 |false =>
  simp only[i,VV,seval];exact G (loc:=[]) (by rw[i];repeat' constructor) (by simp[i])
 |true =>
  rcases GQ s.tags x.id with⟨w,q,C⟩|⟨k,b,w,q,C⟩
  .simp only[i,Q,q,uv,VV,seval];refine⟨by simp[V.yf],by simp[V.yf],bB (c:=false) (v:=.s []) (by simp only[VV,seval]<;>rfl) (nofun) rfl ?_⟩;simp only[VV,seval];refine G (loc:=[_]) (by rw[i];repeat' constructor) (by simp[vT,w])
  .simp only[i,Q,q,uv,It.awa,VV,seval];refine⟨by simp[V.yf],by simp[V.yf],bB (by simp only[VV,seval]<;>rfl) (λ_=>Hm b.awd _) rfl ?_⟩;simp only[VV,seval];have y:vT s x=(x.awb != 3||b.awb != 2||cW b.awd != x.awd):=by simp only[vT,w]
   have T:(!cW b.awd==x.awd)=(cW b.awd != x.awd):=rfl;rw[T,<- y];refine⟨λh=>?_,λh=>?_⟩
   .exact l 7 s g1 g2 (loc:=[_,_]) (by simp[sO]) (K (by simp[i,h])) (by rfl)
   .exact G (loc:=[_]) (by rw[i];repeat' constructor) (by simp[i,h])
def Yq{J:ak}(a:cn J)(g1 g2:Nat)(r:Rd):cn (J++sO J.length g1 g2 r):=cC a (by
 simp only[sO,mC,ai,al,gw,Gt,implies_true,kP,gA,Bg];simp only[LW];omega)
def aav{J:ak}{K:bl}(s:aG)(m:cn J)(a:s.length<2^39):
  ∀(n:Nat) (rest pre:aG) (r:Rd) (g1 g2:Nat),s=pre++rest->rest.length<n->r.ok ->
  (∀i,nV n r rest pre.length=((ig i).f,0,0)->i.ok->∀g1 g2,((fj 5 (fh (.ptr (J.length+1) 0) (fj 33 fo))) λj=>K (.exit 0) ⟨j,J++sO J.length g1 g2 i⟩)) ->
  (∀g e,nV n r rest pre.length=([],g,e)->∀loc,((fj 2 (fh (.nil) (fh (.I g) (fh (.I e) (fj 34 fo))))) λj=>K .ret ⟨j,J++loc⟩)) ->
  fm J.length prog Vg K n ⟨(.s s::uu 2 (.I pre.length::uu 1 (.ptr (J.length+1) 0::uu 33 []))),J++sO J.length g1 g2 r⟩
 |0,rest,pre,r,g1,g2,d,hn,hr,h1,h2=>by omega
 |n+1,[],pre,r,g1,g2,d,hn,hr,h1,h2=>by
  have d:=cN d
  subst d;refine ar λR p=>?_;simp only[Vg,W,seval];exact⟨λh=>by simp at h,λ_=>h1 r rfl hr g1 g2 ..⟩
 |n+1,c::rest,pre,r,g1,g2,d,hn,hr,h1,h2=>by
  subst d;have q:(pre++c::rest).drop pre.length=c::rest:=by simp
  have t:((pre++c::rest).drop pre.length).take ((pre++c::rest).length - pre.length)=c::rest:=by rw[q,bW];simp
  have l:=od (s:=c::rest) (by simp);have D:pre.length+(c::rest).length<2^39:=by rw[<- List.length_append];exact a
  refine ar λR p=>?_;simp only[Vg,W,seval];refine⟨λ_=>⟨by simp;omega,?_⟩,λh=>by simp at h<;>omega⟩;refine aw (Um (c::rest) (by simp) _) (by simp only[aH,bR,ao,VV,seval];rw[t]) ?_;simp only[It.awa,VV,seval];refine⟨λh=>?_,λh=>?_⟩
  .have h:(aX (c::rest)).2.2=false:=by simpa using h
   exact h2 pre.length 2 (by simp only[nV,h,aT]) ..
  .have h:(aX (c::rest)).2.2=true:=by simpa using h
   have F:=l.2.2 h;have E:=l.1;have ok:=hr;obtain⟨x,B,G⟩:=hr;have y:r.f.length<=r.len:=by split at x<;>omega
   refine cD (ajj r (aX (c::rest)).1 g1 g2 (by omega) (by omega) (by omega) J _) rfl ?_
   .rintro v C ⟨rfl,A,w,rfl⟩;simp only[VV,seval];refine⟨λb=>?_,λb=>?_⟩
    .have b:(lG r (aX (c::rest)).1).1≠0:=by simpa using b
     exact h2 pre.length _ (by simp only[nV,h];rw[an (by simp),az b]) ..
    .have b:(lG r (aX (c::rest)).1).1=0:=by simpa using b
     have u:=ZH ok l.2.1 b;obtain⟨k,o⟩:∃k:Nat,(aX (c::rest)).2.1=k:=⟨(aX (c::rest)).2.1.toNat,by omega⟩
     have e:nV (n+1) r (c::rest) pre.length=nV n (lG r (aX (c::rest)).1).2 ((c::rest).drop k) ((pre++(c::rest).take k).length:Nat):=by
      simp only[nV,h];rw[an (by simp),an (by simp[b]),o];simp only[ao,aj,aP];congr 1;omega
     rw[e]at h1 h2;refine p _ (cG _ _ (Yq m _ _ _) ?_ ?_ (aav _ m a n ((c::rest).drop k) (pre++(c::rest).take k) (lG r (aX (c::rest)).1).2 A w (by rw[bk,dZ]) (by simp only[bA];simp at hn |-;omega) u h1 h2))
     .have z:(((pre++(c::rest).take k).length:Nat):Int)=(pre.length:Int)+k:=by
       rw[aj,aP,show min k (c::rest).length=k by omega];omega
      rw[o,IntWalk.i64_in _ (by omega),z]
      repeat' constructor
     .simp only[LW];simp[sO]
def ZG{n:Nat}{xs:aB}{J:ak}:Wk prog n xs (J++[.map 3 61 [],.box 142 [.nil,.nil,.I 0,.mp J.length]]) xs (J++sO J.length 0 0 IN):=by
 have a:=Wk.Kf (P:=prog) (n:=n) (xs:=xs) (id:=J.length+1) (j:=0) (J:=J++[.map 3 61 [],.box 142 [.nil,.nil,.I 0,.mp J.length]]) yX (by simp only[W,seval];rfl) rfl;simp only[W,seval]at a;have b:=Wk.Kf (P:=prog) (n:=n) (xs:=xs) (id:=J.length+1) (j:=1) (J:=J++[.map 3 61 [],.box 142 [.own (J.length+2) 0,.nil,.I 0,.mp J.length],.row 61 3 32 0 false []]) Zj (by simp only[W,seval];rfl) rfl;simp only[W,seval]at b;exact a.trans b
def pG(s:aG)(a:s.length<2^39)(J:ak):bM prog 45 [.s s] J (.iQ [.sl 3 ((parse s).1.map It.awa),.I (parse s).2.1,.I (parse s).2.2]):=by
 refine aZ func45 p45.2 λc n=>au ?_;simp only[p45,SS,seval];simp only[VV,seval];have g:parse s=nV (s.length+1) IN s (([]:aG).length:Nat):=rfl;refine bZ.wk (ZG.trans (Wk.fg (ys:=(.s s::uu 2 (.I (([]:aG).length:Nat)::uu 1 (.ptr (J.length+1) 0::uu 33 [])))) (by repeat' constructor))) (bZ.uh (s.length+1) (aav s c a (s.length+1) s [] IN 0 0 rfl (by omega) ⟨by simp[IN],by simp[IN],by simp[IN]⟩ ?_ ?_))
 .intro j b h i k;simp only[JE];intros;simp only[W,seval];refine cD (RN j i k (by have:=h.f;have:=h.len;split at*<;> omega) J []) (by simp[ev]) ?_;rintro r o ⟨rfl,p,m,rfl⟩;simp only[sO,bL,W,seval];refine mW 2 c (.inr rfl) rfl rfl ?_ ?_
  .simp[fz,oa,jP,GS,adB]
  .rw[g,b];simp[fz,oa,Pm.one]
 .intro d e b l;simp only[JE];intros;simp only[W,seval];refine kb c (.inr rfl) rfl (ys:=[.sl 3 [],.I d,.I e]) (.cons (.nil _) (.cons (.refl _) (.cons (.refl _) .nil))) (by simp[LW]) ⟨?_,rfl⟩;rw[g,b];rfl
end Go.Proofs.Tryz

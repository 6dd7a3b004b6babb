/- A part of a proof; the claim's last text says of what. -/
import Derived.Test.YtlakkaamfadipaaGreatDoorB30
import Derived.Test.YtlakkaamfadipaaGreatDoorO2
set_option linter.all false
set_option maxHeartbeats 2000000

namespace Go.Proofs.Tryz
open Go Go.Pm Go.Bt
def Jw{J:ak}{K:bl}(a:List It)(l:cn J)(d:a.length<2^63):∀(rest pre:List It),a=pre++rest ->
  (bQ pre rest=0->((fj 30 fo) λi=>K (.exit 0) ⟨i,J⟩))->(bQ pre rest≠0->((fj 2 (fh (.I (bQ pre rest)) (fj 27 fo))) λi=>K .ret ⟨i,J⟩)) ->
  fm J.length prog wP K (rest.length+1) ⟨(.sl 3 (a.map It.awa)::uu 13 (.I a.length::.I pre.length::uu 14 [])),J⟩:=by
 intro rest
 induction rest with
 |nil =>
  intro pre c g b;have c:=cN c
  subst c;refine ar λR j=>?_;simp only[wP,VV,seval];exact⟨λh=>by simp at h,λ_=>g rfl ..⟩
 |cons y rest ih =>
  intro pre c g b;subst c;refine ar λR j=>?_;have k:List.take pre.length (List.map It.awa (pre++y::rest))=pre.map It.awa:=by simp
  simp only[wP,It.awa,VV,seval];refine⟨λ_=>?_,λh=>by simp at h;omega⟩;refine⟨by simp;omega,by simp;omega,?_⟩;rw[k];refine aw (oU pre y _) rfl ?_;simp only[VV,seval];refine⟨λh=>?_,λh=>?_⟩
  .have f:cY pre y≠0:=by simpa using h
   have e:bQ pre (y::rest)=cY pre y:=by rw[kY,az f]
   rw[e]at b;exact b f ..
  .have f:cY pre y=0:=by simpa using h
   have e:bQ pre (y::rest)=bQ (pre++[y]) rest:=by rw[kY,f];simp
   rw[e]at g b;refine j _ (aK ?_ (ih (pre++[y]) (by simp) g b));rw[cm (by simp at d;omega)];simp only[aj,ai,al]
   repeat' constructor
def jo(a:List It)(J:ak):bM prog 46 [.sl 3 (a.map It.awa)] J (.I (cd a)):=by
 refine aZ func46 p46.2 λf e=>au ?_;have b:=mG (e 0 _ rfl).1;rw[ag]at b;simp only[p46,SS,seval];simp only[ag,VV,seval];refine bB (by simp only[VV,seval]<;>rfl) (λ_=>tG a _) rfl ?_;simp only[ag,VV,seval];refine⟨λh=>?_,λh=>?_⟩
 .refine aO (.inr rfl) (by simp only[RS,seval];rfl) ⟨?_,rfl⟩;simp at h;have:512<a.length\/1024<eQ 0 a:=by omega
  simp only[Pm.one,cd,this,aT,aA,aR]
 .simp at h;have d:¬(512<a.length\/1024<eQ 0 a):=by omega
  refine bZ.aK ?_ (a.length+1) (Jw a f b a [] rfl (λc=>?_) (λc=>?_))
  .simp only[VV,seval]
   repeat' constructor
  .simp only[JE];intros;simp only[VV,seval];exact aO (.inr rfl) (by simp only[RS,seval];rfl) ⟨by simp only[Pm.one,cd,d,c,aS,aA,aR],rfl⟩
  .simp only[JE];intros;simp only[VV,seval];exact aO (.inr rfl) (by simp only[RS,seval];rfl) ⟨by simp only[Pm.one,cd,d,aS,aA,aR],rfl⟩
def qu{n:Nat}(h:¬n<10):Lib.decDigits n=Lib.decDigits (n / 10)++[UInt8.ofNat (48+n % 10)]:=by
 rw[Lib.decDigits,YA h]
def tY{n:Nat}:UInt8.ofNat ((IntKind.u8.wrap (IntKind.i64.wrap (48+(n:Int).tmod 10))).toNat)=UInt8.ofNat (48+n % 10):=by
 have h:(n:Int).tmod 10=((n % 10:Nat):Int):=by rw[Dc (by omega)];rfl
 rw[h,IntWalk.i64_in _ (by omega)]
 have a:IntKind.u8.wrap (48+((n % 10:Nat):Int))=((48+n % 10:Nat):Int):=by
  rw[IntWalk.u8_in _ (by omega)];omega
 rw[a];rfl
def xh{n:Nat}(h:n<2^62):IntKind.i64.wrap ((n:Int).tdiv 10)=((n / 10:Nat):Int):=by
 have e:(n:Int).tdiv 10=((n / 10:Nat):Int):=by rw[eY (by omega)];rfl
 rw[e,IntWalk.i64_in _ (by omega)]
def Ec{J:ak}{K:bl}:∀(k n:Nat) (s:aG),n<10^(k+1)->n<2^62->s.length+k<2^40 ->
  (((fj 2 (fh (.s (Lib.decDigits n++s)) (fj 14 fo))) λf=>K .ret ⟨f,J⟩)) ->
  fm J.length prog oY K (k+1) ⟨(.I n::uu 2 (.s s::uu 13 [])),J⟩:=by
 have last:∀(k n:Nat) (s:aG),n<10->n<2^62->s.length+k<2^40->(((fj 2 (fh (.s (Lib.decDigits n++s)) (fj 14 fo))) λf=>K .ret ⟨f,J⟩)) ->
   fm J.length prog oY K (k+1) ⟨(.I n::uu 2 (.s s::uu 13 [])),J⟩:=by
  intro k n s d b c a;refine ar λR i=>?_;simp only[oY,xh b,tY,VV,Int.reduceBEq,Int.reduceBNe,Nat.reduceAdd,Nat.reduceSub,Nat.reduceLeDiff,Nat.reduceEqDiff,Int.reduceToNat,reduceIte,reduceCtorEq];rw[Lib.decDigits_one d]at a;have e:n % 10=n:=by omega
  have l:n / 10=0:=by omega
  rw[e,l];exact⟨by decide,by simp[maxLen];omega,by decide,λh=>a ..,nofun⟩
 intro k
 induction k with
 |zero=>intro n s g b c a;exact last 0 n s (by omega) b c a
 |succ k ih =>
  intro n s g b c a
  by_cases d:n<10
  .exact last (k+1) n s d b c a
  .rw[qu d,bk]at a;have j:n / 10<10^(k+1):=by rw[Nat.pow_succ]at g;omega
   refine ar λR i=>?_;simp only[oY,xh b,tY,VV,Int.reduceBEq,Int.reduceBNe,Nat.reduceAdd,Nat.reduceSub,Nat.reduceLeDiff,Nat.reduceEqDiff,Int.reduceToNat,reduceIte,reduceCtorEq];refine⟨by decide,by simp[maxLen];omega,by decide,λh=>by simp at h;omega,λh=>?_⟩;refine i _ (aK ?_ (ih (n / 10) (UInt8.ofNat (48+n % 10)::s) j (by omega) (by simp;omega) a))
   repeat' constructor
def rK(n:Nat)(a:n<2^62)(J:ak):bM prog 244 [.I n] J (.s (Lib.decDigits n)):=by
 refine aZ func244 QH.2 λc b=>au ?_;simp only[QH,SS,seval];simp only[VV,seval];refine bZ.aK ?_ 19 (Ec 18 n [] (by omega) a (by simp) ?_)
 .repeat' constructor
 .simp only[JE];intros;simp only[VV,seval];exact aO (.inr rfl) (by simp only[RS,seval];rfl) ⟨by simp[Pm.one],rfl⟩
def rL(n:Nat)(b:n<2^62)(J:ak):bM prog 204 [.I n] J (.s (Lib.itoa n)):=by
 refine aZ func204 QK.2 λf d=>au ?_;have c:decide ((n:Int)<0)=false:=by simp
 have a:(if(n:Int)<0 then(0:Int)else n)=n:=an (by omega);simp only[QK,SS,seval];simp only[c,a,VV,seval];refine aw (rK n b _) rfl ?_;simp only[VV,seval];refine aO (.inr rfl) (by simp only[RS,seval];rfl) ⟨?_,rfl⟩;have e:Lib.itoa (n:Int)=Lib.decDigits n:=by unfold Lib.itoa;rw[an (by omega)];rfl
 rw[e];rfl
def uX:∀c:UInt8,((((c.toNat:Int)==92||(c.toNat:Int)==60)||(c.toNat:Int)==123)=true->du c=[92,c]) /\
  ((((c.toNat:Int)==92||(c.toNat:Int)==60)||(c.toNat:Int)==123)=false->(((c.toNat:Int)==10)=true->du c=[92,110]) /\
  (((c.toNat:Int)==10)=false->(((c.toNat:Int)==9)=true->du c=[92,116]) /\
  (((c.toNat:Int)==9)=false->(((c.toNat:Int)==13||ei c==1)=true->du c=[92,120,gn (c.toNat / 16),gn (c.toNat % 16)]) /\
  (((c.toNat:Int)==13||ei c==1)=false->du c=[c])))):=eP (by decide +kernel)
def JR:∀c:UInt8,(0<=IntKind.u8.wrap ((c.toNat:Int).tdiv 16)/\IntKind.u8.wrap ((c.toNat:Int).tdiv 16)<((16:Nat):Int))/\(0<=(c.toNat:Int).tmod 16/\(c.toNat:Int).tmod 16<((16:Nat):Int)) /\
  ([48,49,50,51,52,53,54,55,56,57,97,98,99,100,101,102]:aG).getD (IntKind.u8.wrap ((c.toNat:Int).tdiv 16)).toNat 0=gn (c.toNat / 16) /\
  ([48,49,50,51,52,53,54,55,56,57,97,98,99,100,101,102]:aG).getD ((c.toNat:Int).tmod 16).toNat 0=gn (c.toNat % 16):=eP (by decide +kernel)
def mI(c:UInt8)(J:ak):bM prog 164 [.i .u8 c.toNat] J (.s (du c)):=by
 refine aZ func164 QL.2 λo n=>au ?_;obtain⟨h,f⟩:=uX c;simp only[QL,SS,seval];simp only[VV,seval];refine⟨λa=>⟨by decide,?_⟩,λa=>⟨λb=>?_,λb=>⟨λd=>?_,λd=>?_⟩⟩⟩
 .exact aO (.inr rfl) (by simp only[RS,seval];rfl) ⟨by rw[h a];rfl,rfl⟩
 .exact aO (.inr rfl) (by simp only[RS,seval];rfl) ⟨by rw[(f a).1 b];rfl,rfl⟩
 .exact aO (.inr rfl) (by simp only[RS,seval];rfl) ⟨by rw[((f a).2 b).1 d];rfl,rfl⟩
 .have g:=((f a).2 b).2 d;refine bB (by simp only[VV,seval]<;>rfl) (λ_=>kF c _) rfl ?_;simp only[VV,Int.reduceBEq,Int.reduceBNe,Nat.reduceAdd,Nat.reduceSub,Nat.reduceLeDiff,Nat.reduceEqDiff,Int.reduceToNat,reduceIte,reduceCtorEq];obtain⟨m,l,k,j⟩:=JR c;refine⟨λe=>⟨by decide,m,by decide,l,by decide,?_⟩,λe=>?_⟩
  .refine aO (.inr rfl) (by simp only[RS,seval];rfl) ⟨?_,rfl⟩;rw[g.1 e,<- k,<- j];rfl
  .exact aO (.inr rfl) (by simp only[RS,seval];rfl) ⟨by rw[g.2 e];rfl,rfl⟩
def Q1(c:UInt8):((c.toNat:Int) != 62)=(c != 62):=by revert c;exact eP (by decide +kernel)
def ER(c:UInt8):(decide (48<=(c.toNat:Int))&&decide ((c.toNat:Int)<=57))=cQ c:=by revert c;exact eP (by decide +kernel)
def A4{pre:aG}{c:UInt8}(a:∀c∈pre,cQ c=true)(d:pre.length<=4)(b:cQ c=true):
  IntKind.i64.wrap (IntKind.i64.wrap (10*cR 0 pre)+IntKind.i64.wrap (IntKind.u8.wrap ((c.toNat:Int) - 48)))=cR 0 (pre++[c]):=by
 have h:=zK pre 0 pre.length rfl (bY.2 a) (dJ 0)
 have g:(10:Int)^pre.length<=10^4:=by
  have:pre.length=0\/pre.length=1\/pre.length=2\/pre.length=3\/pre.length=4:=by omega
  rcases this with h|h|h|h|h<;>rw[h]<;>decide
 simp only[cQ,aJ,aV]at b;have e:IntKind.u8.wrap ((c.toNat:Int) - 48)=(c.toNat:Int) - 48:=IntWalk.u8_in _ (by omega);have f:cR 0 pre<10000:=by omega
 rw[e,IntWalk.i64_in (10*cR 0 pre) (by omega),IntWalk.i64_in ((c.toNat:Int) - 48) (by omega),IntWalk.i64_in _ (by omega)];simp[cR]
def uZ{pre rest:aG}(a:∀c∈pre,cQ c=true):((pre++rest).takeWhile cQ).length=pre.length+(rest.takeWhile cQ).length:=by
 rw[Bi a,aj]
set_option maxRecDepth 4000 in
def yi{n:Nat}{J:ak}{K:bl}(A:V)(s:aG)(b:s.length<2^62):∀(rest pre:aG),s=pre++rest ->
  (((fh (.s s) (fj 1 (fh (A) (fj 1 (fh (.I ((pre.length+(rest.takeWhile λc=>c != 62).length:Nat):Int)) (fj 134 fo)))))) λj=>K (.exit 0) ⟨j,J⟩)) ->
  fm n prog rO K (rest.length+1) ⟨(.s s::uu 1 (A::uu 1 (.I pre.length::uu 134 []))),J⟩:=by
 intro rest
 induction rest with
 |nil =>
  intro pre d a;have d:=cN d
  subst d;have e:decide ((s.length:Int)<(s.length:Int))=false:=by simp
  simp only[qV,al,de]at a;refine ar λR i=>?_;simp only[rO,e,VV,seval];exact⟨nofun,a ..⟩
 |cons c rest ih =>
  intro pre d a;subst d;have e:decide ((pre.length:Int)<((pre++c::rest).length:Int))=true:=by simp;omega
  refine ar λR i=>?_;simp only[rO,e,VV,seval];refine⟨by simp;omega,λg=>?_,λg=>?_⟩
  .have f:(c != 62)=true:=by rw[<- Q1];exact g
   have h:pre.length+((c::rest).takeWhile λc=>c != 62).length=(pre++[c]).length+(rest.takeWhile λc=>c != 62).length:=by
    rw[cy,az f];simp;omega
   rw[h]at a;refine i _ (aK ?_ (ih (pre++[c]) (by simp) a));rw[cm (by simp at b;omega)];simp only[aj,ai,al]
   repeat' constructor
  .have f:¬(c != 62)=true:=by rw[<- Q1,g];simp
   have h:pre.length+((c::rest).takeWhile λc=>c != 62).length=pre.length:=by
    rw[cy,an f];simp
   rw[h]at a;exact a ..
set_option maxRecDepth 4000 in
def yh{n:Nat}{J:ak}{K:bl}(A B C:V)(t:aG)(o:t.length<2^62):∀(m:Nat) (pre rest:aG),t=pre++rest->pre.length+m=4->(∀c∈pre,cQ c=true) ->
  (∀k:Nat,k=min 4 (t.takeWhile cQ).length->((fj 2 (fh (A) (fj 1 (fh (B) (fh (.s t) (fh (C) (fh (.I (cR 0 (t.take k))) (fh (.I k) (fj 130 fo))))))))) λp=>K (.exit 2) ⟨p,J⟩)) ->
  fm n prog oZ K (m+1) ⟨(uu 2 (A::uu 1 (B::.s t::C::.I (cR 0 pre)::.I pre.length::uu 130 []))),J⟩:=by
 intro m
 induction m with
 |zero =>
  intro pre rest j q b a;subst j;have e:decide ((pre.length:Int)<4)=false:=by simp;omega
  refine ar λR l=>?_;simp only[oZ,e,VV,seval];have:=a pre.length (by rw[uZ b];omega);rw[jT]at this;exact⟨nofun,nofun,this ..⟩
 |succ m ih =>
  intro pre rest j q b a;subst j;have e:decide ((pre.length:Int)<4)=true:=by simp;omega
  cases rest with
  |nil =>
   have g:decide ((pre.length:Int)<(pre.length:Int))=false:=by simp
   have h:=a pre.length (by rw[uZ b];simp;omega);rw[jT]at h;clear a ih;simp only[bL]at h |-;refine ar λR l=>?_;simp only[oZ,g,e,VV,seval];exact⟨nofun,nofun,h ..⟩
  |cons c rest =>
   have g:decide ((pre.length:Int)<((pre++c::rest).length:Int))=true:=by simp;omega
   refine ar λR l=>?_;simp only[oZ,g,e,VV,seval];have i:(0:Int)<=(pre.length:Int)/\(pre.length:Int)<((pre++c::rest).length:Int):=by simp;omega
   rw[ER];refine⟨i,λ_=>i,λf=>⟨i,?_⟩,λf=>?_⟩
   .rw[A4 b (by omega) f]
    refine l _ (aK ?_ (ih (pre++[c]) rest (by simp) (by simp;omega) (by
     intro x d;rcases bP.1 d with d|d
     .exact b x d
     .simp only[bC,gw,s8]at d;subst d;exact f) a))
    rw[cm (by omega)];simp only[aj,ai,al]
    repeat' constructor
   .have:=a pre.length (by rw[uZ b,cy,an (by rw[f];simp)];simp;omega);rw[jT]at this;exact this ..
def AR(c:UInt8):∀l:aG,Lib.indexByte l c=if(l.takeWhile λx=>x != c).length<l.length then((l.takeWhile λx=>x != c).length:Int)else -1
 |[]=>by simp[Lib.indexByte]
 |a::l=>by
  by_cases f:a=c
  .subst f;simp[Lib.indexByte]
  .have g:(a==c)=false:=by simpa using f
   have d:(a != c)=true:=by simpa using f
   have ih:=AR c l;simp only[Lib.indexByte,g,aI,aS,cy,d,aT,ai];generalize (l.takeWhile λx=>x != c).length=b at ih
   by_cases h:b<l.length
   .rw[az h]at ih;have e:((b:Int) == -1)=false:=by rw[di];omega
    rw[ih,az (show b+1<l.length+1 by omega),e];rfl
   .rw[an h]at ih;rw[ih,an (show ¬b+1<l.length+1 by omega)];rfl
def vd(rest:aG):eW (60::rest)=if(rest.takeWhile λx=>x != 62).length<rest.length then
  (if(rC (rest.take (rest.takeWhile λx=>x != 62).length)).2=true then((rC (rest.take (rest.takeWhile λx=>x != 62).length)).1,((rest.takeWhile λx=>x != 62).length:Int)+2)else(gH,0))else(gH,0):=by
 have a:=AR 62 (60::rest);simp only[cy,show((60:UInt8) != 62)=true from rfl,aT,ai]at a;rw[xW rfl]
 by_cases h:(rest.takeWhile λx=>x != 62).length<rest.length
 .rw[az (by omega)]at a;rw[a,az h,an (by omega)]
  have e:((60::rest).take (((rest.takeWhile λx=>x != 62).length+1:Nat):Int).toNat).drop 1=rest.take (rest.takeWhile λx=>x != 62).length:=by
   rw[ao,dt];rfl
  rw[e];congr 2
 .rw[an (by omega)]at a;rw[a,an h,az (by decide)]
def u47(a:UInt8):((a.toNat:Int)==47)=(a==47):=by revert a;exact eP (by decide +kernel)
def u48(a:UInt8):((a.toNat:Int)==48)=(a==48):=by revert a;exact eP (by decide +kernel)
def u58(a:UInt8):((a.toNat:Int) != 58)=(a != 58):=by revert a;exact eP (by decide +kernel)
def Qq{t:aG}(h:t≠[]):aws t [47]=(((t.getD 0 0).toNat:Int)==47):=by
 cases t with
 |nil=>exact absurd rfl h
 |cons a t=>rw[u47];simp[aws]
def PR{t:aG}(h:t≠[]):awt t [47]=(((t.getD (t.length - 1) 0).toNat:Int)==47):=by
 rcases dn t with b|⟨c,a,b⟩
 .exact absurd b h
 .rw[da]at b;subst b;rw[u47,gr];simp[aq]
set_option maxRecDepth 8000 in
def rH(s:aG)(h0:s.getD 0 0=60)(l:s.length<2^62)(J:ak):bM prog 163 [.s s] J (.iQ [.agg (eW s).1.awa,.I (eW s).2]):=by
 obtain⟨d,rfl⟩:∃d,s=60::d:=by
  cases s with
  |nil=>simp at h0
  |cons a r=>simp only[aA]at h0;exact⟨r,by rw[h0]⟩
 refine aZ func163 QM.2 λp X=>?_;simp only[QM,SS,seval];refine bZ.cut λR g=>?_;simp only[VV,seval];refine g _ (bZ.fg (fr':=(.s (60::d)::uu 1 (.ptr J.length 0::uu 136 []))) ?_ (by repeat' constructor));clear g R;refine bZ.cut λR g=>?_;simp only[VV,seval];refine g _ (bZ.fg (fr':=(.s (60::d)::uu 1 (.ptr J.length 0::uu 1 (.I ((1:Nat):Int)::uu 134 [])))) ?_ (by repeat' constructor));clear g R;refine bZ.cut λR g=>?_;simp only[VV,seval];have n:=vd d;refine bZ.aK ?_ (d.length+1) (yi (.ptr J.length 0) (60::d) l d [60] rfl ?_)
 .simp only[ai,al]
  repeat' constructor
 generalize M:(d.takeWhile λx=>x != 62).length=e at n;have V:e<=d.length:=by rw[<- M];exact(LZ _).length_le
 simp only[JE];intros;simp only[ai,al,aY,VV,seval];refine g _ (bZ.fg (fr':=(.s (60::d)::uu 1 (.ptr J.length 0::uu 1 (.I ((1+e:Nat):Int)::uu 134 [])))) ?_ (by repeat' constructor));clear g R;refine bZ.cut λR g=>?_;simp only[ai,VV,seval];refine⟨λh=>?_,λh=>?_⟩
 .have h:¬e<d.length:=by simp at h;omega
  rw[an h]at n;refine bg p (.inr rfl) (by simp only[RS,seval];rfl) (by simp[LW]) ⟨?_,rfl⟩;rw[n];rfl
 have h:e<d.length:=by simp at h;omega
 rw[az h]at n;refine g _ (bZ.fg (fr':=(.s (60::d)::uu 1 (.ptr J.length 0::uu 1 (.I ((1+e:Nat):Int)::uu 134 [])))) ?_ (by repeat' constructor));clear g R;generalize B:d.take e=t at n;have H:t.length<2^62:=by rw[<- B,aP];simp at l;omega
 refine bZ.cut λR g=>?_;simp only[ai,VV,seval];refine⟨by omega,?_⟩;have L:List.take (1+e - 1) d=t:=by rw[<- B];congr 1;omega
 rw[L];refine g _ (bZ.fg (fr':=(uu 2 (.ptr J.length 0::uu 1 (.I ((1+e:Nat):Int)::.s t::.I 2::uu 132 [])))) ?_ (by repeat' constructor));clear g R;refine bZ.cut λR g=>?_
 have j:∀(f:Int) (u:aG),u.length<2^62->eW (60::d)=(if(kV f u).2=true then((kV f u).1,(e:Int)+2)else(gH,0))->(f=2\/f=3\/f=4) ->
   ∀{o:aB},oJ o (uu 2 (.ptr J.length 0::uu 1 (.I ((1+e:Nat):Int)::.s u::.I f::uu 132 [])))->R ⟨o,J++[.box 61 [.I 0,.s [],.I 0]]⟩:=by
  intro f u G w Y o C;refine g _ (bZ.fg ?_ C);clear g R;refine bZ.cut λR g=>?_;simp only[VV,seval];refine g _ (bZ.fg (fr':=(uu 2 (.ptr J.length 0::uu 1 (.I ((1+e:Nat):Int)::.s u::.I f::.I (cR 0 [])::.I (([]:aG).length:Nat)::uu 130 [])))) ?_ (by repeat' constructor));clear g R;refine bZ.cut λR g=>?_;simp only[VV,seval];refine bZ.aK ?_ 5 (yh (.ptr J.length 0) (.I ((1+e:Nat):Int)) (.I f) u G 4 [] u rfl rfl (by simp) ?_)
  .repeat' constructor
  intro k U;simp only[JE];intros;simp only[VV,seval];refine g _ (bZ.fg (fr':=(uu 2 (.ptr J.length 0::uu 1 (.I ((1+e:Nat):Int)::.s u::.I f::.I (cR 0 (u.take k))::.I k::uu 130 [])))) ?_ (by repeat' constructor));clear g R
  have m:kV f u=if k=0\/u.length<=k\/u.getD 0 0=48\/999<cR 0 (u.take k)\/u.getD k 0≠58 then(gH,false)else
    if(f=3/\awj (u.drop (k+1))=false)\/(f≠3/\cV (u.drop (k+1))=false)then(gH,false)else(⟨f,u.drop (k+1),cR 0 (u.take k)⟩,true):=by rw[U];rfl
  refine bZ.cut λR g=>?_;simp only[ao,VV,seval]
  have O:(((((k:Int)==0||decide ((u.length:Int)<=(k:Int)))||((u.getD 0 0).toNat:Int)==48)||decide (999<cR 0 (u.take k)))||((u.getD k 0).toNat:Int) != 58)=decide (k=0\/u.length<=k\/u.getD 0 0=48\/999<cR 0 (u.take k)\/u.getD k 0≠58):=by
   rw[u48,u58,cB];simp[or_assoc]
  rw[O];refine⟨λh=>by simp at h;omega,λh=>by simp at h;omega,λh=>?_,λh=>?_⟩
  .rw[az (by simpa using h)]at m;refine bg p (.inr rfl) (by simp only[RS,seval];rfl) (by simp[LW]) ⟨?_,rfl⟩;rw[w,m];rfl
  have h:=UD h;rw[an h]at m;simp only[uy]at h;refine g _ (bZ.fg (fr':=(uu 2 (.ptr J.length 0::uu 1 (.I ((1+e:Nat):Int)::.s u::.I f::.I (cR 0 (u.take k))::.I k::uu 130 [])))) ?_ (by repeat' constructor));clear g R;have K:IntKind.i64.wrap ((k:Int)+1)=((k+1:Nat):Int):=by rw[IntWalk.i64_in _ (by omega)];omega
  refine bZ.cut λR g=>?_;simp only[K,ao,VV,seval];have P:List.take (u.length - (k+1)) (List.drop (k+1) u)=u.drop (k+1):=bW (by simp);rw[P];refine⟨by omega,?_⟩;refine g _ (bZ.fg (fr':=(uu 2 (.ptr J.length 0::uu 1 (.I ((1+e:Nat):Int)::uu 1 (.I f::uu 2 (.ptr (J.length+1) 0::uu 129 [])))))) ?_ (by repeat' constructor));clear g R;have T:IntKind.i64.wrap (((1+e:Nat):Int)+1)=(e:Int)+2:=by rw[IntWalk.i64_in _ (by simp at l;omega)];omega
  refine bZ.cut λR g=>?_
  have y:∀{o:aB},eW (60::d)=(⟨f,u.drop (k+1),cR 0 (u.take k)⟩,(e:Int)+2)->oJ o (uu 2 (.ptr J.length 0::uu 1 (.I ((1+e:Nat):Int)::uu 4 (.ptr (J.length+1) 0::uu 129 [])))) ->
    R ⟨o,J++[.box 61 [.I 0,.s [],.I 0],.box 61 [.I f,.s (u.drop (k+1)),.I (cR 0 (u.take k))]]⟩:=by
   intro o Q C;refine g _ (bZ.fg ?_ C);clear g R;refine au ?_;simp only[T,VV,seval];refine bg p (.inr rfl) (by simp only[RS,seval];rfl) (by simp[LW]) ⟨?_,rfl⟩;rw[Q];rfl
  by_cases q:f=3
  .subst q;simp only[VV,seval];refine bB (by simp only[VV,seval]<;>rfl) (λ_=>fY _ _) rfl ?_;simp only[VV,seval];refine bB (c:=false) (v:=.b false) (by simp only[VV,seval]<;>simp) (nofun) rfl ?_;simp only[VV,seval];refine⟨λi=>?_,λi=>?_⟩
   .have i:awj (u.drop (k+1))=false:=by rw[dm]at i;exact i
    rw[az (.inl ⟨rfl,i⟩)]at m;refine bg p (.inr rfl) (by simp only[RS,seval];rfl) (by simp[LW]) ⟨?_,rfl⟩;rw[w,m];rfl
   .have i:awj (u.drop (k+1))=true:=by rw[dQ]at i;exact i
    rw[an (by simp only[i];simp)]at m;exact y (by rw[w,m];rfl) (by repeat' constructor)
  .have E:(f==3)=false:=by simpa using q
   have z:(f != 3)=true:=by simpa using q
   simp only[E,z,VV,seval];refine bB (c:=false) (v:=.b false) (by simp only[VV,seval]<;>rfl) (nofun) rfl ?_;simp only[E,z,VV,seval];refine bB (by simp only[VV,seval]<;>rfl) (λ_=>jj _ _) rfl ?_;simp only[VV,seval];refine⟨λi=>?_,λi=>?_⟩
   .have i:cV (u.drop (k+1))=false:=by rw[dm]at i;exact i
    rw[az (.inr ⟨q,i⟩)]at m;refine bg p (.inr rfl) (by simp only[RS,seval];rfl) (by simp[LW]) ⟨?_,rfl⟩;rw[w,m];rfl
   .have i:cV (u.drop (k+1))=true:=by rw[dQ]at i;exact i
    rw[an (by simp only[i,q];simp)]at m;exact y (by rw[w,m];rfl) (by repeat' constructor)
 simp only[VV,seval];have S:t.length<=d.length:=by rw[<- B,aP];omega
 by_cases A:t=[]
 .subst A;refine⟨nofun,nofun,λ_=>⟨nofun,nofun,λ_=>j 2 [] (by simp) ?_ (.inl rfl) ?_⟩⟩
  .exact n
  .repeat' constructor
 have W:0<t.length:=cT.2 A;have F:IntKind.i64.wrap ((t.length:Int) - 1)=((t.length - 1:Nat):Int):=by rw[IntWalk.i64_in _ (by omega)];omega
 have N:decide ((0:Int)<(t.length:Int))=true:=by simp;omega
 have D:List.take (t.length - 1) (List.drop 1 t)=t.drop 1:=bW (by simp);simp only[F,N,D,ao,cc,<- Qq A,<- PR A];refine⟨λ_=>by omega,λh=>⟨by omega,j 3 (t.drop 1) (by simp;omega) ?_ (.inr (.inl rfl)) ?_⟩,λh=>⟨λ_=>by omega,λi=>⟨by omega,j 4 (t.take (t.length - 1)) (by simp;omega) ?_ (.inr (.inr rfl)) ?_⟩,λi=>j 2 t H ?_ (.inl rfl) ?_⟩⟩
 .rw[n];simp only[rC,h,aT]
 .repeat' constructor
 .rw[n];simp only[rC,h,i,aI,aS,aT]
 .repeat' constructor
 .rw[n];simp only[rC,h,i,aI,aS]
 .repeat' constructor
def rA(s:aG)(k:Nat):Prop:=s.getD k 0=125/\awj ((s.take k).drop 1)=true
def Ze(a:UInt8):((a.toNat:Int)==125)=(a==125):=by revert a;exact eP (by decide +kernel)
def yk{J:ak}{K:bl}(s:aG)(u:s.length<2^62):∀(m k:Nat),k+m=26->1<=k->(∀j,1<=j->j<k->j<s.length->¬rA s j) ->
  ((∀j,1<=j->j<s.length->j<=25->¬rA s j)->((fj 2 (fh (.ptr J.length 0) (fj 71 fo))) λq=>K (.exit 1) ⟨q,J++[.box 61 [.I 0,.s [],.I 0]]⟩)) ->
  (∀k:Nat,1<=k->k<s.length->rA s k->((fj 2 (fh (.ptr J.length 0) (fh (.I ((k+1:Nat):Int)) (fj 70 fo)))) λq=>K .ret ⟨q,J++[.box 61 [.I 5,.s ((s.take k).drop 1),.I 0]]⟩)) ->
  fm J.length prog o8 K (m+1) ⟨(.s s::uu 1 (.ptr J.length 0::uu 1 (.I k::uu 69 []))),J++[.box 61 [.I 0,.s [],.I 0]]⟩:=by
 intro m
 induction m with
 |zero =>
  intro k v t c e l;have d:decide ((k:Int)<=25)=false:=by simp;omega
  refine ar λR p=>?_;simp only[o8,d,gB,VV,seval];exact e (λj b f n=>c j b (by omega) f) ..
 |succ m ih =>
  intro k v t c e l;have d:decide ((k:Int)<=25)=true:=by simp;omega
  have g:IntKind.i64.wrap ((k:Int)+1)=((k+1:Nat):Int):=by rw[IntWalk.i64_in _ (by omega)];omega
  by_cases o:k<s.length
  .have i:decide ((k:Int)<(s.length:Int))=true:=by simp;omega
   refine ar λR p=>?_;have a:List.take (k - 1) (List.drop 1 s)=(s.take k).drop 1:=by rw[Da]
   simp only[o8,i,d,g,ao,a,VV,seval];refine⟨by omega,λ_=>by omega,bB (by simp only[VV,seval]<;>rfl) (λ_=>fY _ _) rfl ?_⟩;simp only[g,a,Ze,ao,VV,seval];refine⟨λh=>⟨by omega,?_⟩,λh=>?_⟩
   .exact l k t o (by simpa[rA]using h) ..
   .refine p _ (aK ?_ (ih (k+1) (by omega) (by omega) (λj b f n=>?_) e l))
    .repeat' constructor
    .by_cases w:j=k
     .subst w;intro r;rw[r.1,r.2]at h;simp at h
     .exact c j b (by omega) n
  .have i:decide ((k:Int)<(s.length:Int))=false:=by simp;omega
   refine ar λR p=>?_;simp only[o8,i,d,g,ao,VV,seval];exact e (λj b f n=>c j b (by omega) f) ..
def yj{J:ak}{K:bl}(s:aG)(l:s.length<2^62):∀(m c:Nat),c+m=256->(∀j,j<c->aws s (du (UInt8.ofNat j))=false) ->
  ((∀j,j<256->aws s (du (UInt8.ofNat j))=false)->((fj 2 (fh (.ptr J.length 0) (fj 71 fo))) λe=>K (.exit 3) ⟨e,J++[.box 61 [.I 0,.s [],.I 0]]⟩)) ->
  (∀b:UInt8,aws s (du b)=true->((fj 2 (fh (.ptr J.length 0) (fh (.I (du b).length) (fj 70 fo)))) λe=>K .ret ⟨e,J++[.box 61 [.I 1,.s [b],.I 0]]⟩)) ->
  fm J.length prog rT K (m+1) ⟨(.s s::uu 1 (.ptr J.length 0::uu 2 (.I c::uu 68 []))),J++[.box 61 [.I 0,.s [],.I 0]]⟩:=by
 intro m
 induction m with
 |zero =>
  intro c i d f a;have i:c=256:=by omega
  subst i;refine ar λR o=>?_;simp only[rT,VV,seval];exact⟨nofun,λ_=>f d ..⟩
 |succ m ih =>
  intro c i d f a;have n:IntKind.i64.wrap ((c:Int)+1)=((c+1:Nat):Int):=by rw[IntWalk.i64_in _ (by omega)];omega
  have k:IntKind.u8.wrap (c:Int)=((UInt8.ofNat c).toNat:Int):=by rw[IntWalk.u8_in _ (by omega)];simp;omega
  have p:decide ((c:Int)<256)=true:=by simp;omega
  refine ar λR o=>?_;simp only[rT,p,k,n,VV,seval];refine aw (mI (UInt8.ofNat c) _) rfl ?_;simp only[k,n,ao,VV,seval]
  have q:(decide (((du (UInt8.ofNat c)).length:Int)<=(s.length:Int))&&List.take (du (UInt8.ofNat c)).length s==du (UInt8.ofNat c))=aws s (du (UInt8.ofNat c)):=by
   simp only[aws,KW]
  rw[q];refine⟨λh=>by simp at h;omega,λh=>a _ h ..,λh=>?_⟩;refine o _ (aK ?_ (ih (c+1) (by omega) (λj r=>?_) f a))
  .repeat' constructor
  .by_cases g:j=c
   .subst g;exact h
   .exact d j (by omega)
def xZ(s:aG)(q:s≠[])(d:s.length<2^62)(J:ak):bM prog 104 [.s s] J (.iQ [.agg (eW s).1.awa,.I (eW s).2]):=by
 refine aZ func104 QV.2 λg v=>au ?_;have w:0<s.length:=cT.2 q
 have e:(((s.getD 0 0).toNat:Int)==123)=(s.getD 0 0==123):=by
  generalize s.getD 0 0=a;revert a;exact eP (by decide +kernel)
 have i:(((s.getD 0 0).toNat:Int)==60)=(s.getD 0 0==60):=by
  generalize s.getD 0 0=a;revert a;exact eP (by decide +kernel)
 have f:(0:Int)<=0/\(0:Int)<(s.length:Int):=by omega
 simp only[QV,SS,seval]
 by_cases h:s.getD 0 0=123
 .have m:(s.getD 0 0==123)=true:=by simpa using h
  simp only[e,m,VV,seval,-Int.reduceLE];refine⟨f,?_⟩;refine bZ.aK ?_ 26 (yk s d 25 1 rfl (aD _) (λj x z=>by omega) (λn=>?_) (λk r u p=>?_))
  .simp only[afM]
   repeat' constructor
  .simp only[JE];intros;simp only[VV,seval];refine bg g (.inr rfl) (by simp only[RS,seval];rfl) (by simp[LW]) ⟨?_,rfl⟩;rw[rD h n];rfl
  .simp only[JE];intros;simp only[VV,seval];refine bg g (.inr rfl) (by simp only[RS,seval];rfl) (by simp[LW]) ⟨?_,rfl⟩;rw[u9 h r u p.1 p.2];rfl
 have m:(s.getD 0 0==123)=false:=by simpa using h
 by_cases l:s.getD 0 0=60
 .have o:(s.getD 0 0==60)=true:=by simpa using l
  simp only[e,i,m,o,VV,seval,-Int.reduceLE];refine⟨f,f,?_⟩;refine aw (rH s l d _) rfl ?_;simp only[It.awa,VV,seval];refine bg g (.inr rfl) (by simp only[RS,seval];rfl) (by simp[LW]) ⟨?_,rfl⟩;rfl
 .have o:(s.getD 0 0==60)=false:=by simpa using l
  simp only[e,i,m,o,VV,seval,-Int.reduceLE];refine⟨f,f,?_⟩;refine bZ.aK ?_ 257 (yj s d 256 0 rfl (λj y=>by omega) (λn=>?_) (λb t=>?_))
  .simp only[ey]
   repeat' constructor
  .simp only[JE];intros;simp only[VV,seval];refine bg g (.inr rfl) (by simp only[RS,seval];rfl) (by simp[LW]) ⟨?_,rfl⟩
   rw[vf q l h (λc=>by
    have:=n c.toNat c.toNat_lt
    rwa [Fg]at this)]
   rfl
  .simp only[JE];intros;simp only[VV,seval];refine bg g (.inr rfl) (by simp only[RS,seval];rfl) (by simp[LW]) ⟨?_,rfl⟩;rw[vg t];rfl
def Jv{J:ak}{K:bl}(s:aG)(r:cn J)(g:s.length<2^30):∀(n:Nat) (rest pre:aG) (f:List It) (len:Nat),s=pre++rest->rest.length<n->f.length<=512->bd f<=pre.length->len<=1024 ->
  ((dU n f len rest pre.length).2.2=0->((fj 5 (fh (.sl 3 ((dU n f len rest pre.length).1.map It.awa)) (fj 49 fo))) λo=>K (.exit 0) ⟨o,J⟩)) ->
  ((dU n f len rest pre.length).2.2≠0->∀loc,((fj 2 (fh (.nil) (fh (.I (dU n f len rest pre.length).2.1) (fh (.I (dU n f len rest pre.length).2.2) (fj 50 fo))))) λo=>K .ret ⟨o,J++loc⟩)) ->
  fm J.length prog wO K n ⟨(.s s::uu 4 (.sl 3 (f.map It.awa)::.I pre.length::.I len::uu 47 [])),J⟩:=by
 intro n
 induction n with
 |zero=>intro rest pre f len d w;omega
 |succ n ih =>
  intro rest pre f len d w H D E e a;cases rest with
  |nil =>
   have d:=cN d
   subst d;simp only[dU]at e;refine ar λR q=>?_;simp only[wO,VV,seval];exact⟨λh=>by simp at h,λ_=>e trivial ..⟩
  |cons c rest =>
   subst d;have v:=u7 (s:=c::rest) (by simp);have z:List.take ((pre++c::rest).length - pre.length) (List.drop pre.length (pre++c::rest))=c::rest:=by simp
   simp only[dU]at e a;refine ar λR q=>?_;simp only[wO,z,ao,VV,seval];refine⟨λ_=>⟨by simp;omega,?_⟩,λh=>by simp at h<;>omega⟩;refine aw (xZ (c::rest) (by simp) (by simp at g |-;omega) _) rfl ?_;generalize G:eW (c::rest)=xm at *;obtain⟨x,m⟩:=xm;simp only at v e a;simp only[It.awa,VV,seval];refine⟨λi=>?_,λi=>?_⟩
   .have i:m=0:=by simpa using i
    simp only[i,aT]at a;exact a (by simp) [_] ..
   have i:m≠0:=by simpa using i
   obtain⟨F,A,C⟩:=v i;rw[an i]at e a;have B:=pd (f++[x]);simp only[fM,bd,aj,ai,al]at B;have y:pre.length+(rest.length+1)<2^30:=by simpa using g
   simp only[ai]at A w
   have p:(pre++(c::rest).take m.toNat).length=pre.length+m.toNat:=by
    rw[aj,aP,ai];omega
   have t:IntKind.i64.wrap ((len:Int)+1)=((len+1:Nat):Int):=by rw[IntWalk.i64_in _ (by omega)];omega
   have k:IntKind.i64.wrap ((pre.length:Int)+m)=(pre.length:Int)+m:=IntWalk.i64_in _ (by omega);have u:(len:Int)+1=((len+1:Nat):Int):=by omega
   have l:(pre.length:Int)+m=(((pre++(c::rest).take m.toNat).length:Nat):Int):=by rw[p];omega
   refine⟨λj=>?_,λj=>?_⟩
   .have j:x.awb≠1:=by simpa using j
    refine aw (oU f x _) rfl ?_;simp only[It.awa,VV,seval];refine⟨λd=>?_,λd=>?_⟩
    .have d:cY f x≠0:=by simpa using d
     rw[az ⟨j,d⟩]at a;exact a d [_] ..
    have d:cY f x=0:=by simpa using d
    rw[an (λh=>h.2 d)]at e a;refine ml (zs:=[.sl 3 (f.map It.awa),.sl 3 ([x].map It.awa)]) (.cons (.refl _) (.cons (.lit _ _) .nil)) (jW f [x] (by omega) (by simp) (by omega) (by simp only[bd];omega) _) ?_;simp only[t,k,ag,VV,seval];refine⟨λb=>?_,λb=>?_⟩
    .have b:512<(awl (f++[x])).length\/(1024:Int)<(len:Int)+1:=by simp at b;omega
     rw[az b]at a;exact a (by simp) [_] ..
    .have b:¬(512<(awl (f++[x])).length\/(1024:Int)<(len:Int)+1):=by simp at b;omega
     rw[an b,u,l]at e a;refine q _ (ny (aD _) r ?_ ?_ (ih ((c::rest).drop m.toNat) (pre++(c::rest).take m.toNat) (awl (f++[x])) (len+1) (by simp) (by rw[bA,ai];omega) (by omega) (by rw[p];omega) (by omega) e a))
     .rw[<- l]
      repeat' constructor
     .simp only[LW]
   .have j:x.awb=1:=by simpa using j
    rw[an (λh=>h.1 j)]at e a;refine ml (zs:=[.sl 3 (f.map It.awa),.sl 3 ([x].map It.awa)]) (.cons (.refl _) (.cons (.lit _ _) .nil)) (jW f [x] (by omega) (by simp) (by omega) (by simp only[bd];omega) _) ?_;simp only[t,k,ag,VV,seval];refine⟨λb=>?_,λb=>?_⟩
    .have b:512<(awl (f++[x])).length\/(1024:Int)<(len:Int)+1:=by simp at b;omega
     rw[az b]at a;exact a (by simp) [_] ..
    .have b:¬(512<(awl (f++[x])).length\/(1024:Int)<(len:Int)+1):=by simp at b;omega
     rw[an b,u,l]at e a;refine q _ (ny (aD _) r ?_ ?_ (ih ((c::rest).drop m.toNat) (pre++(c::rest).take m.toNat) (awl (f++[x])) (len+1) (by simp) (by rw[bA,ai];omega) (by omega) (by rw[p];omega) (by omega) e a))
     .rw[<- l]
      repeat' constructor
     .simp only[LW]
def mY(s:aG)(a:s.length<2^30)(J:ak):bM prog 47 [.s s] J (.iQ [.sl 3 ((parse s).1.map It.awa),.I (parse s).2.1,.I (parse s).2.2]):=by
 refine aZ func47 p47.2 λc i=>au ?_;rw[<- rE];simp only[p47,SS,seval];simp only[VV,seval];refine bZ.wk (Wk.fg ?_) (bZ.uh (s.length+1) (Jv s c a (s.length+1) s [] [] 0 rfl (by omega) (by simp) (by simp[bd]) (by omega) (λh=>?_) (λh=>?_)))
 .simp only[al,ey,bR,VV,seval]
  repeat' constructor
 .have e:=oR _ _ _ _ _ h;simp only[JE];intros;simp only[VV,seval];refine aO (.inr rfl) (by simp only[RS,seval];rfl) ⟨?_,rfl⟩;have d:(nw s).2.2=0:=h;have f:(nw s).2.1=0:=e;rw[d,f];rfl
 .simp only[JE];intros;simp only[VV,seval];refine kb (ys:=[.sl 3 [],.I (nw s).2.1,.I (nw s).2.2]) c (.inr rfl) (by simp only[RS,seval];rfl) ?_ (by simp[LW]) ⟨?_,rfl⟩
  .exact .cons (.nil _) (.cons (.refl _) (.cons (.refl _) .nil))
  .have g:=nR _ _ _ _ _ h;have b:(nw s).1=[]:=g;rw[b];rfl
def Eg{J:ak}{K:bl}(k d:Int)(s:aG)(e:s.length<2^40):∀(rest pre t:aG),s=pre++rest->t.length<=4*pre.length ->
  (((fj 3 (fh (.s (t++rest.flatMap du)) (fj 57 fo))) λi=>K (.exit 1) ⟨i,J++[.box 61 [.I k,.s s,.I d]]⟩)) ->
  fm J.length prog rQ K (rest.length+1) ⟨(uu 1 (.ptr J.length 0::uu 1 (.s t::.I pre.length::uu 56 []))),J++[.box 61 [.I k,.s s,.I d]]⟩:=by
 intro rest
 induction rest with
 |nil =>
  intro pre t a g b;have a:=cN a
  subst a;rw[nP,bL]at b;refine ar λR f=>?_;simp only[rQ,VV,seval];exact⟨λh=>by simp at h,λ_=>b ..⟩
 |cons c rest ih =>
  intro pre t a g b;subst a;rw[eJ,<- List.append_assoc]at b;have l:pre.length+rest.length+1<2^40:=by simp at e;omega
  have j:=Bo c;refine ar λR f=>?_;simp only[rQ,VV,seval];refine⟨λ_=>⟨by simp;omega,?_⟩,λh=>by simp at h<;>omega⟩;refine aw (mI c _) rfl ?_;simp only[VV,seval];refine⟨by simp only[maxLen];omega,?_⟩;refine f _ (aK ?_ (ih (pre++[c]) (t++du c) (by simp) (by simp;omega) b));rw[cm (by omega)];simp only[aj,ai,al]
  repeat' constructor
def rI(x:It)(h:1<=x.awb/\x.awb<=5)(e:0<=x.id/\x.id<2^62)(a:x.awd.length<2^40)(J:ak):bM prog 139 [.agg x.awa] J (.s (cK x)):=by
 refine aZ func139 QP.2 λb m=>au ?_;obtain⟨k,t,d⟩:=x;simp only at h e a;obtain⟨n,rfl⟩:∃n:Nat,d=n:=⟨d.toNat,by omega⟩;have o:=Lib.itoa_length_le (n:Int) (by omega) (by omega);have c:=rL n (by omega) (J++[.box 61 [.I k,.s t,.I n]]);simp only[QP,SS,seval]
 by_cases f:k=1
 .subst f;simp only[It.awa,VV,seval];refine bZ.aK ?_ (t.length+1) (Eg 1 n t a t [] [] rfl (aD _) ?_)
  .simp only[al,ey]
   repeat' constructor
  .simp only[JE];intros;simp only[bc,VV,seval];exact bg b (.inr rfl) (by simp only[RS,seval];rfl) (by simp[LW]) ⟨by simp[Pm.one,cK],rfl⟩
 by_cases g:k=2
 .subst g;simp only[It.awa,VV,seval];refine aw c rfl ?_;simp only[VV,seval];refine⟨by simp only[maxLen];omega,by simp only[maxLen];omega,by simp only[maxLen,aj,ai,al];omega,by simp only[maxLen,aj,ai,al];omega,?_⟩;exact bg b (.inr rfl) (by simp only[RS,seval];rfl) (by simp[LW]) ⟨by simp[Pm.one,cK],rfl⟩
 by_cases i:k=3
 .subst i;simp only[It.awa,VV,seval];refine aw c rfl ?_;simp only[VV,seval];refine⟨by simp only[maxLen];omega,by simp only[maxLen];omega,by simp only[maxLen,aj,ai,al];omega,by simp only[maxLen,aj,ai,al];omega,?_⟩;exact bg b (.inr rfl) (by simp only[RS,seval];rfl) (by simp[LW]) ⟨by simp[Pm.one,cK],rfl⟩
 by_cases l:k=4
 .subst l;simp only[It.awa,VV,seval];refine aw c rfl ?_;simp only[VV,seval];refine⟨by simp only[maxLen];omega,by simp only[maxLen];omega,by simp only[maxLen,aj,ai,al];omega,by simp only[maxLen,aj,ai,al];omega,?_⟩;exact bg b (.inr rfl) (by simp only[RS,seval];rfl) (by simp[LW]) ⟨by simp[Pm.one,cK],rfl⟩
 have j:k=5:=by omega
 subst j;simp only[It.awa,VV,seval];refine⟨by simp only[maxLen];omega,by simp only[maxLen];omega,?_⟩;exact bg b (.inr rfl) (by simp only[RS,seval];rfl) (by simp[LW]) ⟨by simp[Pm.one,cK],rfl⟩
def Ju{J:ak}{K:bl}(f:List It)(i:f.length<=512)(k:∀x∈f,(1<=x.awb/\x.awb<=5)/\(0<=x.id/\x.id<2^62)/\x.awd.length<=2^30/\(cK x).length<2^33):∀(rest pre:List It) (s:aG),f=pre++rest->s.length<=2^33*pre.length ->
  (((fj 5 (fh (.s (s++rest.flatMap cK)) (fj 20 fo))) λg=>K (.exit 0) ⟨g,J⟩)) ->
  fm J.length prog wN K (rest.length+1) ⟨(.sl 3 (f.map It.awa)::uu 4 (.s s::uu 7 (.I f.length::.I pre.length::uu 11 []))),J⟩:=by
 intro rest
 induction rest with
 |nil =>
  intro pre s b j a;have b:=cN b
  subst b;rw[nP,bL]at a;refine ar λR d=>?_;simp only[wN,VV,seval];exact⟨λh=>by simp at h,λ_=>a ..⟩
 |cons x rest ih =>
  intro pre s b j a;subst b;rw[eJ,<- List.append_assoc]at a;obtain⟨e,c,l,n⟩:=k x (by simp);have m:pre.length+rest.length+1<=512:=by simp at i;omega
  refine ar λR d=>?_;simp only[wN,It.awa,VV,seval];refine⟨λ_=>⟨by simp;omega,?_⟩,λh=>by simp at h<;>omega⟩;refine aw (rI x e c (by omega) _) rfl ?_;simp only[VV,seval];refine⟨by simp only[maxLen];omega,?_⟩;refine d _ (aK ?_ (ih (pre++[x]) (s++cK x) (by simp) (by simp;omega) a));rw[cm (by omega)];simp only[aj,ai,al]
  repeat' constructor
def tu{f:List It}(j:bd f<2^30)(h:cd f=0):f.length<=512/\∀x∈f,(1<=x.awb/\x.awb<=5)/\(0<=x.id/\x.id<2^62)/\x.awd.length<=2^30/\(cK x).length<2^33:=by
 have g:=qy h;simp only[cd]at h;split at h
 .simp at h
 .rename_i l;refine⟨by omega,λx b=>?_⟩;have a:=tk f [] h x b
  have c:∀f:List It,x∈f->x.awd.length<=bd f:=by
   intro f
   induction f with
   |nil=>simp
   |cons y f ih =>
    intro d;simp only[bd];rcases bC.1 d with rfl|d
    .omega
    .have:=ih d;omega
  have i:=c f b
  have e:0<=x.id/\x.id<2^62:=by
   simp only[bG]at a;split at a
   .simp at a;omega
   .split at a
    .simp at a;omega
    .split at a
     .simp at a;omega
     .split at a
      .simp at a;omega
      .simp at a
  have k:=uJ x (by omega);exact⟨g x b,e,by omega,by omega⟩
def tH(f:List It)(c:bd f<2^30)(J:ak):bM prog 74 [.sl 3 (f.map It.awa)] J (.iQ [.s (aww f).1,.I (aww f).2]):=by
 refine aZ func74 p74.2 λe d=>au ?_;simp only[p74,SS,seval];simp only[VV,seval];refine aw (jo f _) rfl ?_;simp only[ag,VV,seval];refine⟨λh=>?_,λh=>?_⟩
 .have h:cd f≠0:=by simpa using h
  refine aO (.inr rfl) (by simp only[RS,seval];rfl) ⟨?_,rfl⟩;simp only[aww,az h];rfl
 .have h:cd f=0:=by simpa using h
  obtain⟨b,a⟩:=tu c h;refine bZ.aK ?_ (f.length+1) (Ju f b a f [] [] rfl (fA _) ?_)
  .simp only[al,ey]
   repeat' constructor
  .simp only[JE];intros;simp only[bc,VV,seval];refine aO (.inr rfl) (by simp only[RS,seval];rfl) ⟨?_,rfl⟩;simp[aww,h,Pm.one]
def qc(s:aG)(J:ak):bM prog 138 [.s s] J (.b (named s)):=by
 refine aZ func138 QQ.2 λc a=>au ?_;simp only[QQ,SS,seval];simp only[VV,seval];refine bB (by simp only[VV,seval]<;>rfl) (λ_=>fY s _) rfl ?_;simp only[VV,seval];exact aO (.inr rfl) (by simp only[RS,seval];rfl) ⟨rfl,rfl⟩
def kW(e:En)(c:e.awk)(J:ak):bM prog 73 [.agg e.awa] J (.I (cj e)):=by
 refine aZ func73 p73.2 λa m=>au ?_;simp only[p73,SS,seval];simp only[En.awa,VV,seval];refine aw (jo e.awc _) rfl ?_;simp only[VV,seval];refine⟨λh=>?_,λh=>?_⟩
 .have h:cd e.awc≠0:=by simpa using h
  exact bg a (.inr rfl) (by simp only[RS,seval];rfl) (by simp[LW]) ⟨by simp only[cj,h,aT,fc,cP];rfl,rfl⟩
 have i:cd e.awc=0:=by simpa using h
 refine aw (jo e.awf _) rfl ?_;simp only[VV,seval];refine⟨λh=>?_,λh=>?_⟩
 .have h:cd e.awf≠0:=by simpa using h
  refine bg a (.inr rfl) (by simp only[RS,seval];rfl) (by simp[LW]) ⟨?_,rfl⟩;simp only[cj,i,h,aT,fc,cP,eN,aS];rfl
 have j:cd e.awf=0:=by simpa using h
 refine aw (oV e.awc e.awf (by have:=c.awc;omega) (by have:=c.awf;omega) (by have:=c.nU;omega) (by have:=c.HN;omega) _) rfl ?_;simp only[ag,VV,seval];refine bB (by simp only[VV,seval]<;>rfl) (λ_=>nz (gK e.awc e.awf) e.awc _) rfl ?_;simp only[VV,seval];refine bB (by simp only[VV,seval]<;>rfl) (λ_=>nz (iq e.awc e.awf) e.awf _) rfl ?_;simp only[VV,seval]
 have f:oe e=!((((e.awc.length:Int)==0)||!gL (gK e.awc e.awf) e.awc)||!gL (iq e.awc e.awf) e.awf):=by
  have:((e.awc.length:Int)==0)=(e.awc.length==0):=by rw[cB];simp
  simp only[oe,this];cases(e.awc.length==0)<;>cases gL (gK e.awc e.awf) e.awc<;>cases gL (iq e.awc e.awf) e.awf<;>rfl
 refine⟨λh=>?_,λh=>?_⟩
 .rw[h]at f;refine bg a (.inr rfl) (by simp only[RS,seval];rfl) (by simp[LW]) ⟨?_,rfl⟩;simp only[cj,i,j,f,fc,eN,aS];rfl
 rw[h]at f
 have d:cj e=if(parse e.bU).2.2≠0 then(parse e.bU).2.2 else if(parse e.next).2.2≠0 then(parse e.next).2.2 else
   if(named e.c8&&named e.cA)=false then 4 else if e.awh<0\/1073741824<e.awh\/e.awq<1\/3<e.awq then 1 else 0:=by
  simp only[cj,i,j,f,fc,eN,aS];rfl
 refine aw (mY e.bU (by have:=c.bU;omega) _) rfl ?_;simp only[VV,seval];refine⟨λh=>?_,λh=>?_⟩
 .have h:(parse e.bU).2.2≠0:=by simpa using h
  rw[d,az h];exact gq a (by rfl) (by simp[LW])
 have k:¬(parse e.bU).2.2≠0:=by simpa using h
 refine aw (mY e.next (by have:=c.next;omega) _) rfl ?_;simp only[VV,seval];refine⟨λh=>?_,λh=>?_⟩
 .have h:(parse e.next).2.2≠0:=by simpa using h
  rw[d,an k,az h];exact gq a (by rfl) (by simp[LW])
 have l:¬(parse e.next).2.2≠0:=by simpa using h
 rw[an k,an l]at d;refine aw (qc e.c8 _) rfl ?_;simp only[VV,seval];refine bB (by simp only[VV,seval]<;>rfl) (λ_=>qc e.cA _) rfl ?_;simp only[VV,seval]
 have g:(!named e.c8||!named e.cA)=!(named e.c8&&named e.cA):=by
  cases named e.c8<;>cases named e.cA<;>rfl
 rw[g];refine⟨λh=>?_,λh=>⟨λb=>?_,λb=>?_⟩⟩
 .have h:(named e.c8&&named e.cA)=false:=by rw[dm]at h;exact h
  rw[d,az h];exact gq a (by rfl) (by simp[LW])
 .have h:¬(named e.c8&&named e.cA)=false:=by rw[dQ]at h;rw[h];simp
  have b:e.awh<0\/1073741824<e.awh\/e.awq<1\/3<e.awq:=by
   simp at b;omega
  rw[d,an h,az b];exact gq a (by rfl) (by simp[LW])
 .have h:¬(named e.c8&&named e.cA)=false:=by rw[dQ]at h;rw[h];simp
  have b:¬(e.awh<0\/1073741824<e.awh\/e.awq<1\/3<e.awq):=by
   simp at b;omega
  rw[d,an h,an b];exact gq a (by rfl) (by simp[LW])
def js(e:En)(a:e.awk)(J:ak):bM prog 30 [.agg e.awa] J (.s (aN e)):=by
 refine aZ func30 p30.2 λb f=>au ?_;simp only[p30,SS,seval];simp only[En.awa,VV,seval];refine aw (kW e a _) rfl ?_;simp only[VV,seval];refine⟨λh=>?_,λh=>?_⟩
 .have h:cj e≠0:=by simpa using h
  exact bg b (.inr rfl) (by simp only[RS,seval];rfl) (by simp[LW]) ⟨by simp only[aN,h,aT,fc,cP];rfl,rfl⟩
 .have h:¬cj e≠0:=by simpa using h
  refine aw (tH e.awc (by have:=a.nU;omega) _) rfl ?_;simp only[VV,seval];have d:=zI e.awc a.awc a.nU (λx c=>a.ids x (by simp[c]));have i:=a.bU;have g:=a.next;refine⟨by simp[maxLen];omega,by simp[maxLen];omega,by simp[maxLen];omega,by simp[maxLen];omega,?_⟩;refine bg b (.inr rfl) (by simp only[RS,seval];rfl) (by simp[LW]) ⟨?_,rfl⟩;simp[Pm.one,aN,an h,cq]
open Go.RowKit
def Ei{J:ak}{K:bl}(m:List En)(d:nj m)(w:∀e∈m,e.awk):∀(rest pre:List En) (last:aG),m=pre++rest->(pre≠[]->∀y∈rest,fS last (cq y)<0) ->
  (((fj 32 fo) λr=>K (.exit 0) ⟨r,J⟩)) ->
  fm J.length prog rS K (rest.length+1) ⟨(.sl 8 (m.map En.awa)::uu 2 (.s last::uu 6 (.I m.length::.I pre.length::uu 20 []))),J⟩:=by
 intro rest
 induction rest with
 |nil =>
  intro pre last a f c;have a:=cN a
  subst a;refine ar λR k=>?_;simp only[rS,VV,seval];exact⟨λh=>by simp at h,λ_=>c ..⟩
 |cons x rest ih =>
  intro pre last a f c;have E:=d.len;have D:=mT a
  have g:=dh pre x (by omega)
  have l:decide ((pre.length:Int)<(m.length:Int))=true:=by simp;omega
  have z:(m.map En.awa).getD pre.length []=x.awa:=by rw[a];simp[aq]
  have j:x∈m:=by rw[a];simp
  have C:=d.ok x j;refine ar λR k=>?_;simp only[rS,l,g,z,ao,ag,V.pure,VV,seval];have o:x.awa.take 8=x.awa:=by simp[En.awa]
  have p:aN x=cq x:=by simp[aN,C]
  have t:cq x≠[]:=by simp[cq]
  refine⟨⟨by omega,by omega⟩,by simp[En.awa],aw (js x (w x j) _) (by simp only[o,VV,seval]) ?_⟩
  have q:(cq x==[]||decide ((0:Int)<(pre.length:Int))&&(Op.bytesLess (cq x) last||cq x==last))=false:=by
   have A:(cq x==[])=false:=by simpa using t
   rw[A,iY]
   by_cases i:pre=[]
   .simp[i]
   .have n:=f i x (by simp);have F:=gi.my (cq x) last;have u:Op.bytesLess (cq x) last=false:=by rw[fU];simp;omega
    have B:(cq x==last)=false:=by
     simp only[di];intro h;rw[<- h,gi.self]at n;omega
    rw[u,B];simp
  simp only[p,q,g,VV,seval];have b:=d.s6;rw[a]at b;simp only[cM,aH,KA,jf,dx]at b;refine k _ (aK (fr':=(.sl 8 (m.map En.awa)::uu 2 (.s (cq x)::uu 6 (.I m.length::.I (pre++[x]).length::uu 20 [])))) (by repeat' constructor) (ih (pre++[x]) (cq x) (by rw[a];simp) (λ_ y v=>b.2.1.1 (cq y) (gN v)) c))
def sQ(m:List En)(a:nj m)(d:∀e∈m,e.awk)(J:ak):bM prog 114 [.sl 8 (m.map En.awa)] J (.b true):=by
 refine aZ func114 QU.2 λi f=>au ?_;have g:=a.len;have c:decide ((1024:Int)<(m.length:Int))=false:=by simp;omega
 simp only[QU,SS,seval];simp only[ag,c,VV,seval];refine bZ.aK (fr':=(.sl 8 (m.map En.awa)::uu 2 (.s []::uu 6 (.I m.length::.I (([]:List En).length:Nat)::uu 20 [])))) ?_ (m.length+1) (Ei m a d m [] [] rfl (λh=>(h rfl).elim) ?_)
 .repeat' constructor
 simp only[JE];intros;simp only[VV,seval];exact aO (.inr rfl) (by simp only[RS,seval];rfl) ⟨rfl,rfl⟩
def below(m:List En)(k:aG):Nat:=(m.takeWhile λe=>Op.bytesLess (cq e) k).length
def Eh{J:ak}{K:bl}(m:List En)(j:nj m)(q:∀e∈m,e.awk)(k:aG):∀(rest pre:List En),m=pre++rest ->
  (((fj 5 (fh (.I (pre.length+below rest k:Nat)) (fj 16 fo))) λp=>K (.exit 0) ⟨p,J⟩)) ->
  fm J.length prog rR K (rest.length+1) ⟨(.sl 8 (m.map En.awa)::.s k::uu 3 (.I pre.length::uu 16 [])),J⟩:=by
 intro rest
 induction rest with
 |nil =>
  intro pre a b;have a:=cN a
  subst a;refine ar λR l=>?_;simp only[below,qV,al,de]at b;have d:decide ((m.length:Int)<(m.length:Int))=false:=by simp
  simp only[rR,ag,d,VV,seval];refine⟨nofun,.u,nofun,?_⟩;refine bB (c:=false) (v:=.s []) (by simp only[VV,seval]<;>rfl) (nofun) rfl ?_;simp only[VV,seval];exact b ..
 |cons x rest ih =>
  intro pre a b;have y:=j.len;have w:=mT a
  have g:=dh pre x (by omega)
  have d:decide ((pre.length:Int)<(m.length:Int))=true:=by simp;omega
  have r:(m.map En.awa).getD pre.length []=x.awa:=by rw[a];simp[aq]
  have i:x∈m:=by rw[a];simp
  have t:=j.ok x i;have n:x.awa.take 8=x.awa:=by simp[En.awa]
  have o:aN x=cq x:=by simp[aN,t]
  refine ar λR l=>?_;simp only[rR,d,g,r,n,ao,ag,V.pure,VV,seval];refine⟨⟨by omega,by omega⟩,.agg x.awa,⟨rfl,by simp[En.awa]⟩,?_⟩;refine bB (c:=true) (by simp only[VV,seval]<;>rfl) (λ_=>js x (q x i) _) rfl ?_;simp only[o,g,VV,seval];refine⟨λh=>l _ (aK (fr':=(.sl 8 (m.map En.awa)::.s k::uu 3 (.I (pre++[x]).length::uu 16 []))) (by repeat' constructor) (ih (pre++[x]) (by rw[a];simp) ?_)),λh=>?_⟩
  .have f:(pre++[x]).length+below rest k=pre.length+below (x::rest) k:=by
    simp only[below,cy,h,aT,ai,aj,al];omega
   rw[f];exact b
  .have f:pre.length+below (x::rest) k=pre.length:=by
    simp only[below,cy,h,aI,aS,al,de]
   rw[f]at b;exact b ..
def sR(m:List En)(a:nj m)(b:∀e∈m,e.awk)(k:aG)(J:ak):bM prog 115 [.sl 8 (m.map En.awa),.s k] J (.I (below m k:Nat)):=by
 refine aZ func115 QT.2 λd c=>au ?_;simp only[QT,SS,seval];simp only[VV,seval];refine bZ.aK (fr':=(.sl 8 (m.map En.awa)::.s k::uu 3 (.I (([]:List En).length:Nat)::uu 16 []))) ?_ (m.length+1) (Eh m a b k m [] rfl ?_)
 .repeat' constructor
 simp only[JE];intros;simp only[al,aY,VV,seval];exact aO (.inr rfl) (by simp only[RS,seval];rfl) ⟨rfl,rfl⟩
def yL(m:List En)(k:aG):below m k<=m.length:=qX (qU _)

set_option maxHeartbeats 1000000
def oS(m:List En)(h:m.length<=1024)(k d:Nat)(i:k+d<=m.length)(e:En)(J:ak):
  bM prog 116 [.sl 8 (m.map En.awa),.I k,.agg e.awa,.I d] J (.sl 8 ((m.take k++e::m.drop (k+d)).map En.awa)):=by
 refine aZ func116 QS.2 λg j=>au ?_
 have a:IntKind.i64.wrap ((k:Int)+(d:Int))=((k+d:Nat):Int):=by
  rw[show(k:Int)+(d:Int)=((k+d:Nat):Int)by omega];exact IntWalk.i64_in _ (by omega)
 simp only[QS,SS,seval];have f:(List.take k (m.map En.awa)).length=k:=by rw[aP,ag];omega
 have b:List.take (m.length - (k+d)) (List.drop (k+d) (m.map En.awa))=List.drop (k+d) (m.map En.awa):=bW (by simp);have c:(List.drop (k+d) (m.map En.awa)).length=m.length - (k+d):=by simp
 simp only[En.awa,a,f,b,c,aj,ag,ao,V.pure,VV,seval];refine⟨⟨by omega,by omega⟩,⟨by omega,by unfold maxLen;omega⟩,⟨by omega,by unfold maxLen;omega⟩,⟨by omega,by omega,by omega⟩,⟨by omega,by unfold maxLen;omega⟩,?_⟩;refine mW 1 g (.inr rfl) rfl rfl ?_ ?_
 .simp[fz,oa,LW]
 .refine⟨?_,rfl⟩;simp[fz,oa,Pm.one,En.awa,eu,eO]
def tU(m:List En)(e:En):Prop:=∃x,m[below m (aN e)]?=some x/\cq x=aN e
instance (m:List En) (e:En):Decidable (tU m e) :=
 match h:m[below m (aN e)]? with
 |some x=>if b:cq x=aN e then .isTrue ⟨x,h,b⟩else .isFalse (λ⟨y,a,c⟩=>by rw[h]at a;cases a;exact b c)
 |none=>.isFalse (λ⟨y,a,_⟩=>by rw[h]at a;cases a)
def iA(m:List En)(e:En):Int:=if cj e≠0 then cj e else if tU m e\/m.length<1024 then 0 else 3
def lR(m:List En)(e:En):List En :=
 if iA m e=0 then m.take (below m (aN e))++e::m.drop (below m (aN e)+if tU m e then 1 else 0)else[]
def DJ(m:List En)(k:nj m)(o:∀e∈m,e.awk)(e:En)(p:e.awk)(J:ak):bM prog 56 [.sl 8 (m.map En.awa),.agg e.awa] J (.iQ [.sl 8 ((lR m e).map En.awa),.I (iA m e)]):=by
 refine aZ func56 p56.2 λi B=>au ?_;have n:=k.len;have A:=yL m (aN e);simp only[p56,SS,seval];simp only[En.awa,↓IT,VV,seval];refine aw (sQ m k o _) rfl ?_;simp only[↓IT,VV,seval];refine aw (kW e p _) (by simp only[En.awa,VV,seval]) ?_;simp only[↓IT,VV,seval];refine⟨λh=>?_,λh=>?_⟩
 .have h:cj e≠0:=by simpa using h
  have z:iA m e=cj e:=by rw[iA,az h]
  refine kb (ys:=[.sl 8 [],.I (cj e)]) i (.inr rfl) (by simp only[RS,seval]) (.cons (.nil _) (.cons (.refl _) .nil)) (by simp[LW]) ⟨?_,rfl⟩;rw[lR,z,an h];rfl
 have j:cj e=0:=by simpa using h
 refine aw (js e p _) (by simp only[En.awa,VV,seval]) ?_;simp only[↓IT,VV,seval];refine aw (sR m k o (aN e) _) rfl ?_
 by_cases h:below m (aN e)<m.length
 .have r:=dC h;have w:(m.map En.awa).getD (below m (aN e)) []=m[below m (aN e)].awa:=by simp[aq,h]
  have l:decide ((below m (aN e):Int)<(m.length:Int))=true:=by simp;omega
  have t:m[below m (aN e)].awa.take 8=m[below m (aN e)].awa:=by simp[En.awa]
  have x:aN m[below m (aN e)]=cq m[below m (aN e)]:=by rw[aN,an (by rw[k.ok _ r];decide)]
  have q:m[below m (aN e)]?=some m[below m (aN e)]:=ax h;simp only[ag,l,w,t,ao,VV,seval];refine⟨⟨by omega,by omega⟩,.agg m[below m (aN e)].awa,⟨rfl,by simp[En.awa]⟩,?_⟩;refine bB (c:=true) (by simp only[VV,seval]<;>rfl) (λ_=>js m[below m (aN e)] (o _ r) _) rfl ?_;simp only[x,↓IT,VV,seval];refine bB (c:=true) (by simp only[En.awa,VV,seval]<;>rfl) (λ_=>js e p _) rfl ?_;simp only[↓IT,VV,seval];refine⟨λg=>?_,λg=>?_⟩
  .have g:cq m[below m (aN e)]=aN e:=by simpa using g
   have d:tU m e:=⟨_,q,g⟩;have b:iA m e=0:=by rw[iA,an (by simp[j]),az (.inl d)]
   refine aw (oS m n (below m (aN e)) 1 (by omega) e _) (by simp only[En.awa,VV,seval]) ?_;simp only[↓IT,VV,seval];exact bg i (.inr rfl) (by simp only[RS,seval];rfl) (by simp[LW]) ⟨by rw[lR,az b,b,az d];rfl,rfl⟩
  .have g:cq m[below m (aN e)]≠aN e:=by simpa using g
   have d:¬tU m e:=λ⟨y,a,f⟩=>by rw[q]at a;cases a;exact g f
   refine⟨λa=>?_,λa=>?_⟩
   .have a:1024<=m.length:=by simp at a;omega
    have b:iA m e=3:=by rw[iA,an (by simp[j]),an (λf=>f.elim d λf=>by omega)]
    exact kb (ys:=[.sl 8 [],.I 3]) i (.inr rfl) (by simp only[RS,seval]) (.cons (.nil _) (.cons (.refl _) .nil)) (by simp[LW]) ⟨by rw[lR,b,an (by decide)];rfl,rfl⟩
   .have a:m.length<1024:=by simp at a;omega
    have b:iA m e=0:=by rw[iA,an (by simp[j]),az (.inr a)]
    refine aw (oS m n (below m (aN e)) 0 (by omega) e _) (by simp only[En.awa,VV,seval]) ?_;simp only[↓IT,VV,seval];exact bg i (.inr rfl) (by simp only[RS,seval];rfl) (by simp[LW]) ⟨by rw[lR,az b,b,an d];rfl,rfl⟩
 .have l:decide ((below m (aN e):Int)<(m.length:Int))=false:=by simp;omega
  have d:¬tU m e:=λ⟨y,a,f⟩=>h (ah.1 a).1;simp only[ag,l,VV,seval];refine⟨nofun,.u,nofun,?_⟩;refine bB (c:=false) (v:=.s []) (by simp only[VV,seval]<;>rfl) (nofun) rfl ?_;simp only[↓IT,VV,seval];refine bB (c:=false) (v:=.s []) (by simp only[VV,seval]<;>rfl) (nofun) rfl ?_;simp only[↓IT,VV,seval];refine⟨λa=>?_,λa=>?_⟩
  .have a:1024<=m.length:=by simp at a;omega
   have b:iA m e=3:=by rw[iA,an (by simp[j]),an (λf=>f.elim d λf=>by omega)]
   exact kb (ys:=[.sl 8 [],.I 3]) i (.inr rfl) (by simp only[RS,seval]) (.cons (.nil _) (.cons (.refl _) .nil)) (by simp[LW]) ⟨by rw[lR,b,an (by decide)];rfl,rfl⟩
  .have a:m.length<1024:=by simp at a;omega
   have b:iA m e=0:=by rw[iA,an (by simp[j]),az (.inr a)]
   refine aw (oS m n (below m (aN e)) 0 (by omega) e _) (by simp only[En.awa,VV,seval]) ?_;simp only[↓IT,VV,seval];exact bg i (.inr rfl) (by simp only[RS,seval];rfl) (by simp[LW]) ⟨by rw[lR,az b,b,an d];rfl,rfl⟩
def Ut(a b c d e:Int):gC [0,0,0,0,0] [.I a,.I b,.I c,.I d,.I e] [.I a,.I b,.I c,.I d,.I e]=some true:=by
 simp[gC,dD]
def OR{e:En}{k:Nat}(g:k<=20)(h:pL k e){a:List Pn}(d:∀p∈a,xn p)(j:a.length<=20){q:Qr}(c:UC q):KQ e a q:=by
 have i:=h.jr;have m:=h.ie;have n:=c.jr;have f:=c.ie;have E:=(ou h.ok).awh;have Q:=c.ok;unfold fi at Q;have l:0<=q.now/\q.now<=1073741824:=by(repeat' split at Q)<;>omega
 exact⟨⟨by omega,by omega,by omega,λp b=>by have:=(d p b).iN;omega⟩,by omega,by omega,by omega,by omega⟩

set_option maxHeartbeats 1000000
structure oM (M:List dM):Prop where
 len:M.length<=1024
 s6:kK M
 ok:∀s∈M,s.key=aN s.en/\s.dz=dz s.en.awc/\cj s.en=0/\s.en.awk
def oM.nil:oM []:=⟨by decide,by simp[kK],λs a=>by cases a⟩
def oM.join{M:List dM}(h:oM M){s:dM}(b:s∈M):cq s.en=s.key:=by
 obtain⟨a,_,c,_⟩:=h.ok s b;rw[a,aN,an (by rw[c];decide)]
def oM.keys{M:List dM}(h:oM M):(M.map dM.en).map cq=M.map dM.key:=by
 rw[jn];exact eA λs a=>h.join a
def oM.mem{M:List dM}(h:oM M):nj (M.map dM.en) :=
 ⟨by rw[ag];exact h.len,λe a=>by
  obtain⟨s,b,rfl⟩:=bF.1 a;exact(h.ok s b).2.2.1,by rw[h.keys];exact h.s6⟩
def oM.awk{M:List dM}(h:oM M):∀e∈M.map dM.en,e.awk:=λe a=>by
 obtain⟨s,b,rfl⟩:=bF.1 a;exact(h.ok s b).2.2.2
def ly{M:List dM}(h:oM M)(k:aG):below (M.map dM.en) k=fN M k:=by
 have a:∀(l:List dM),(∀s∈l,cq s.en=s.key)->below (l.map dM.en) k=fN l k:=by
  intro l
  induction l with
  |nil=>intro _;rfl
  |cons x l ih =>
   intro c;have e:Op.bytesLess (cq x.en) k=decide (fS x.key k<0):=by rw[fU,c x (by simp)]
   have ih:=ih λs b=>c s (by simp[b]);simp only[below,fN,xt,aH,cy,e]at ih |-;split<;>simp[ih]
 exact a M λs b=>h.join b
def mM{M:List dM}(h:oM M)(e:En):tU (M.map dM.en) e<->aN e∈M.map dM.key:=by
 rw[mJ h.s6];unfold tU;rw[ly h];simp only[ck,aF];constructor
 .rintro⟨x,⟨s,a,rfl⟩,b⟩;exact⟨s,a,by rw[<- b,h.join (bE a)]⟩
 .rintro⟨s,a,b⟩;exact⟨s.en,⟨s,a,rfl⟩,by rw[h.join (bE a),b]⟩
def wH{M:List dM}(h:oM M)(e:En):fP M e=iA (M.map dM.en) e:=by
 unfold fP iA;rw[ag];split
 .rfl
 .by_cases a:aN e∈M.map dM.key\/M.length<1024
  .rw[az a,az (by rwa [mM h])]
  .rw[an a,an (by rwa [mM h])]
def DO{M:List dM}(h:oM M)(next:Int)(e:En)(h0:fP M e=0):(kp M next e).map dM.en=lR (M.map dM.en) e:=by
 have c:iA (M.map dM.en) e=0:=by rw[<- wH h];exact h0
 by_cases a:aN e∈M.map dM.key
 .have b:kp M next e=M.set (fN M (aN e)) (kj next e):=by rw[kp,az h0,az a]
  rw[b,lR,az c,ly h,az ((mM h e).2 a)];obtain⟨g,d,_⟩:=(mJ h.s6 _).1 a;rw[gQ,az (ah.1 d).1];simp[kj,eu,eO]
 .have b:kp M next e=M.take (fN M (aN e))++kj next e::M.drop (fN M (aN e)):=by rw[kp,az h0,an a]
  rw[b,lR,az c,ly h,an (λf=>a ((mM h e).1 f))];simp[kj,eu,eO]
def sL{M:List dM}(c:kK M)(k:aG):∀s∈M.take (fN M k),fS s.key k<0:=λs b=>by
 obtain⟨i,a⟩:=ed.1 b;rw[ee]at a;split at a
 .rename_i h;exact(sV c k i s a).2 h
 .cases a
def vP{M:List dM}(c:kK M)(k:aG):∀s∈M.drop (fN M k),¬fS s.key k<0:=λs b h=>by
 obtain⟨i,a⟩:=ed.1 b;rw[db]at a;have:=(sV c k _ s a).1 h;omega
def DP{M:List dM}(h:oM M)(next:Int)(e:En)(w:e.awk):oM (kp M next e):=by
 unfold kp;split
 .rename_i f
  have o:cj e=0:=by
   unfold fP at f;split at f
   .exact f
   .rename_i h;simpa using h
  have F:(kj next e).key=aN (kj next e).en/\(kj next e).dz=dz (kj next e).en.awc/\cj (kj next e).en=0/\(kj next e).en.awk:=⟨rfl,rfl,o,w⟩;have E:=Em M (aN e)
  have g:∀B:List dM,(∀s∈B,s∈M)->kK B->(∀s∈B,fS (aN e) s.key<0)->fN M (aN e)+1+B.length<=1024->oM (M.take (fN M (aN e))++kj next e::B):=λB z D n L =>
   ⟨by rw[aj,aP,ai];omega,by
    unfold kK;rw[cM,aH,jf,dx];have A:((M.take (fN M (aN e))).map dM.key).Pairwise λa b=>fS a b<0:=by rw[eu];exact h.s6.sublist (Fi _ _)
    refine⟨A,⟨λy C=>?_,D⟩,λa x b l=>?_⟩
    .obtain⟨s,c,rfl⟩:=bF.1 C;exact n s c
    .obtain⟨s,c,rfl⟩:=bF.1 x;have j:=sL h.s6 _ s c;rcases bC.1 l with rfl|l
     .exact j
     .obtain⟨t,q,rfl⟩:=bF.1 l;exact lY j (n t q),λs c=>by
    rcases bP.1 c with d|d
    .exact h.ok s (cF d)
    .rcases bC.1 d with rfl|d
     .exact F
     .exact h.ok s (z s d)⟩
  split
  .rename_i k;obtain⟨J,p,r⟩:=(mJ h.s6 _).1 k;have u:=(ah.1 p).1;rw[gQ,az u];refine g _ (λs c=>cH c) ?_ (λs c=>?_) (by rw[bA];have:=h.len;omega)
   .unfold kK;rw[eO];exact h.s6.sublist (so _ _)
   .obtain⟨i,m⟩:=ed.1 c;rw[db]at m;have G:=(ah.1 m).1;have:=l4.1 h.s6 (fN M (aN e)) (fN M (aN e)+1+i) (by rw[ag];omega) (by rw[ag];omega) (by omega);rw[nO,nO,(ah.1 p).2,(ah.1 m).2,r]at this;exact this
  .rename_i k
   have I:M.length<1024:=by
    unfold fP at f;rw[an (by simp[o])]at f;split at f
    .rename_i d;exact d.elim (λh=>absurd h k) id
    .cases f
   refine g _ (λs c=>cH c) ?_ (λs c=>?_) (by rw[bA];omega)
   .unfold kK;rw[eO];exact h.s6.sublist (so _ _)
   .have d:=vP h.s6 _ s c;have j:s.key≠aN e:=λv=>k (bF.2 ⟨s,cH c,v⟩);have H:=gi.my s.key (aN e);have K:fS s.key (aN e)≠0:=λh=>j (kh.1 h);omega
 .exact h
def DN{M:List dM}(next:Int)(e:En):∀s∈kp M next e,s∈M\/s.en=e:=λs a=>by
 unfold kp at a;split at a
 .split at a
  .rcases uj a with h|h
   .exact .inl h
   .exact .inr (by rw[h];rfl)
  .rcases bP.1 a with h|h
   .exact .inl (cF h)
   .rcases bC.1 h with h|h
    .exact .inr (by rw[h];rfl)
    .exact .inl (cH h)
 .exact .inl a
def DQ{M:List dM}(next:Int)(e:En):(kp M next e).length<=M.length+1:=by
 unfold kp;split
 .split
  .rw[fq];omega
  .rw[aj,aP,ai,bA];omega
 .omega

set_option maxRecDepth 8000
set_option maxHeartbeats 2000000
def Jx{J:ak}{n0:Nat}{K:bl}(l:List En)(U:l.length<=2048)(v:∀e∈l,e.awk/\(dz e.awc).length<=2^20):∀(rest pre:List En) (M:List dM) (next:Int) (S:ak),l=pre++rest->CC J M next S->oM M->(∀s∈M,s.en∈l)->M.length<=pre.length->0<=next->next<=pre.length->(∀e,pre.getLast?=some e->cj e=0->pre.length<=1024->e∈M.map dM.en) ->
  (∀(f:List dM) (next':Int) (j:ak),CC J f next' j->oM f->(∀s∈f,s.en∈l)->f.length<=l.length->(∀e,l.getLast?=some e->cj e=0->l.length<=1024->e∈f.map dM.en)->((fj 5 (fh (.ptr (J.length+4) 0) (fh (.sl 8 ((f.map dM.en).map En.awa)) (fj 29 fo)))) λN=>K (.exit 0) ⟨N,j⟩)) ->
  fm n0 prog wQ K (rest.length+1) ⟨(uu 5 (.ptr (J.length+4) 0::.sl 8 ((M.map dM.en).map En.awa)::uu 5 (.sl 8 (l.map En.awa)::.I l.length::.I pre.length::uu 21 []))),S⟩:=by
 intro rest
 induction rest with
 |nil =>
  intro pre M next S c r a w b g E C q
  have c:=cN c
  subst c;refine ar λR z=>?_;simp only[wQ,VV,seval];exact⟨λh=>by simp at h,λ_=>q M next S r a w b C ..⟩
 |cons e rest ih =>
  intro pre M next S c r a w b g E C q
  have W:=mT c
  have B:=dh pre e (by omega)
  have H:decide ((pre.length:Int)<(l.length:Int))=true:=by simp;omega
  have Q:(l.map En.awa).getD pre.length []=e.awa:=by rw[c];simp[aq]
  have D:e∈l:=by rw[c];simp
  have m:=v e D;have F:e.awa.take 8=e.awa:=by simp[En.awa]
  refine ar λR z=>?_;simp only[wQ,H,Q,F,ao,ag,V.pure,↓IT,VV,seval];refine⟨⟨by omega,by omega⟩,by simp[En.awa],?_⟩;simp only[En.awa,V.pure,↓IT,VV,seval];refine aw (DJ (M.map dM.en) a.mem a.awk e m.1 _) (by simp only[En.awa,VV,seval]) ?_;simp only[V.pure,↓IT,VV,seval];rw[<- wH a];refine cD (Ny (r.app _) (by omega) a.s6 a.len e m.1 (by have:=m.2;omega)) (by simp only[En.awa,VV,seval]) ?_;rintro _ j ⟨rfl,p⟩;have A:(fP M e != fP M e)=false:=by simp
  have n:=DP a next e m.1
  have d:∀s∈kp M next e,s.en∈l:=λs v=>(DN next e s v).elim (w s) λh=>by rw[h];exact D
  have u:=DQ (M:=M) next e
  have t:0<=sB M next e/\sB M next e<=next+1:=by unfold sB;split<;>omega
  have G:∀x,(pre++[e]).getLast?=some x->cj x=0->(pre++[e]).length<=1024->x∈(kp M next e).map dM.en:=λx i T O=>by
   rw[Ag]at i;cases i
   have P:fP M e=0:=by
    rw[fP,an (by simp[T])];refine az (.inr ?_);rw[aj,eI]at O;omega
   refine bF.2 ⟨kj next e,?_,rfl⟩;rw[kp,az P];split
   .rename_i L;obtain⟨x,i,_⟩:=(mJ a.s6 _).1 L;exact List.mem_set (ah.1 i).1 _
   .simp
  have k:=ih (pre++[e]) (kp M next e) (sB M next e) j (by simp[c]) p n d (by rw[aj,eI];omega) t.1 (by rw[aj,eI];omega) G q
  by_cases g:fP M e=0
  .have y:=DO a next e g
   have o:(fP M e==0)=true:=by simp[g]
   rw[<- y];simp only[A,o,B,V.pure,↓IT,VV,seval];exact z _ (aK (by repeat' constructor) k)
  .have y:kp M next e=M:=by rw[kp,an g]
   have o:(fP M e==0)=false:=by simp[g]
   rw[y]at k;simp only[A,o,B,V.pure,↓IT,VV,seval];exact z _ (aK (by repeat' constructor) k)
def vL(l:List En)(f:l.length<=2048)(c:∀e∈l,e.awk/\(dz e.awc).length<=2^20)(J:ak):PC prog 22 [.sl 8 (l.map En.awa)] J (λr d=>∃M next,r=.iQ [.ptr (J.length+4) 0,.sl 8 ((M.map dM.en).map En.awa),.b true]/\CC J M next d/\oM M/\(∀s∈M,s.en∈l)/\M.length<=l.length/\∀e,l.getLast?=some e->cj e=0->l.length<=1024->e∈M.map dM.en):=by
 refine aZ func22 p22.2 λn m=>au ?_;simp only[p22,SS,seval];simp only[V.pure,↓IT,VV,seval];refine aw (BJ _) rfl ?_;simp only[ag,V.pure,↓IT,VV,seval];refine bZ.aK (fr':=(uu 5 (.ptr (J.length+4) 0::.sl 8 ((([]:List dM).map dM.en).map En.awa)::uu 5 (.sl 8 (l.map En.awa)::.I l.length::.I (([]:List En).length:Nat)::uu 21 [])))) (by repeat' constructor) (l.length+1) (Jx l f c l [] [] 0 _ rfl (CC.new J) oM.nil (λs c=>by cases c) (fA _) (dJ _) (dJ _) (λe j=>by simp at j) ?_);intro M next d k g i a h
 simp only[JE];intros;simp only[V.pure,↓IT,VV,seval];exact fH (.inr rfl) rfl (Wk.refl _ _) rfl ⟨M,next,rfl,k,g,i,a,h⟩
def F7(l:List En)(c:l.length<=2048)(j:∀e∈l,e.awk/\(dz e.awc).length<=2^20)(J:ak):PC prog 22 [.sl 8 (l.map En.awa)] J (λr a=>∃M next,r=.iQ [.ptr (J.length+4) 0,.sl 8 ((M.map dM.en).map En.awa),.b true]/\CC J M next a/\oM M/\(∀s∈M,s.en∈l)/\M.length<=l.length) :=
 (vL l c j J).mono λ_ _ ⟨M,next,g,d,i,f,h,_⟩=>⟨M,next,g,d,i,f,h⟩

set_option maxRecDepth 4000
set_option maxHeartbeats 1000000
def xA(m:List En)(x:Mt):Int:=((m[x.awg.toNat]?).map λe=>e.awh).getD 0
def OZ(M:List dM):crF M=xA (M.map dM.en):=by
 funext x;simp[crF,xA];rfl
def ye(c:Mt->Int)(a b:Mt):kX c a b<0<->(if a.score≠b.score then b.score<a.score else if a.iC≠b.iC then b.iC<a.iC else if c a≠c b then c b<c a else a.awg<b.awg):=by
 simp only[kX,AK,ox]
 (repeat' split)<;>(try simp_all)<;>omega
def Yv(m:List En)(z:m.length<2^30)(a b:Mt)(p:0<=a.awg/\a.awg<m.length)(o:0<=b.awg/\b.awg<m.length)(h:kX (xA m) a b<0)(J:ak):
  bM prog 24 [.sl 8 (m.map En.awa),.agg a.awa,.agg b.awa] J (.b true):=by
 refine aZ func24 p24.2 λj y=>au ?_;have v:∃x,m[a.awg.toNat]?=some x/\xA m a=x.awh:=⟨m[a.awg.toNat]'(by omega),ax _,by simp[xA,ax (show a.awg.toNat<m.length by omega)]⟩;have t:∃x,m[b.awg.toNat]?=some x/\xA m b=x.awh:=⟨m[b.awg.toNat]'(by omega),ax _,by simp[xA,ax (show b.awg.toNat<m.length by omega)]⟩;obtain⟨d,n,w⟩:=v;obtain⟨f,u,s⟩:=t;have r:gj (m.map En.awa) a.awg.toNat 6=some (.I d.awh):=by simp[gj,n,En.awa]
 have q:gj (m.map En.awa) b.awg.toNat 6=some (.I f.awh):=by simp[gj,u,En.awa]
 rw[ye,w,s]at h;simp only[p24,SS,seval]
 by_cases k:a.score=b.score
 .rw[an (by simp[k])]at h;have e:(a.score != b.score)=false:=by simp[k]
  by_cases i:a.iC=b.iC
  .rw[an (by simp[i])]at h;have g:(a.iC != b.iC)=false:=by simp[i]
   by_cases l:d.awh=f.awh
   .rw[an (by simp[l])]at h;have d3:(d.awh != f.awh)=false:=by simp[l]
    have c:decide (a.awg<b.awg)=true:=lz h;simp only[Mt.awa,r,q,e,g,d3,c,ag,V.pure,↓IT,VV,seval];exact⟨p,o,bg j (.inr rfl) rfl (by simp[LW]) ⟨rfl,rfl⟩⟩
   .rw[az l]at h;have d3:(d.awh != f.awh)=true:=by simp[l]
    have c:decide (f.awh<d.awh)=true:=lz h;simp only[Mt.awa,r,q,e,g,d3,c,ag,V.pure,↓IT,VV,seval];exact⟨p,o,p,o,bg j (.inr rfl) rfl (by simp[LW]) ⟨rfl,rfl⟩⟩
  .rw[az i]at h;have g:(a.iC != b.iC)=true:=by simp[i]
   have c:decide (b.iC<a.iC)=true:=lz h;simp only[Mt.awa,e,g,c,V.pure,↓IT,VV,seval];exact bg j (.inr rfl) rfl (by simp[LW]) ⟨rfl,rfl⟩
 .rw[az k]at h;have e:(a.score != b.score)=true:=by simp[k]
  have c:decide (b.score<a.score)=true:=lz h;simp only[Mt.awa,e,c,V.pure,↓IT,VV,seval];exact bg j (.inr rfl) rfl (by simp[LW]) ⟨rfl,rfl⟩
def TF{J:ak}{K:bl}(l:List Mt)(k:l.length<2^30):∀(rest pre:List Mt),l=pre++rest ->
  (((fj 26 fo) λi=>K (.exit 0) ⟨i,J⟩)) ->
  fm J.length prog D4 K (rest.length+1) ⟨(.sl 5 (l.map Mt.awa)::.sl 5 (l.map Mt.awa)::uu 10 (.I l.length::.I pre.length::uu 12 [])),J⟩:=by
 intro rest
 induction rest with
 |nil =>
  intro pre a b;have a:=cN a
  subst a;refine ar λR d=>?_;simp only[D4,VV,seval];exact⟨λh=>by simp at h,λ_=>b ..⟩
 |cons y rest ih =>
  intro pre a b;have j:=mT a
  have g:=dh pre y (by omega)
  have c:(List.map Mt.awa l).getD pre.length []=y.awa:=by rw[a];simp[aq]
  have f:decide ((pre.length:Int)<(l.length:Int))=true:=by simp;omega
  have e:(0:Int)<=(pre.length:Int)/\(pre.length:Int)<(l.length:Int):=by omega
  simp only[Mt.awa]at c;refine ar λR d=>?_;simp only[D4,c,f,g,Ut,kO,ag,ao,V.pure,↓IT,VV,seval];refine⟨e,e,?_⟩;exact d _ (aK (by repeat' constructor) (ih (pre++[y]) (by simp[a]) b))
def IF(l:List Mt)(c:l.length<2^30)(J:ak):bM prog 25 [.sl 5 (l.map Mt.awa),.sl 5 (l.map Mt.awa)] J (.b true):=by
 refine aZ func25 p25.2 λe d=>au ?_;have a:((l.length:Int) != (l.length:Int))=false:=by simp
 simp only[p25,SS,seval];simp only[ag,a,V.pure,↓IT,VV,seval];refine bZ.aK (fr':=(.sl 5 (l.map Mt.awa)::.sl 5 (l.map Mt.awa)::uu 10 (.I l.length::.I (([]:List Mt).length:Nat)::uu 12 []))) (by repeat' constructor) (l.length+1) (TF l c l [] rfl ?_);simp only[JE];intros;simp only[VV,seval];exact aO (.inr rfl) rfl ⟨rfl,rfl⟩

set_option maxRecDepth 20000
set_option maxHeartbeats 4000000
def BA{J:ak}{l:bH}:J++[.box 31 [.sl 1 (l.map bV),.I 0]]=gT (J++[.dead]) J.length l 0:=by
 simp[gT]
def po{e:En}{k:Nat}(a:k<=20)(h:pL k e):e.awk/\(dz e.awc).length<=2^20 :=
 ⟨h.awk a,by have:=tx e.awc;have:=h.jr;have:=h.ie;omega⟩
def yA{a:List Pn}(h:∀p∈a,xn p)(b:a.length<=3):rk a=0:=by
 unfold rk;rw[an (by omega)]
 induction a with
 |nil=>rfl
 |cons p a ih =>
  have d:=(h p (by simp)).ok;have c:=ih (λx e=>h x (by simp[e])) (by simp at b;omega);simp only[lM,d,c];rfl

set_option maxRecDepth 8000
set_option maxHeartbeats 2000000
def Rz(l:List Pn)(q:Qr)(tq:List It)(t n:Int)(a:q.threshold<=t):∀(M:List dM) (i:Nat),nG l { q with threshold:=t,gJ:=n } tq i M=(nG l q tq i M).filter λm=>decide (t<=m.score)
 |[],i=>rfl
 |s::r,i=>by
  have e:nG l { q with threshold:=t,gJ:=n } tq i (s::r)=(if t<=(jB s.en s.dz tq l q).score then[{ jB s.en s.dz tq l q with awg:=i }]else[])++nG l { q with threshold:=t,gJ:=n } tq (i+1) r:=rfl;rw[e,nG,kG,Rz l q tq t n a r (i+1)];congr 1
  by_cases h:t<=(jB s.en s.dz tq l q).score
  .rw[az h,az (by omega),jJ (by simpa using h)];rfl
  .rw[an h];split
   .rw[kR (by simpa using h)];rfl
   .rfl
def vK(l:List Pn)(q:Qr)(tq:List It):∀(M:List dM) (i:Nat),(nG l q tq i M).Pairwise λa b=>a.awg<b.awg
 |[],i=>.nil
 |s::r,i=>by
  rw[nG];split
  .rw[fI,dx];exact⟨λm c=>by have:=(tS l q tq r (i+1) m c).1;simp only;omega,vK l q tq r (i+1)⟩
  .exact vK l q tq r (i+1)
def O8{A:List Mt}(h:A.Pairwise λa b=>a.awg<b.awg){a b:Mt}(d:a∈A)(f:b∈A)(e:a.awg=b.awg):a=b:=by
 induction A with
 |nil=>cases d
 |cons x A ih =>
  have h:=dx.1 h;rcases bC.1 d with h1|h1<;>rcases bC.1 f with c|c
  .rw[h1,c]
  .have:=h.1 b c;rw[<- h1]at this;omega
  .have:=h.1 a h1;rw[<- c]at this;omega
  .exact ih h.2 h1 c
def zw{c:Mt->Int}{a b:Mt}(h1:¬kX c a b<0)(d:¬kX c b a<0):a.awg=b.awg:=by
 rw[ye]at h1 d
 (repeat' split at h1)<;>(repeat' split at d)<;>omega
def Fw{A:List Mt}(l:A.Pairwise λa b=>a.awg<b.awg){d:Mt->Int}{x y:List Mt}(e:x.Perm y)(c:∀m∈y,m∈A)(j:x.Pairwise λa b=>¬kX d b a<0)(f:y.Pairwise λa b=>¬kX d b a<0):x=y :=
 pC (λa b g k i h=>O8 l (c a (e.mem_iff.1 g)) (c b k) (zw h i)) j f e
def Nq{c:Mt->Int}{a b:Mt}(h:¬kX c b a<0):b.score<=a.score:=by
 rw[ye]at h;split at h<;>omega
def G5{e:Mt->Int}(t:Int):∀{x:List Mt},(x.Pairwise λa b=>¬kX e b a<0)->x.filter (λm=>decide (t<=m.score))=x.takeWhile λm=>decide (t<=m.score)
 |[],_=>rfl
 |a::x,h=>by
  have h:=dx.1 h
  by_cases c:t<=a.score
  .rw[jJ (by simpa using c),ajm (by simpa using c),G5 t h.2]
  .rw[kR (by simpa using c),ajn (by simpa using c),List.filter_eq_nil_iff];intro b d;have:=Nq (h.1 b d);simp;omega
def nM(t:Int):Nat->List Mt->Nat
 |_,[]=>0
 |0,_=>0
 |n+1,a::x=>if t<=a.score then nM t n x+1 else 0
def Ge(t:Int):∀(n:Nat) (x:List Mt),x.take (nM t n x)=(x.takeWhile λm=>decide (t<=m.score)).take n
 |n,[]=>by cases n<;>rfl
 |0,a::x=>rfl
 |n+1,a::x=>by
  rw[nM]
  by_cases h:t<=a.score
  .rw[az h,ajm (by simpa using h),dt,dt,Ge t n x]
  .rw[an h,ajn (by simpa using h)];rfl
def V4(t:Int):∀(n:Nat) (x:List Mt),nM t n x<=x.length
 |n,[]=>by cases n<;>exact aD _
 |0,a::x=>fA _
 |n+1,a::x=>by
  rw[nM];have:=V4 t n x;split<;>simp<;>omega
def adG{n0:Nat}{S:ak}{K:bl}(B x j k o:V)(m:List En)(J:m.length<2^30)(all:List Mt)(M:all.length<2^30)(C:∀a∈all,0<=a.awg/\a.awg<m.length)(A:all.Pairwise λa b=>kX (xA m) a b<0):∀(rest pre:List Mt),all=pre++rest ->
  (((fj 2 (fh (B) (fh (x) (fj 7 (fh (j) (fj 3 (fh (k) (fh (o) (fh (.sl 5 (all.map Mt.awa)) (fj 142 fo)))))))))) λD=>K (.exit 0) ⟨D,S⟩)) ->
  fm n0 prog ZW K (rest.length+1) ⟨(uu 2 (B::x::uu 7 (j::.sl 8 (m.map En.awa)::uu 2 (k::o::.sl 5 (all.map Mt.awa)::uu 49 (.I all.length::.I pre.length::uu 91 []))))),S⟩:=by
 intro rest
 induction rest with
 |nil =>
  intro pre d s;have d:all=pre:=by simpa using d
  have g:decide ((pre.length:Int)<(all.length:Int))=false:=by rw[d];simp
  refine ar λR w=>?_;simp only[ZW,g,V.pure,↓IT,VV,seval];exact s ..
 |cons y rest ih =>
  intro pre d s;have L:=mT d
  have h:=dh pre y (by omega)
  have i:(List.map Mt.awa all).getD pre.length []=y.awa:=by rw[d];simp[aq]
  have r:gj (List.map Mt.awa all) pre.length 0=some (.I y.awg):=by rw[d];simp[gj,Mt.awa]
  have g:decide ((pre.length:Int)<(all.length:Int))=true:=by simp;omega
  have l:(0:Int)<=(pre.length:Int)/\(pre.length:Int)<(all.length:Int):=by omega
  have G:=C y (by rw[d];simp);have q:decide (y.awg<0)=false:=by simp;omega
  have p:decide ((m.length:Int)<=y.awg)=false:=by simp;omega
  have next:=ih (pre++[y]) (by simp[d]) s
  simp only[Mt.awa]at i;refine ar λR w=>?_;rcases dn pre with f|⟨e,z,f⟩
  .have d3:decide ((0:Int)<(pre.length:Int))=false:=by rw[f];rfl
   simp only[ZW,i,r,g,h,q,p,d3,ag,ao,V.pure,↓IT,VV,seval];refine⟨l,l,.I y.awg,rfl,?_⟩;simp only[i,r,g,h,q,p,d3,ag,ao,V.pure,↓IT,VV,seval];refine⟨nofun,.u,nofun,nofun,.u,nofun,?_⟩;refine bB (c:=false) (v:=.b false) (by simp only[VV,seval]<;>rfl) nofun rfl ?_;simp only[h,V.pure,↓IT,VV,seval];exact w _ (aK (by repeat' constructor) next)
  .have d3:decide ((0:Int)<(pre.length:Int))=true:=by rw[f];simp
   simp only[ZW,i,r,g,h,q,p,d3,ag,ao,V.pure,↓IT,VV,seval];refine⟨l,l,.I y.awg,rfl,?_⟩;simp only[i,r,g,h,q,p,d3,ag,ao,V.pure,↓IT,VV,seval];have E:pre.length=e.length+1:=by rw[f];simp
   have H:IntKind.i64.wrap ((pre.length:Int) - 1)=(e.length:Int):=by rw[E,IntWalk.i64_in _ (by omega)];omega
   have n:(List.map Mt.awa all).getD e.length []=z.awa:=by rw[d,f];simp[aq]
   have F:=C z (by rw[d,f];simp)
   have t:kX (xA m) z y<0:=by
    rw[d,f]at A;exact(jf.1 A).2.2 z (by simp) y (by simp)
   simp only[Mt.awa]at n;simp only[H,n,ao];refine⟨⟨by omega,by omega⟩,_,⟨rfl,by simp⟩,l,_,rfl,?_⟩;refine bB (c:=true) (by simp only[VV,seval]<;>rfl) (λ_=>Yv m J z y F G t _) rfl ?_;simp only[h,V.pure,↓IT,VV,seval];exact w _ (aK (by repeat' constructor) next)
def adF{n0:Nat}{S:ak}{K:bl}(f:V)(z:Nat)(q:Qr)(g:S[z]?=some (.box 24 q.awa))(all:List Mt)(s:all.length<2^30):∀(rest pre:List Mt) (n:Nat),all=pre++rest->q.gJ=((pre.length+n:Nat):Int) ->
  (((fj 17 (fh (.sl 5 (all.map Mt.awa)) (fj 2 (fh (f) (fj 1 (fh (.I (pre.length+nM q.threshold n rest:Nat)) (fj 137 fo))))))) λp=>K (.exit 2) ⟨p,S⟩)) ->
  fm n0 prog Xc K (rest.length+1) ⟨(uu 16 (.ptr z 0::.sl 5 (all.map Mt.awa)::uu 2 (f::uu 1 (.I pre.length::uu 137 [])))),S⟩:=by
 simp only[Qr.awa]at g;intro rest
 induction rest with
 |nil =>
  intro pre n d i b;have d:all=pre:=by simpa using d
  have c:nM q.threshold n []=0:=by cases n<;>rfl
  rw[c,de]at b;have e:decide ((pre.length:Int)<(all.length:Int))=false:=by rw[d];simp
  refine ar λR o=>?_;simp only[Xc,e,g,ag,V.pure,↓IT,VV,seval];refine⟨nofun,.I 0,nofun,?_⟩;simp only[V.pure,↓IT,VV,seval];exact b ..
 |cons y rest ih =>
  intro pre n d i b;have r:=mT d
  have l:=dh pre y (by omega)
  have m:gj (List.map Mt.awa all) pre.length 4=some (.I y.score):=by rw[d];simp[gj,Mt.awa]
  have e:decide ((pre.length:Int)<(all.length:Int))=true:=by simp;omega
  have k:(0:Int)<=(pre.length:Int)/\(pre.length:Int)<(all.length:Int):=by omega
  refine ar λR o=>?_;cases n with
  |zero =>
   have c:nM q.threshold 0 (y::rest)=0:=rfl;rw[c,de]at b;have j:decide ((pre.length:Int)<q.gJ)=false:=by rw[i];simp
   simp only[Xc,e,j,g,ag,V.pure,↓IT,VV,seval];refine⟨nofun,.I 0,nofun,?_⟩;simp only[V.pure,↓IT,VV,seval];exact b ..
  |succ n =>
   have j:decide ((pre.length:Int)<q.gJ)=true:=by rw[i];simp;omega
   by_cases h:q.threshold<=y.score
   .have c:nM q.threshold (n+1) (y::rest)=nM q.threshold n rest+1:=by rw[nM,az h]
    rw[c]at b;have a:decide (q.threshold<=y.score)=true:=lz h;simp only[Xc,e,j,a,l,g,m,ag,ao,V.pure,↓IT,VV,seval];refine⟨k,.I y.score,rfl,?_⟩;simp only[a,l,V.pure,↓IT,VV,seval];exact o _ (aK (by repeat' constructor) (ih (pre++[y]) n (by simp[d]) (by rw[i];simp;omega) (by rw[show(pre++[y]).length+nM q.threshold n rest=pre.length+(nM q.threshold n rest+1)by simp;omega];exact b)))
   .have c:nM q.threshold (n+1) (y::rest)=0:=by rw[nM,an h]
    rw[c,de]at b;have a:decide (q.threshold<=y.score)=false:=nf h;simp only[Xc,e,j,a,g,m,ag,ao,V.pure,↓IT,VV,seval];refine⟨k,.I y.score,rfl,?_⟩;simp only[a,V.pure,↓IT,VV,seval];exact b ..

set_option maxRecDepth 20000
set_option maxHeartbeats 4000000
def aaE{q:Qr}(h:fi q=0)(t n:Int)(a:1<=t/\t<=102)(c:1<=n/\n<=100):fi { q with threshold:=t,gJ:=n }=0:=by
 have b:=uG h;unfold fi at h |-;simp only at h |-
 (repeat' split at h)<;>omega
def Ly(l m:bH)(gJ g:Int)(J:ak):bM prog 6 [.sl 1 (l.map bV),.sl 1 (m.map bV),.I gJ,.I g] J (.b true):=by
 refine aZ func6 c6 λbn dN=>?_;simp only[p6,SS,seval];refine bZ.cut λR d=>?_;simp only[VV,seval];refine d _ (bZ.fg (fr':=(.sl 1 (l.map bV)::.sl 1 (m.map bV)::.I gJ::.I g::uu 156 [])) ?_ (by repeat' constructor));clear d R;refine bZ.cut λR d=>?_;simp only[ag,V.pure,VV,seval];refine⟨λ_=>?_,λ_=>?_⟩
 .refine aw (qO _) rfl ?_;simp only[VV,seval];exact aO (.inr rfl) rfl ⟨rfl,rfl⟩
 refine d _ (bZ.fg (fr':=(.sl 1 (l.map bV)::.sl 1 (m.map bV)::.I gJ::.I g::uu 156 [])) ?_ (by repeat' constructor));clear d R;refine bZ.cut λR d=>?_;simp only[V.pure,VV,seval];refine d _ (bZ.fg (fr':=(uu 1 (.sl 1 (m.map bV)::.I gJ::.I g::uu 5 (.ptr J.length 0::uu 150 [])))) ?_ (by repeat' constructor));clear d R;rw[BA];refine bZ.cut λR d=>?_;simp only[V.pure,VV,seval];refine cD (vM _ J.length (by simp) l 0 (by decide) 7 (by decide)) rfl ?_;rintro _ _ ⟨u,k1,rfl,D,g2,g3,rfl⟩;have S:gT (J++[.dead]) J.length l k1=J++[.box 31 [.sl 1 (l.map bV),.I k1]]:=by simp[gT]
 rw[S];generalize Ob.box 31 _=nb;simp only[V.pure,VV,seval];refine d _ (bZ.fg (fr':=(uu 1 (.sl 1 (m.map bV)::.I gJ::.I g::uu 6 (.sl 8 (u.map En.awa)::uu 149 [])))) ?_ (by repeat' constructor));clear d R;refine bZ.cut λR d=>?_;simp only[V.pure,VV,seval];refine cD (F7 u (by omega) (λe he=>po (by omega) (D e he)) _) rfl ?_;rintro _ i ⟨M,next,rfl,hF,hM,oo,ac⟩;simp only[V.pure,VV,seval];refine d _ (bZ.fg (fr':=(uu 1 (.sl 1 (m.map bV)::.I gJ::.I g::uu 6 (.sl 8 (u.map En.awa)::.ptr (J.length+1+4) 0::.sl 8 ((M.map dM.en).map En.awa)::.b true::uu 146 [])))) ?_ (by repeat' constructor));clear d R;refine bZ.cut λR d=>?_;simp only[V.pure,VV,seval];refine d _ (bZ.fg (fr':=(uu 2 (.I gJ::.I g::uu 6 (.sl 8 (u.map En.awa)::.ptr (J.length+1+4) 0::.sl 8 ((M.map dM.en).map En.awa)::.b true::.ptr i.length 0::uu 145 [])))) ?_ (by repeat' constructor));clear d R;obtain⟨ad,K⟩:=hF.pre;rw[BA];refine bZ.cut λR d=>?_;simp only[V.pure,VV,seval];refine cD (zn _ i.length (by simp) m 0 (by decide) 3 (by decide)) rfl ?_;rintro _ _ ⟨j,k2,rfl,U,Z,p3,rfl⟩;simp only[V.pure,VV,seval];refine cD (AN _ i.length (by simp) m k2 (by omega) u D (by omega)) rfl ?_;rintro _ _ ⟨x,k3,rfl,w,_,rfl⟩;have Rr:gT (i++[.dead]) i.length m k3=i++[.box 31 [.sl 1 (m.map bV),.I k3]]:=by simp[gT]
 rw[Rr];generalize Ob.box 31 _=nb2;simp only[Qr.awa,bf,V.pure,VV,seval];refine d _ (bZ.fg (fr':=(uu 2 (.I gJ::.I g::uu 7 (.ptr (J.length+1+4) 0::.sl 8 ((M.map dM.en).map En.awa)::.b true::uu 1 (.sl 5 (j.map Pn.awa)::.ptr (i.length+1) 0::uu 143 []))))) ?_ (by repeat' constructor));clear d R;refine bZ.cut λR d=>?_;simp only[V.pure,VV,seval];refine d _ (bZ.fg (fr':=(uu 2 (.I gJ::.I g::uu 7 (.ptr (J.length+1+4) 0::.sl 8 ((M.map dM.en).map En.awa)::.b true::uu 1 (.sl 5 (j.map Pn.awa)::.ptr (i.length+1) 0::uu 143 []))))) ?_ (by repeat' constructor));clear d R;have VO:(J++[nb]).length=J.length+1:=by simp
 have aa:M.length<=7:=by omega
 have HF:∀(q:Qr) (Y:ak),UC q->PC prog 23 [.ptr (J.length+1+4) 0,.sl 5 (j.map Pn.awa),.agg q.awa] (i++Y) (λr S'=>Pb M j q r/\S'=i++Y):=λq Y k=>by
  have ku:∀e∈u,KQ e j q:=λz hz=>OR (by omega) (D z hz) U (by omega) k
  have H:=EK (hF.app Y) (by omega) j (by omega) q (by have:=k.prev;omega) (by have:=k.next;omega) (by have:=k.jr;omega) (by have:=k.ie;omega) (by have:=tx q.awc;have:=k.jr;have:=k.ie;omega)
   (λs X=>⟨by rw[(hM.ok s X).2.1];exact(po (by omega) (D _ (oo s X))).2,(ku _ (oo s X)).sc⟩)
  rw[VO]at H;exact H
 obtain⟨q,B⟩:∃q:Qr,q={ x with threshold:=1,gJ:=100 }:=⟨_,rfl⟩;have o:q.awa=[.sl 3 (x.awc.map It.awa),.s x.bU,.s x.next,.I x.now,.I 1,.I 100]:=by rw[B];rfl
 have k:UC q:=by rw[B];exact⟨aaE w.ok 1 100 (by decide) (by decide),w.jr,w.ie,w.prev,w.next⟩
 have O:q.gJ=100:=by rw[B]
 have E:q.threshold=1:=by rw[B]
 rw[<- o];refine bZ.cut λR d=>?_;simp only[o,V.pure,VV,seval];rw[<- o];refine cD (HF q _ k) (by simp only[o,VV,seval]) ?_;rintro _ _ ⟨W,rfl⟩;rcases W with⟨h,_⟩|⟨_,h,_⟩|⟨_,_,all,C,p,rfl⟩
 .exact absurd k.ok h
 .exact absurd (yA U Z) h
 have xc:all.length<=7:=by rw[C.length_eq];have:=yr j q (dz q.awc) M 0;omega
 rw[O,bW (by simp;omega)];simp only[V.pure,VV,seval];refine d _ (bZ.fg (fr':=(uu 2 (.I gJ::.I g::uu 7 (.ptr (J.length+1+4) 0::.sl 8 ((M.map dM.en).map En.awa)::.b true::uu 1 (.sl 5 (j.map Pn.awa)::.ptr (i.length+1) 0::.sl 5 (all.map Mt.awa)::.I 0::uu 141 []))))) ?_ (by repeat' constructor));clear d R;refine bZ.cut λR d=>?_;simp only[V.pure,↓IT,VV,seval];refine d _ (bZ.fg (fr':=(uu 2 (.I gJ::.I g::uu 7 (.ptr (J.length+1+4) 0::.sl 8 ((M.map dM.en).map En.awa)::uu 2 (.sl 5 (j.map Pn.awa)::.ptr (i.length+1) 0::.sl 5 (all.map Mt.awa)::uu 142 []))))) ?_ (by repeat' constructor));clear d R;have hA:=vK j q (dz q.awc) M 0;have Hy:=tS j q (dz q.awc) M 0;have F:all.Pairwise λa b=>a.awg≠b.awg:=(C.pairwise_iff (λh=>h.symm)).2 (hA.imp λh=>by omega)
 have G:all.Pairwise λa b=>kX (xA (M.map dM.en)) a b<0:=by
  rw[<- OZ];exact(p.and F).imp λ{a b} h=>bN λh2=>h.2 (zw h2 h.1)
 refine bZ.cut λR d=>?_;simp only[ag,V.pure,VV,seval]
 refine bZ.aK (fr':=(uu 2 (.I gJ::.I g::uu 7 (.ptr (J.length+1+4) 0::.sl 8 ((M.map dM.en).map En.awa)::uu 2 (.sl 5 (j.map Pn.awa)::.ptr (i.length+1) 0::.sl 5 (all.map Mt.awa)::uu 49 (.I all.length::.I (([]:List Mt).length:Nat)::uu 91 [])))))) (by repeat' constructor) (all.length+1) (adG _ _ _ _ _ (M.map dM.en) (by rw[ag];omega) all (by omega) (λa ha=>by
   have:=Hy a (C.mem_iff.1 ha);rw[ag];omega) G all [] rfl ?_)
 simp only[JE];intros;simp only[VV,seval];refine d _ (bZ.fg (fr':=(uu 2 (.I gJ::.I g::uu 7 (.ptr (J.length+1+4) 0::uu 3 (.sl 5 (j.map Pn.awa)::.ptr (i.length+1) 0::.sl 5 (all.map Mt.awa)::uu 142 []))))) ?_ (by repeat' constructor));clear d R;have LH:=tK (x:=gJ) (n:=9) (by decide);have TR:=tK (x:=g) (n:=102) (by decide);refine bZ.cut λR d=>?_;simp only[V.pure,VV,seval];refine aw (AE gJ 9 (by decide) (by decide) _) rfl ?_;simp only[V.pure,VV,seval];refine aw (AE g 102 (by decide) (by decide) _) rfl ?_;generalize place gJ 9=v1 at LH |-;generalize place g 102=v2 at TR |-;have HU:IntKind.i64.wrap (1+v1)=1+v1:=IntWalk.i64_in _ (by omega);have wx:IntKind.i64.wrap (1+v2)=1+v2:=IntWalk.i64_in _ (by omega);simp only[o,HU,wx,V.pure,VV,seval];obtain⟨f,v⟩:∃f:Qr,f={ q with threshold:=1+v2,gJ:=1+v1 }:=⟨_,rfl⟩;have t:f.awa=[.sl 3 (x.awc.map It.awa),.s x.bU,.s x.next,.I x.now,.I (1+v2),.I (1+v1)]:=by rw[v,B];rfl
 have y:UC f:=by rw[v];exact⟨aaE k.ok (1+v2) (1+v1) (by omega) (by omega),k.jr,k.ie,k.prev,k.next⟩
 have A:f.gJ=1+v1:=by rw[v]
 have N:f.threshold=1+v2:=by rw[v]
 have Q:f.awc=q.awc:=by rw[v]
 rw[<- t];refine d _ (bZ.fg (fr':=(uu 11 (.ptr (J.length+1+4) 0::uu 3 (.sl 5 (j.map Pn.awa)::.ptr (i.length+1) 0::.sl 5 (all.map Mt.awa)::uu 142 [])))) ?_ (by repeat' constructor));clear d R;refine bZ.cut λR d=>?_;simp only[t,V.pure,VV,seval];rw[<- t];refine cD (HF f _ y) (by simp only[t,VV,seval]) ?_;rintro _ _ ⟨W,rfl⟩;rcases W with⟨h,_⟩|⟨_,h,_⟩|⟨_,_,xs,Ah,P,rfl⟩
 .exact absurd y.ok h
 .exact absurd (yA U Z) h
 have Pp:xs.take f.gJ.toNat=all.take (nM f.threshold f.gJ.toNat all):=by
  have e1:=Rz j q (dz q.awc) (1+v2) (1+v1) (by rw[E];omega) M 0;rw[<- v,<- N]at e1;rw[Q,e1]at Ah;have K:xs=all.filter λm=>decide (f.threshold<=m.score):=Fw hA (Ah.trans (C.filter _).symm) (λm hm=>C.mem_iff.1 (cZ.1 hm).1) P (p.filter _);rw[K,G5 _ p,Ge]
 rw[Pp];simp only[V.pure,VV,seval];refine d _ (bZ.fg (fr':=(uu 16 (.ptr (i.length+1) 0::.sl 5 (all.map Mt.awa)::uu 2 (.sl 5 ((all.take (nM f.threshold f.gJ.toNat all)).map Mt.awa)::.I 0::uu 138 [])))) ?_ (by repeat' constructor));clear d R;have iU:=V4 f.threshold f.gJ.toNat all;have ab:(all.take (nM f.threshold f.gJ.toNat all)).length<=f.gJ.toNat:=by rw[Ge,aP];omega
 have hd:decide (1+v1<((all.take (nM f.threshold f.gJ.toNat all)).length:Int))=false:=by
  simp only[dB,Dd];have:(f.gJ.toNat:Int)=1+v1:=by rw[A];omega
  omega
 refine bZ.cut λR d=>?_;simp only[t,hd,ag,V.pure,↓IT,VV,seval];rw[<- t];generalize L:(all.take (nM f.threshold f.gJ.toNat all)).map Mt.awa=sm;refine d _ (bZ.fg (fr':=(uu 16 (.ptr (i.length+1) 0::.sl 5 (all.map Mt.awa)::uu 2 (.sl 5 sm::uu 139 [])))) (au ?_) (by repeat' constructor));clear d R;have T:f.gJ=((([]:List Mt).length+f.gJ.toNat:Nat):Int):=by simp;rw[A];omega
 simp only[V.pure,VV,seval];refine bZ.aK (fr':=(uu 16 (.ptr (i.length+1) 0::.sl 5 (all.map Mt.awa)::uu 2 (.sl 5 sm::uu 1 (.I (([]:List Mt).length:Nat)::uu 137 []))))) (by repeat' constructor) (all.length+1) (adF _ (i.length+1) f (by simp) all (by omega) all [] f.gJ.toNat rfl T ?_);simp only[JE];intros;have ht:List.take (([]:List Mt).length+nM f.threshold f.gJ.toNat all) (all.map Mt.awa)=(all.take (nM f.threshold f.gJ.toNat all)).map Mt.awa:=by rw[<- List.map_take];simp
 simp only[ag,ao,V.pure,↓IT,VV,seval];refine⟨⟨by omega,by omega⟩,?_⟩;refine aw (IF (all.take (nM f.threshold f.gJ.toNat all)) (by rw[aP];omega) _) (by rw[<- L];simp only[eu,VV,seval]) ?_;simp only[V.pure,↓IT,VV,seval];refine bB (c:=true) (by simp only[VV,seval]<;>rfl) (λ_=>qO _) rfl ?_;simp only[V.pure,↓IT,VV,seval];rw[K];simp only[bk];exact gq bn (by rfl) (by simp[LW])
end Go.Proofs.Tryz

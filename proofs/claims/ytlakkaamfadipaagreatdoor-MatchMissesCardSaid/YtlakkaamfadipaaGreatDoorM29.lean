/- A part of a proof; the claim's last text says of what. -/
import Derived.Test.YtlakkaamfadipaaGreatDoorM28
set_option linter.all false
set_option maxHeartbeats 2000000
open Bool renaming true->A,false->Z
open Go.Proofs.Tryz renaming prog->θ
open List renaming length->F

namespace Go.Proofs.Tryz
open Go Go.Pm Go.Bt
variable(n:Nat)(U:Nat)(S:Nat)(X:Rd)(c:UInt8)(J:ag)
def SP:bO θ 207 [.i .u8 c.toNat] J (.gy [.i .u8 (iB c).1.toNat,.b (iB c).2]):=by
 refine a6 func207 aiD λe d=>ay ?_;simp only[aca,SS,seval];simp only[W,seval];refine⟨λh=>?_,λh=>⟨λa=>?_,λa=>?_⟩⟩<;>refine aY (.inr rfl) rfl ?_;.simp at h;have:=Wp c (by omega);simp[one,this]
 .simp at a;have:=Wo c (by omega);simp[one,this]
 simp at h a;have:=ZN c (by omega) (by omega);simp[one,this]
def Ig:bO θ 159 [.i .u8 c.toNat] J (.b (rB c)):=by refine a6 func159 ajc λd a=>ay ?_;simp only[acM,SS,seval];simp only[W,seval];refine b7 (by simp only[W,seval];rfl) (λ_=>nk c _) rfl ?_;simp only[W,seval];refine aY (.inr rfl) rfl ⟨?_,rfl⟩;simp only[one,rB,aO,aZ,V.b.injEq];simp only[<- Yv];rfl
def P3(s:aJ)(J:ag):bO θ 156 [.s s] J (.gy [.i .u8 (dn s).1.toNat,.I (dn s).2.1,.b (dn s).2.2]):=by
 refine a6 func156 ajf λo n=>ay ?_;simp only[acP,SS,seval];by_cases j:F s<2
 .have g:decide ((F s:Int)<2)=A:=by simp;omega
  simp only[g,W,seval];refine aY (.inr rfl) rfl ⟨?_,rfl⟩;simp[one,dn,j]
 have g:decide ((F s:Int)<2)=Z:=by simp;omega
 have f:(0:Int)<=1/\(1:Int)<F s:=by omega
 by_cases a:s.getD 1 0=92
 .simp only[g,NV (k:=92) a rfl,W,seval,-Int.reduceLE];repeat refine ak f ?_
  refine aY (.inr rfl) rfl ⟨?_,rfl⟩;have e:dn s=(s.getD 1 0,2,A):=by simp[dn,j,<- List.getD_eq_getElem?_getD,a]
  rw[e];rfl
 by_cases d:s.getD 1 0=60
 .simp only[g,qj (k:=92) a rfl,NV (k:=60) d rfl,W,seval,-Int.reduceLE];repeat refine ak f ?_
  refine aY (.inr rfl) rfl ⟨?_,rfl⟩;have e:dn s=(s.getD 1 0,2,A):=by simp[dn,j,<- List.getD_eq_getElem?_getD,a,d]
  rw[e];rfl
 by_cases mH:s.getD 1 0=123
 .simp only[g,qj (k:=92) a rfl,qj (k:=60) d rfl,NV (k:=123) mH rfl,W,seval,-Int.reduceLE];repeat refine ak f ?_
  refine aY (.inr rfl) rfl ⟨?_,rfl⟩;have e:dn s=(s.getD 1 0,2,A):=by simp[dn,j,<- List.getD_eq_getElem?_getD,a,d,mH]
  rw[e];rfl
 by_cases DS:s.getD 1 0=110
 .simp only[g,qj (k:=92) a rfl,qj (k:=60) d rfl,qj (k:=123) mH rfl,NV (k:=110) DS rfl,W,seval,-Int.reduceLE];repeat refine ak f ?_
  refine aY (.inr rfl) rfl ⟨?_,rfl⟩;have e:dn s=(10,2,A):=by simp[dn,j,<- List.getD_eq_getElem?_getD,a,d,mH,DS]
  rw[e];rfl
 by_cases JF:s.getD 1 0=116
 .simp only[g,qj (k:=92) a rfl,qj (k:=60) d rfl,qj (k:=123) mH rfl,qj (k:=110) DS rfl,NV (k:=116) JF rfl,W,seval,-Int.reduceLE];repeat refine ak f ?_
  refine aY (.inr rfl) rfl ⟨?_,rfl⟩;have e:dn s=(9,2,A):=by simp[dn,j,<- List.getD_eq_getElem?_getD,a,d,mH,DS,JF]
  rw[e];rfl
 have all:∀{c:UInt8},s.getD 1 0=c->c=120->dn s=if F s<4 then(0,0,Z)else(jq (s.getD 2 0) (s.getD 3 0),4,(iB (s.getD 2 0)).2&&(iB (s.getD 3 0)).2&&(jq (s.getD 2 0) (s.getD 3 0)==13||du (jq (s.getD 2 0) (s.getD 3 0))==1)):=by rintro c h rfl;simp only[dn,j,h,aQ];rfl
 by_cases LX:s.getD 1 0=120
 .have e:=all LX rfl;by_cases m:F s<4
  .have l:decide ((F s:Int)<4)=A:=by simp;omega
   simp only[g,l,qj (k:=92) a rfl,qj (k:=60) d rfl,qj (k:=123) mH rfl,qj (k:=110) DS rfl,qj (k:=116) JF rfl,NV (k:=120) LX rfl,W,seval,-Int.reduceLE];repeat refine ak f ?_
   refine aY (.inr rfl) rfl ⟨?_,rfl⟩;rw[e,aK m];rfl
  have l:decide ((F s:Int)<4)=Z:=by simp;omega
  rw[au m]at e;simp only[g,l,qj (k:=92) a rfl,qj (k:=60) d rfl,qj (k:=123) mH rfl,qj (k:=110) DS rfl,qj (k:=116) JF rfl,NV (k:=120) LX rfl,W,seval,-Int.reduceLE];repeat refine ak f ?_
  refine⟨by omega,?_⟩;refine aA (SP (s.getD 2 0) _) rfl ?_;simp only[Int.reduceToNat,W,seval];refine⟨by omega,?_⟩;refine aA (SP (s.getD 3 0) _) rfl ?_;simp only[Lv,W,seval,-Int.reduceLE];refine⟨by omega,?_⟩;refine b7 (by simp only[W,seval];rfl) (λ_=>nk (jq (s.getD 2 0) (s.getD 3 0)) _) rfl ?_;simp only[W,seval];refine aY (.inr rfl) rfl ⟨?_,rfl⟩;rw[e];simp only[one,aO,aZ];rw[<- xG];rfl
 simp only[g,qj (k:=92) a rfl,qj (k:=60) d rfl,qj (k:=123) mH rfl,qj (k:=110) DS rfl,qj (k:=116) JF rfl,qj (k:=120) LX rfl,W,seval,-Int.reduceLE];repeat refine ak f ?_
 refine aY (.inr rfl) rfl ⟨?_,rfl⟩;have e:dn s=(0,0,Z):=by simp[dn,j,<- List.getD_eq_getElem?_getD,a,d,mH,DS,JF,LX]
 rw[e];rfl
def Vn{J:ag}{K:bj}(s:aJ)(e:F s<4):∀(a pre:aJ) (n:Int),s=pre++a->0<=n->n<10^F pre ->(a.all dZ=A->((fj 4 (fh (.I (dX n a)) (fj 41 fo))) λj=>K (.exit 0) ⟨j,J⟩)) ->(a.all dZ=Z->((fj 2 (fh (.I 0) (fh (.b Z) (fj 42 fo)))) λj=>K .ret ⟨j,J⟩)) ->fS (F J) θ FM K (F a+1) ⟨(.s s::uu 3 (.I n::.I (F pre)::uu 40 [])),J⟩:=by
 intro a;induction a with
 |nil =>intro pre n f t m i g;have f:=db f;subst f;refine aF λR l=>?_;simp only[FM,W,seval];exact⟨λh=>by simp at h,λ_=>i rfl ..⟩
 |cons c a ih =>
 intro pre n f t m i g;subst f;refine aF λR l=>?_;simp only[FM,W,seval];have d:dZ c=!(decide ((c.toNat:Int)<48)||decide (57<(c.toNat:Int))):=by rw[dL];simp[dZ];omega
 refine⟨λ_=>⟨by simp;omega,λ_=>by simp;omega,λh=>?_,λh=>⟨by simp;omega,?_⟩⟩,λh=>by simp at h<;>omega⟩;.rw[h]at d;exact g (by simp[d]) ..
 rw[h]at d;have d:dZ c=A:=d;have v:F pre<3:=by simp at e;omega
 have r:(10:Int)^F pre<=10^2:=by
  have:F pre=0\/F pre=1\/F pre=2:=by omega
  rcases this with h|h|h<;>rw[h]<;>decide
 have q:=d;simp only[dZ,aP,a7]at q;have p:n<100:=Int.lt_of_lt_of_le m (by simpa using r);have o:IntKind.i64.wrap (IntKind.i64.wrap (10*n)+IntKind.i64.wrap (IntKind.u8.wrap ((c.toNat:Int) - 48)))=10*n+(c.toNat - 48:Int):=by rw[QU c d,IntWalk.i64_in (10*n) (by omega),IntWalk.i64_in ((c.toNat:Int) - 48) (by omega),IntWalk.i64_in _ (by omega)]
 have u:dX n (c::a)=dX (10*n+(c.toNat - 48:Int)) a:=rfl;have k:(c::a).all dZ=a.all dZ:=by simp[d]
 rw[u,k]at i;rw[k]at g;refine l _ (aX ?_ (ih (pre++[c]) (10*n+(c.toNat - 48:Int)) (by simp) (by omega) ?_ i g));.rw[o,cq (by simp at e;omega)];simp only[ai,ah,az];repeat' constructor
 simp only[ai,ah,az,Int.pow_succ];omega
def ya(s:aJ)(J:ag):bO θ 211 [.s s] J (.gy [.I (apd s).1,.b (apd s).2]):=by
 refine a6 func211 aiA λm j=>ay ?_;simp only[ab7,SS,seval];by_cases a:F s<1\/3<F s\/s.getD 0 0=48
 .have e:apd s=(0,Z):=by simp only[apd,a,aU]
  have d:((decide ((F s:Int)<1)||decide (3<(F s:Int)))||(((s.getD 0 0).toNat:Int)==48))=A:=by
   rcases a with h|h|h;.simp;omega
   .simp;omega
   rw[NV (k:=48) h rfl];simp
  simp only[Int.reduceToNat,d,W,seval];refine⟨λh=>?_,aY (.inr rfl) rfl ⟨by rw[e];rfl,rfl⟩⟩;simp at h;omega
 have f:¬F s<1/\¬3<F s/\¬s.getD 0 0=48:=by refine⟨λh=>a (.inl h),λh=>a (.inr (.inl h)),λh=>a (.inr (.inr h))⟩
 have d:((decide ((F s:Int)<1)||decide (3<(F s:Int)))||(((s.getD 0 0).toNat:Int)==48))=Z:=by rw[qj (k:=48) f.2.2 rfl];simp;omega
 simp only[d,W,seval];refine⟨λ_=>by omega,?_⟩;refine cd.aX ?_ (F s+1) (Vn s (by omega) s [] 0 rfl (cP _) (by decide) (λc=>?_) (λc=>?_));.repeat' constructor
 .simp only[JE];intros;simp only[W,seval];refine aY (.inr rfl) rfl ⟨?_,rfl⟩;have l:=Cr s 0 (F s) rfl c (cP _);have i:(10:Int)^F s<=10^3:=by
   have:F s=1\/F s=2\/F s=3:=by omega
   rcases this with h|h|h<;>rw[h]<;>decide
  have g:dX 0 s<=999:=by omega
  have e:apd s=(dX 0 s,A):=by simp only[apd,au a,c,aU]
  rw[e];simp[one,g]
 simp only[JE];intros;refine aY (.inr rfl) rfl ⟨?_,rfl⟩;have e:apd s=(0,Z):=by simp only[apd,au a,c];rfl
 rw[e];rfl
def YB(s:aJ)(J:ag):bO θ 158 [.s s] J (.gy [.agg (ja s).1.aoZ,.b (ja s).2]):=by
 refine a6 func158 ajd λg r=>ay ?_;have n:=Da (r 0 _ rfl).1;simp only[acN,SS,seval];simp only[VV,seval];refine aA (GJ s [47] _) rfl ?_;simp only[VV,seval];refine⟨λj=>?_,λj=>?_⟩
 .have z:1<=F s:=by simp only[apj,aP,a7]at j;simpa using j.1
  have o:(s.drop 1).take (F s - 1)=s.drop 1:=by rw[cn];simp
  refine⟨by omega,?_⟩;refine aA (Cs (s.drop 1) 58 _) (by simp only[aC,bI,VV,seval];rw[o]) ?_;simp only[VV,seval];generalize k:cutAt (s.drop 1) 58=q;obtain⟨a,b,f⟩:=q;refine b7 (c:=Z) (v:=.b Z) (by simp only[VV,seval]<;>rfl) (nofun) rfl ?_;simp only[VV,seval];refine aA (ya a _) rfl ?_;simp only[VV,seval];cases f with
  |false =>
   have e:ja s=(⟨0,[],0⟩,Z):=by unfold ja;simp only[j,aU,k];simp
   simp only[VV,seval];rw[e];exact bl g (.inr rfl) (by simp only[RS,seval];rfl) (by simp[LW]) ⟨rfl,rfl⟩
  |true =>
  simp only[VV,seval];refine⟨λh=>?_,λh=>?_⟩
  .have h:(apd a).2=Z:=by simpa using h
   have e:ja s=(⟨0,[],0⟩,Z):=by unfold ja;simp only[j,aU,k];simp[h]
   rw[e];exact bl g (.inr rfl) (by simp only[RS,seval];rfl) (by simp[LW]) ⟨rfl,rfl⟩
  have h:(apd a).2=A:=by simpa using h
  have e:ja s=(⟨3,b,(apd a).1⟩,apb b):=by unfold ja;simp only[j,aU,k];simp[h]
  rw[e];refine aA (kX b _) rfl ?_;simp only[VV,seval];exact bl g (.inr rfl) (by simp only[RS,seval];rfl) (by simp[LW]) ⟨rfl,rfl⟩
 refine aA (Cs s 58 _) rfl ?_;simp only[VV,seval];generalize k:cutAt s 58=q;obtain⟨a,b,f⟩:=q;refine b7 (c:=A) (by simp only[VV,seval]<;>rfl) (λh=>GH b [47] _) rfl ?_;simp only[VV,seval];have i:∀(d:Int) (content:aJ),d≠3->ja s=(if f&&(apd a).2 then(⟨d,content,(apd a).1⟩,if d=3 then apb content else dx content)else(⟨0,[],0⟩,Z)) ->
   (((f=Z)\/(apd a).2=Z)->ja s=(⟨0,[],0⟩,Z))/\(f=A->(apd a).2=A->ja s=(⟨d,content,(apd a).1⟩,dx content)):=by
  intro d content u e;rw[e];refine⟨?_,?_⟩;.rintro(h|h)<;>rw[h]<;>simp
  intro w m;simp[w,m,u]
 refine⟨λl=>?_,λl=>?_⟩
 .have y:1<=F b:=by simp only[hasSuffix,aP,a7]at l;simpa using l.1
  have p:F b<2^63:=by
   have:b=(cutAt s 58).2.1:=by rw[k]
   have m:F b<=F s:=by rw[this];simp only[cutAt];split<;>simp
   omega
  have x:IntKind.i64.wrap ((F b:Int) - 1)=((F b - 1:Nat):Int):=by rw[IntWalk.i64_in _ (by omega)];omega
  have t:=i 4 (b.take (F b - 1)) (by decide) (by unfold ja;simp[j,k,l]);simp only[x,aG,VV,seval];refine⟨by omega,?_⟩;refine aA (ya a _) rfl ?_;simp only[VV,seval];cases f with
  |false =>simp only[VV,seval];rw[t.1 (.inl rfl)];exact bl g (.inr rfl) (by simp only[RS,seval];rfl) (by simp[LW]) ⟨rfl,rfl⟩
  |true =>
  simp only[VV,seval];refine⟨λh=>?_,λh=>?_⟩
  .have h:(apd a).2=Z:=by simpa using h
   rw[t.1 (.inr h)];exact bl g (.inr rfl) (by simp only[RS,seval];rfl) (by simp[LW]) ⟨rfl,rfl⟩
  have h:(apd a).2=A:=by simpa using h
  rw[t.2 rfl h];refine aA (og _ _) rfl ?_;simp only[VV,seval];refine bl g (.inr rfl) (by simp only[RS,seval];rfl) (by simp[LW]) ⟨rfl,rfl⟩
 have t:=i 2 b (by decide) (by unfold ja;simp[j,k,l]);refine aA (ya a _) rfl ?_;simp only[VV,seval];cases f with
 |false =>simp only[VV,seval];rw[t.1 (.inl rfl)];exact bl g (.inr rfl) (by simp only[RS,seval];rfl) (by simp[LW]) ⟨rfl,rfl⟩
 |true =>
 simp only[VV,seval];refine⟨λh=>?_,λh=>?_⟩
 .have h:(apd a).2=Z:=by simpa using h
  rw[t.1 (.inr h)];exact bl g (.inr rfl) (by simp only[RS,seval];rfl) (by simp[LW]) ⟨rfl,rfl⟩
 have h:(apd a).2=A:=by simpa using h
 rw[t.2 rfl h];refine aA (og _ _) rfl ?_;simp only[VV,seval];refine bl g (.inr rfl) (by simp only[RS,seval];rfl) (by simp[LW]) ⟨rfl,rfl⟩
def LM(s:aJ)(o:s≠[])(J:ag):bO θ 99 [.s s] J (.gy [.agg (bz s).1.aoZ,.I (bz s).2.1,.b (bz s).2.2]):=by
 refine a6 func99 c99 λg m=>ay ?_;have l:=Da (m 0 _ rfl).1;have r:0<F s:=dJ.2 o;have d:(0:Int)<=0/\(0:Int)<F s:=by omega
 simp only[p99,SS,seval];by_cases a:s.getD 0 0=92
 .have e:bz s=(⟨1,[(dn s).1],0⟩,(dn s).2.1,(dn s).2.2):=by simp only[bz,a,aU]
  rw[e];simp only[NV (k:=92) a rfl,VV,seval,-Int.reduceLE];refine⟨d,?_⟩;refine aA (P3 s _) rfl ?_;simp only[VV,seval];exact bl g (.inr rfl) (by simp only[RS,seval];rfl) (by simp[LW]) ⟨rfl,rfl⟩
 have p:=a;by_cases f:s.getD 0 0=60
 .simp only[qj (k:=92) a rfl,NV (k:=60) f rfl,VV,seval,-Int.reduceLE];refine⟨d,d,?_⟩;refine aA (rG s 62 _) rfl ?_;have n:=kY s 62;simp only[VV,seval];refine⟨λh=>?_,λh=>?_⟩
  .have h:Lib.indexByte s 62<0:=by simpa using h
   have e:bz s=(mG,0,Z):=by simp only[bz];rw[au a,aK f];simp only[h,aU,aQ]
   rw[e];exact bl g (.inr rfl) (by simp only[RS,seval];rfl) (by simp[LW]) ⟨rfl,rfl⟩
  have h:¬Lib.indexByte s 62<0:=by simpa using h
  have q:=nA s 62 (by rw[f];decide) h;have e:bz s=((ja ((s.take (Lib.indexByte s 62).toNat).drop 1)).1,Lib.indexByte s 62+1,(ja ((s.take (Lib.indexByte s 62).toNat).drop 1)).2):=by simp only[bz];rw[au a,aK f];simp only[h,aU,aQ]
  rw[e];refine⟨by omega,?_⟩;have i:(s.drop 1).take ((Lib.indexByte s 62).toNat - 1)=(s.take (Lib.indexByte s 62).toNat).drop 1:=by rw[aaW]
  refine aA (YB _ _) (by simp only[aC,bI,VV,seval];rw[i]) ?_;simp only[It.aoZ,VV,seval];refine bl g (.inr rfl) (by simp only[RS,seval];rfl) (by simp[LW]) ⟨?_,rfl⟩;simp only[one,aO,aZ];rw[IntWalk.i64_in _ (by omega)]
 by_cases mH:s.getD 0 0=123
 .simp only[qj (k:=92) a rfl,qj (k:=60) f rfl,NV (k:=123) mH rfl,VV,seval,-Int.reduceLE];refine⟨d,d,d,?_⟩;refine aA (rG s 125 _) rfl ?_;have n:=kY s 125;simp only[VV,seval];by_cases h:Lib.indexByte s 125<0
  .have e:bz s=(mG,0,Z):=by simp only[bz];rw[au a,au f,aK mH];simp only[h,Ho,aU]
   have j:decide (Lib.indexByte s 125<0)=A:=by simpa using h
   rw[e];simp only[j,VV,seval];refine⟨nofun,?_⟩;refine b7 (c:=Z) (v:=.b Z) (by simp only[VV,seval]<;>rfl) (nofun) rfl ?_;simp only[VV,seval];exact bl g (.inr rfl) (by simp only[RS,seval];rfl) (by simp[LW]) ⟨rfl,rfl⟩
  have j:decide (Lib.indexByte s 125<0)=Z:=by simpa using h
  have q:=nA s 125 (by rw[mH];decide) h;have e:bz s=if apb ((s.take (Lib.indexByte s 125).toNat).drop 1)=Z then(mG,0,Z)else(⟨5,(s.take (Lib.indexByte s 125).toNat).drop 1,0⟩,Lib.indexByte s 125+1,A):=by simp only[bz];rw[au a,au f,aK mH];simp only[h,qb]
  have i:(s.drop 1).take ((Lib.indexByte s 125).toNat - 1)=(s.take (Lib.indexByte s 125).toNat).drop 1:=by rw[aaW]
  rw[e];simp only[j,i,VV,seval];refine⟨by omega,?_⟩;refine b7 (c:=A) (by simp only[VV,seval]<;>rfl) (λ_=>kX ((s.take (Lib.indexByte s 125).toNat).drop 1) _) rfl ?_;simp only[VV,seval];refine⟨λh=>?_,λh=>?_⟩
  .have h:apb ((s.take (Lib.indexByte s 125).toNat).drop 1)=Z:=by simpa using h
   rw[aK h];exact bl g (.inr rfl) (by simp only[RS,seval];rfl) (by simp[LW]) ⟨rfl,rfl⟩
  have h:¬apb ((s.take (Lib.indexByte s 125).toNat).drop 1)=Z:=by simpa using h
  rw[au h];simp only[i,VV,seval];refine⟨by omega,?_⟩;refine bl g (.inr rfl) (by simp only[RS,seval];rfl) (by simp[LW]) ⟨?_,rfl⟩;simp only[one,aO,aZ];rw[IntWalk.i64_in _ (by omega)];rfl
 have e:bz s=(⟨1,s.take 1,0⟩,1,rB (s.getD 0 0)):=by simp only[bz,a,f,mH,aQ]
 rw[e];simp only[qj (k:=92) a rfl,qj (k:=60) f rfl,qj (k:=123) mH rfl,VV,seval,-Int.reduceLE];refine⟨d,d,d,by omega,d,?_⟩;refine aA (Ig (s.getD 0 0) _) rfl ?_;simp only[VV,seval];exact bl g (.inr rfl) (by simp only[RS,seval];rfl) (by simp[LW]) ⟨rfl,rfl⟩
def mT:ag :=[.map 3 61 (qF X.tags),.box 142 [.own (n+2) U,.own (n+3) S,.I X.len,.mp n],.row 61 3 32 U Z (X.f.map It.aoZ),.row 5 1 1 S Z (ee X.ao3)]
def Ov(o:Ob)(x:It):ag :=[.map 3 61 (qF X.tags),.box 142 [.own (n+2) U,.own (n+3) S,.I X.len,.mp n],.row 61 3 32 U Z (X.f.map It.aoZ),.row 5 1 1 S Z (ee X.ao3),o,.box 61 [.I x.ao0,.s x.ao3,.I x.id]]
def Jj(d c:Nat)(k:X.f.length<2^40)(J ext:ag):PC θ 101 [.ptr (F J+1) 0] (J++(mT (F J) d c X++ext)) (λr g=>r=.gy []/\∃a b,g=J++(mT (F J) a b (gh X)++ext)):=by
 refine a6 func101 ajO λm l=>ay ?_;simp only[adu,SS,seval];simp only[mT,W,seval];simp only[eP,mw,W,seval];refine⟨λh=>⟨?_,?_⟩,λh=>?_⟩;.simp[maxLen];omega
 .have h:0<X.ao3.length:=by simpa using h
  have e:gh X=⟨X.f++[⟨1,X.ao3,0⟩],[],X.len,X.tags⟩:=by simp[gh,h]
  have i:X.f.map It.aoZ++[[.I 1,.s X.ao3,.I 0]]=(X.f++[(⟨1,X.ao3,0⟩:It)]).map It.aoZ:=by simp[It.aoZ]
  rw[i];refine fv (xs:=[]) (xs':=[]) (.inl rfl) rfl (Wk.abF (id:=F J+1) (j:=1) (idr:=F J+3) (by simp only[W,seval];rfl) rfl (by simp only[W,seval];rfl)) rfl ⟨rfl,d+1,c+1,?_⟩;simp only[mT,e,W,seval];rfl
 have h:¬0<X.ao3.length:=by simpa using h
 have e:gh X=X:=by simp[gh,h]
 rw[e];exact fv (xs:=[]) (.inl rfl) rfl (Wk.refl _ _) rfl ⟨rfl,d,c,rfl⟩
def aaS(x:It)(g d:Nat)(P:X.f.length<2^40)(ht:X.ao3.length+F x.ao3<2^40)(hl:X.len<2^40)(J:ag)(o:Ob):PC θ 100 [.ptr (F J+1) 0,.agg x.aoZ] (J++(mT (F J) g d X++[o])) (λr H=>r=.I (kn X x).1/\∃i j,H=J++(mT (F J) i j (kn X x).2++[o])):=by
 refine a6 func100 ajP λB dN=>?_;simp only[adv,SS,seval];have hm:∀t,c8 (J++(.map 3 61 (qF X.tags))::t) 0 (.mp (F J)) (.I x.id)=eL 0 (.I x.id) (qF X.tags) 0:=λt=>by simp only[c8,iP,aH]
 refine cd.cut λR a=>?_;simp only[mT,It.aoZ,bo,bg,W,seval];refine a _ ?_;clear a R;refine cd.cut λR a=>?_;simp only[W,seval];refine a _ (cd.gW (fr':=(.ptr (F J+1) 0::uu 2 (.ptr (F J+5) 0::.I 0::.b (tagged x)::uu 117 []))) ?_ ?_);rotate_left;.simp only[tagged];repeat' constructor
 clear a R;have E:=Qe B (id:=F J+4) (o:=o) (n:=F J+5) (by rw[aD (by omega),dD];rfl) (by simp[mT]);have S:∀(g d:Nat) (X:Rd),bT (J++(mT (F J) g d X++[o])):=λg d X =>
  zD B (ax _) (by simp only[mT,nv,ah,az,fK,yM,implies_true,lq,gL,bo,bg,tJ];exact⟨by simp only[LW];omega,by cases o<;>exact E⟩);have K:∀(g d:Nat) (X:Rd),bT (J++Ov (F J) g d X o x):=λg d X =>
  zD B (by simp[mT,Ov]) (by simp only[Ov,nv,ah,az,fK,yM,implies_true,lq,gL,tJ];have T:=E.mono (Nat.le_succ _);exact⟨by simp only[LW];omega,by cases o<;>exact T,by simp only[LW]⟩);have p:∀{fr:ao} {n:Nat} (e:Int) (M:Rd) (i j:Nat) {loc:ag},n<=F J+5->kn X x=(e,M)->fr.getD 4 .u=.I e->rv θ n [.t 4] (λr H=>r=.I (kn X x).1/\∃i j,H=J++(mT (F J) i j (kn X x).2++[o])) .ret ⟨fr,J++((mT (F J) i j M++[o])++loc)⟩:=by intro fr n e M i j loc hn U P;rw[<- List.append_assoc];refine fv (xs:=[.I e]) (.inr rfl) (by simp only[lg,u7,P]) (Wk.xe (by simpa[mT]using hn) (S _ _ _) (fi.1 (by simp[LW]))) rfl ⟨by rw[U];rfl,i,j,by rw[U]⟩
 refine cd.cut λR a=>?_;have L:∀{fr:ao} {loc:ag},pe fr (.ptr (F J+1) 0::uu 2 (.ptr (F J+5) 0::.I 0::.b (tagged x)::uu 117 []))->¬(tagged x&&xj X x)=A->R ⟨fr,J++(Ov (F J) g d X o x++loc)⟩:=by
  intro fr loc q O;refine a _ (cd.drop _ _ (by simp[mT,Ov]) (K g d X) q (by simp[LW,Ov]) ?_);clear a R;refine cd.cut λR a=>?_;simp only[Ov,W,seval];refine a _ ?_;clear a R;refine cd.cut λR a=>?_;simp only[Ov,ae,eP,VV,seval];have D:∀{fr:ao},pe fr (.ptr (F J+1) 0::uu 2 (.ptr (F J+5) 0::.I 0::.b (tagged x)::uu 2 (.I ((X.f.length+(if 0<X.ao3.length then 1 else 0):Nat):Int)::uu 114 [])))->R ⟨fr,J++Ov (F J) g d X o x⟩:=by
   intro fr q;refine a _ (cd.gW ?_ q);clear a R;refine cd.cut λR a=>?_;simp only[Ov,ae,eP,VV,seval];have Hj:∀{fr:ao},pe fr (.ptr (F J+1) 0::uu 2 (.ptr (F J+5) 0::.I 0::.b (tagged x)::uu 2 (.I ((lH X x:Nat):Int)::uu 114 [])))->R ⟨fr,J++Ov (F J) g d X o x⟩:=by
    intro fr q;refine a _ (cd.gW ?_ q);clear a R;have C:IntKind.i64.wrap ((X.len:Int)+1)=((X.len+1:Nat):Int):=cq (by omega);refine cd.cut λR a=>?_;simp only[Ov,C,VV,seval];refine⟨λh=>?_,λh=>?_⟩
    .have m:512<lH X x\/1024<X.len+1:=by simp at h;omega
     have e:kn X x=(3,X):=by simp only[kn,O,m,aU];rfl
     exact p 3 X g d (loc:=[_]) (by simp[mT]) e (by rfl)
    have m:¬(512<lH X x\/1024<X.len+1):=by simp at h;omega
    refine a _ ?_;clear a R;refine cd.cut λR a=>?_;simp only[C,VV,seval];refine a _ ?_;clear a R;refine cd.cut λR a=>?_;simp only[VV,seval];refine⟨λw=>⟨⟨by simp only[eP];omega,by simp only[eP,maxLen];omega⟩,?_⟩,λw=>?_⟩
    .have w:x.ao0=1:=by simpa using w
     have e:kn X x=(0,⟨X.f,X.ao3++x.ao3,X.len+1,X.tags⟩):=by simp only[kn,O,m,w,aU,aQ];rfl
     rw[jz];exact p 0 ⟨X.f,X.ao3++x.ao3,X.len+1,X.tags⟩ g (d+1) (loc:=[_]) (by simp[mT]) e (by rfl)
    have w:¬x.ao0=1:=by simpa using w
    have e:kn X x=(0,v8 (gh (nV X x)) x):=by simp only[kn,O,m,w,aU,aQ];rfl
    refine a _ (cd.gW (fr':=(.ptr (F J+1) 0::uu 2 (.ptr (F J+5) 0::.I 0::.b (tagged x)::uu 117 []))) ?_ (by repeat' constructor));clear a R;refine cd.cut λR a=>?_;have uq:∀{fr:ao},pe fr (.ptr (F J+1) 0::uu 2 (.ptr (F J+5) 0::.I 0::uu 118 []))->R ⟨fr,J++Ov (F J) g d (nV X x) o x⟩:=by
     intro fr q;refine a _ (cd.gW ?_ q);clear a R;refine cd.cut λR a=>?_;simp only[W,seval];refine cB (Jj (nV X x) g d P J [o,.box 61 [.I x.ao0,.s x.ao3,.I x.id]]) rfl ?_;rintro r H ⟨rfl,g3,g4,rfl⟩;simp only[W,seval];refine a _ (cd.gW (fr':=(.ptr (F J+1) 0::uu 2 (.ptr (F J+5) 0::.I 0::uu 118 []))) ?_ (by repeat' constructor));clear a R;refine ay ?_;have ac:F (gh (nV X x)).f<=X.f.length+1:=by simp only[gh];split<;>simp[nV]
     simp only[mT,VV,seval];refine⟨?_,?_⟩;.simp[maxLen];omega
     have hr:(gh (nV X x)).f.map It.aoZ++[[.I x.ao0,.s x.ao3,.I x.id]]=(v8 (gh (nV X x)) x).f.map It.aoZ:=by simp[It.aoZ,v8]
     rw[hr];exact p 0 (v8 (gh (nV X x)) x) (g3+1) g4 (loc:=[_]) (by simp[mT]) e (by rfl)
    cases l:tagged x with
    |true =>
     rcases zi X.tags x.id with⟨z,y,G⟩|⟨k,b,z,y,G⟩;all_goals
      have h5:qF (nV X x).tags=qF (fZ X.tags x.id x):=by simp only[nV,l,aU]
      simp only[l,y,dB,VV,seval];have h6:=G x;simp only[Zl,It.aoZ]at h6;rw[h6,<- h5];refine⟨by simp[V.qE,V.jG,V.cell,V.pure],?_⟩;refine uq (by repeat' constructor)
    |false =>simp only[l,VV,seval];have:=uq (fr:=(.ptr (F J+1) 0::uu 2 (.ptr (F J+5) 0::.I 0::.b Z::uu 97 (.b Z::uu 19 [])))) (by repeat' constructor);simp only[nV,l]at this;exact this
   have Nh:IntKind.i64.wrap (((X.f.length+(if 0<X.ao3.length then 1 else 0):Nat):Int)+1)=((X.f.length+(if 0<X.ao3.length then 1 else 0)+1:Nat):Int):=cq (by split<;>omega);refine⟨λh=>?_,λh=>?_⟩
   .have m:x.ao0≠1\/X.ao3.length=0:=by simpa using h
    have e:lH X x=X.f.length+(if 0<X.ao3.length then 1 else 0)+1:=by simp only[lH,m,aU]
    refine Hj ?_;rw[Nh,e];repeat' constructor
   have m:¬(x.ao0≠1\/X.ao3.length=0):=by simpa using h
   have e:lH X x=X.f.length+(if 0<X.ao3.length then 1 else 0):=by simp only[lH,m,aQ];rfl
   refine Hj ?_;rw[e];repeat' constructor
  refine⟨λh=>?_,λh=>?_⟩
  .have m:0<X.ao3.length:=by simpa using h
   refine D ?_;rw[cq (by omega),aK m];repeat' constructor
  have m:¬0<X.ao3.length:=by simpa using h
  refine D ?_;rw[au m];repeat' constructor
 have Q:(tagged x&&xj X x)=A->kn X x=(7,X):=λh=>by simp[kn,h]
 cases l:tagged x with
 |false =>simp only[l,VV,seval];exact L (loc:=[]) (by rw[l];repeat' constructor) (by simp[l])
 |true =>
 rcases zi X.tags x.id with⟨z,y,G⟩|⟨k,b,z,y,G⟩;.simp only[l,hm,y,Zl,VV,seval];refine⟨by simp[V.qE],by simp[V.qE],b7 (c:=Z) (v:=.s []) (by simp only[VV,seval]<;>rfl) (nofun) rfl ?_⟩;simp only[VV,seval];refine L (loc:=[_]) (by rw[l];repeat' constructor) (by simp[xj,z])
 simp only[l,hm,y,Zl,It.aoZ,VV,seval];refine⟨by simp[V.qE],by simp[V.qE],b7 (by simp only[VV,seval]<;>rfl) (λ_=>zS b.ao3 _) rfl ?_⟩;simp only[VV,seval];have B:xj X x=(x.ao0 != 3||b.ao0 != 2||dj b.ao3 != x.ao3):=by simp only[xj,z]
 have hb:(!dj b.ao3==x.ao3)=(dj b.ao3 != x.ao3):=rfl;rw[hb,<- B];refine⟨λh=>?_,λh=>?_⟩;.exact p 7 X g d (loc:=[_,_]) (by simp[mT]) (Q (by simp[l,h])) (by rfl)
 exact L (loc:=[_]) (by rw[l];repeat' constructor) (by simp[l,h])
def Qd{J:ag}(c:bT J)(b a:Nat)(r:Rd):bT (J++mT (F J) b a r):=cL c (by simp only[mT,nv,ah,az,fK,yM,implies_true,lq,gL,tJ];simp only[LW];omega)
def RX{J:ag}{K:bj}(s:aJ)(t:bT J)(d:F s<2^39): ∀(n:Nat) (a pre:aJ) (r:Rd) (g b:Nat),s=pre++a->F a<n->r.ok ->(∀o,mZ n r a (F pre)=((gh o).f,0,0)->o.ok->∀g b,((fj 5 (fh (.ptr (F J+1) 0) (fj 33 fo))) λp=>K (.exit 0) ⟨p,J++mT (F J) g b o⟩)) ->(∀m e,mZ n r a (F pre)=([],m,e)->∀q,((fj 2 (fh (.nil) (fh (.I m) (fh (.I e) (fj 34 fo))))) λp=>K .ret ⟨p,J++q⟩)) ->fS (F J) θ ML K n ⟨(.s s::uu 2 (.I (F pre)::uu 1 (.ptr (F J+1) 0::uu 33 []))),J++mT (F J) g b r⟩
 |0,a,pre,r,g,b,l,hn,hr,h1,h2=>by omega
 |n+1,[],pre,r,g,b,l,hn,hr,h1,h2=>by have l:=db l;subst l;refine aF λR w=>?_;simp only[ML,W,seval];exact⟨λh=>by simp at h,λ_=>h1 r rfl hr g b ..⟩
 |n+1,c::a,pre,r,g,b,l,hn,hr,h1,h2=>by
  subst l;have x:(pre++c::a).drop (F pre)=c::a:=by simp
  have E:((pre++c::a).drop (F pre)).take (F (pre++c::a) - F pre)=c::a:=by rw[x,cn];simp
  have j:=rO (s:=c::a) (by simp);have O:F pre+F (c::a)<2^39:=by rw[<- List.length_append];exact d
  refine aF λR w=>?_;simp only[ML,W,seval];refine⟨λ_=>⟨by simp;omega,?_⟩,λh=>by simp at h<;>omega⟩;refine aA (LM (c::a) (by simp) _) (by simp only[aC,bI,aG,VV,seval];rw[E]) ?_;simp only[It.aoZ,VV,seval];refine⟨λh=>?_,λh=>?_⟩
  .have h:(bz (c::a)).2.2=Z:=by simpa using h
   exact h2 (F pre) 2 (by simp only[mZ,h,aU]) ..
  have h:(bz (c::a)).2.2=A:=by simpa using h
  have y:=j.2.2 h;have Q:=j.1;have ok:=hr;obtain⟨C,L,P⟩:=hr;have D:F r.f<=r.len:=by split at C<;>omega
  refine cB (aaS r (bz (c::a)).1 g b (by omega) (by omega) (by omega) J _) rfl ?_;rintro v M ⟨rfl,H,B,rfl⟩;simp only[VV,seval];refine⟨λi=>?_,λi=>?_⟩
  .have i:(kn r (bz (c::a)).1).1≠0:=by simpa using i
   exact h2 (F pre) _ (by simp only[mZ,h];rw[au (by simp),aK i]) ..
  have i:(kn r (bz (c::a)).1).1=0:=by simpa using i
  have z:=Rm ok j.2.1 i;obtain⟨k,u⟩:∃k:Nat,(bz (c::a)).2.1=k:=⟨(bz (c::a)).2.1.toNat,by omega⟩;have e:mZ (n+1) r (c::a) (F pre)=mZ n (kn r (bz (c::a)).1).2 ((c::a).drop k) (F (pre++(c::a).take k):Nat):=by simp only[mZ,h];rw[au (by simp),au (by simp[i]),u];simp only[aG,ai,bB];congr 1;omega
  rw[e]at h1 h2;refine w _ (cC _ _ (Qd t _ _ _) ?_ ?_ (RX _ t d n ((c::a).drop k) (pre++(c::a).take k) (kn r (bz (c::a)).1).2 H B (by rw[aS,fP]) (by simp only[bY];simp at hn |-;omega) z h1 h2))
  .have G:((F (pre++(c::a).take k):Nat):Int)=(F pre:Int)+k:=by rw[ai,bB,show min k (F (c::a))=k by omega];omega
   rw[u,IntWalk.i64_in _ (by omega),G];repeat' constructor
  simp only[LW];simp[mT]
def Rl{n:Nat}{xs:ao}{J:ag}:Wk θ n xs (J++[.map 3 61 [],.box 142 [.nil,.nil,.I 0,.mp (F J)]]) xs (J++mT (F J) 0 0 Be):=by have a:=Wk.Cm (P:=θ) (n:=n) (xs:=xs) (id:=F J+1) (j:=0) (J:=J++[.map 3 61 [],.box 142 [.nil,.nil,.I 0,.mp (F J)]]) Fb (by simp only[W,seval];rfl) rfl;simp only[W,seval]at a;have b:=Wk.Cm (P:=θ) (n:=n) (xs:=xs) (id:=F J+1) (j:=1) (J:=J++[.map 3 61 [],.box 142 [.own (F J+2) 0,.nil,.I 0,.mp (F J)],.row 61 3 32 0 Z []]) QX (by simp only[W,seval];rfl) rfl;simp only[W,seval]at b;exact a.trans b
def kW(s:aJ)(a:F s<2^39)(J:ag):bO θ 45 [.s s] J (.gy [.sl 3 ((parse s).1.map It.aoZ),.I (parse s).2.1,.I (parse s).2.2]):=by
 refine a6 func45 c45 λc n=>ay ?_;simp only[p45,SS,seval];simp only[VV,seval];have g:parse s=mZ (F s+1) Be s (F ([]:aJ):Nat):=rfl;refine cd.wk (Rl.trans (Wk.gW (ys:=(.s s::uu 2 (.I (F ([]:aJ):Nat)::uu 1 (.ptr (F J+1) 0::uu 33 [])))) (by repeat' constructor))) (cd.xA (F s+1) (RX s c a (F s+1) s [] Be 0 0 rfl (by omega) ⟨by simp[Be],by simp[Be],by simp[Be]⟩ ?_ ?_))
 .intro j b h i k;simp only[JE];intros;simp only[W,seval];refine cB (Jj j i k (by have:=h.f;have:=h.len;split at*<;> omega) J []) (by simp[ev]) ?_;rintro r o ⟨rfl,p,m,rfl⟩;simp only[mT,bM,W,seval];refine ru 2 c (.inr rfl) rfl rfl ?_ ?_;.simp[fz,sk,fY,zk,Ve]
  rw[g,b];simp[fz,sk,one]
 intro d e b l;simp only[JE];intros;simp only[W,seval];refine pA c (.inr rfl) rfl (ys:=[.sl 3 [],.I d,.I e]) (.cons (.nil _) (.cons (.refl _) (.cons (.refl _) .nil))) (by simp[LW]) ⟨?_,rfl⟩;rw[g,b];rfl
end Go.Proofs.Tryz

/- A part of a proof; the claim's last text says of what. -/
import Derived.Test.YtlakkaamfadipaaGreatDoorM19
import Derived.Test.YtlakkaamfadipaaGreatDoorM22
set_option linter.all false
set_option maxHeartbeats 1000000
open Bool renaming true->A,false->Z
open Go.Proofs.Tryz renaming prog->θ
open List renaming length->F

namespace Go.Proofs.Tryz
open Go Go.Pm Go.Bt
variable(a:List It)(l:bG)(c:UInt8)(x:Int)(s:aJ)(b:List It)(U:It)(X:ag)(k:Nat)(T:bG)(S:V){n:Nat}{t:aJ}{J:ag}{K:bj}
def Y0(f:F l<2^63):∀(a pre:bG),l=pre++a ->(a.contains x=Z->((fj 18 fo) λj=>K (.exit 0) ⟨j,J⟩))->(a.contains x=A->((fj 4 (fh (.b A) (fj 13 fo))) λj=>K .ret ⟨j,J⟩)) ->fS n θ Mx K (F a+1) ⟨(.sl 1 (l.map cg)::.I x::uu 5 (.I (F l)::.I (F pre)::uu 9 [])),J⟩:=by
 intro a;induction a with
 |nil =>intro pre d i g;have d:=db d;subst d;refine aF λR k=>?_;simp only[Mx,VV,seval];exact⟨λh=>by simp at h,λ_=>i rfl ..⟩
 |cons c a ih =>
 intro pre d i g;subst d;refine aF λR k=>?_;simp only[Mx,cg,VV,seval];refine⟨λ_=>⟨by simp;omega,λh=>?_,λh=>?_⟩,λh=>by simp at h<;>omega⟩
 .have h:c=x:=by simpa using h
  exact g (by simp[h]) ..
 have h:¬c=x:=by simpa using h
 have e:(c::a).contains x=a.contains x:=by
  have:(x==c)=Z:=by simpa using λe=>h e.symm
  simp only[List.contains_cons,this,ia]
 rw[e]at i g;refine k _ (aX ?_ (ih (pre++[c]) (by simp) i g));rw[cq (by simp at f;omega)];simp only[ai,ah,az];repeat' constructor
def Rn:bO θ 83 [.sl 1 (l.map cg),.I x] X (.b (l.contains x)):=by
 refine a6 func83 c83 λd c=>ay ?_;have a:=pw (c 0 _ rfl).1;rw[ae]at a;simp only[p83,SS,seval];simp only[ae,VV,seval];refine cd.aX ?_ (F l+1) (Y0 l x a l [] rfl (λh=>?_) (λh=>?_));.repeat' constructor
 .simp only[JE];intros;simp only[VV,seval];exact aY (.inr rfl) rfl ⟨by rw[h];rfl,rfl⟩
 simp only[JE];intros;exact aY (.inr rfl) rfl ⟨by rw[h];rfl,rfl⟩
def VM(g:F a<2^63):∀(b pre:List It) (c:Int),a=pre++b ->((fj 3 (fh (.I (eW c b)) (fj 24 fo))) λl=>K (.exit 0) ⟨l,J⟩) ->fS n θ Gl K (F b+1) ⟨(.sl 3 (a.map It.aoZ)::uu 2 (.I c::uu 2 (.I (F a)::.I (F pre)::uu 20 []))),J⟩:=by
 intro b;induction b with
 |nil =>intro pre c f d;have f:=db f;subst f;refine aF λR i=>?_;simp only[Gl,VV,seval];exact⟨λh=>by simp at h,λ_=>d ..⟩
 |cons x b ih =>
 intro pre c f d;subst f;have k:=dY pre x (by simp at g;omega);refine aF λR i=>?_;simp only[Gl,It.aoZ,VV,seval];have e:eW c (x::b)=eW (IntKind.i64.wrap (c+width x)) b:=rfl;rw[e]at d;refine⟨λ_=>⟨by simp;omega,λh=>⟨by simp;omega,?_⟩,λh=>?_⟩,λh=>by simp at h<;>omega⟩
 .have h:x.ao0=1:=by simpa using h
  have j:width x=F x.ao3:=by simp[width,h]
  rw[j]at d;refine i _ (aX ?_ (ih (pre++[x]) _ (by simp) d));rw[k];repeat' constructor
 have h:¬x.ao0=1:=by simpa using h
 have j:width x=1:=by simp[width,h]
 rw[j]at d;refine i _ (aX ?_ (ih (pre++[x]) _ (by simp) d));rw[k];repeat' constructor
def H2:bO θ 102 [.sl 3 (a.map It.aoZ)] X (.I (eW 0 a)):=by
 refine a6 func102 ajN λd c=>ay ?_;have b:=pw (c 0 _ rfl).1;rw[ae]at b;simp only[adt,SS,seval];simp only[ae,VV,seval];refine cd.aX ?_ (F a+1) (VM a b a [] 0 rfl ?_);.repeat' constructor
 simp only[JE];intros;simp only[VV,seval];exact aY (.inr rfl) rfl ⟨rfl,rfl⟩
def jU:bO θ 212 [.i .u8 c.toNat] X (.I (du c)):=by refine a6 func212 aiz λg a=>ay ?_;simp only[ab6,SS,seval];simp only[W,seval];clear a g;refine⟨λe=>?_,λe=>⟨λb=>?_,λb=>⟨λf=>?_,λf=>⟨λd=>?_,λd=>?_⟩⟩⟩⟩<;>refine aY (.inr rfl) rfl ⟨?_,rfl⟩<;>simp at*<;> simp only[Pm.one,du,aO,aZ,V.i.injEq,gL]<;>(repeat' split)<;>omega
def u9:bO θ 81 [.agg U.aoZ] X (.b (bW U)):=by refine a6 func81 c81 λa c=>ay ?_;simp only[p81,It.aoZ,SS,seval];simp only[VV,seval];refine bl a (.inr rfl) rfl (by simp[LW]) ⟨?_,rfl⟩;simp only[Pm.one,bW,aO,aZ]
def Vy{n:Nat}{J:ag}{K:bj}(s:aJ)(f:F s<2^63):∀(a pre:aJ),s=pre++a->pre≠[] ->(a.all iz=A->((fj 44 fo) λj=>K (.exit 0) ⟨j,J⟩))->(a.all iz=Z->((fj 2 (fh (.b Z) (fj 41 fo))) λj=>K .ret ⟨j,J⟩)) ->fS n θ Bx K (F a+1) ⟨(.s s::uu 2 (.I (F pre)::uu 40 [])),J⟩:=by
 intro a;induction a with
 |nil =>intro pre d k i g;have d:=db d;subst d;refine aF λR l=>?_;simp only[Bx,VV,seval];exact⟨λh=>by simp at h,λ_=>i rfl ..⟩
 |cons c a ih =>
 intro pre d k i g;subst d;have p:0<F pre:=dJ.2 k;have m:decide ((0:Int)<F pre)=A:=by simp;omega
 refine aF λR l=>?_;simp only[Bx,m,VV,seval];have o:iz c=((decide (97<=(c.toNat:Int))&&decide ((c.toNat:Int)<=122))||((decide (48<=(c.toNat:Int))&&decide ((c.toNat:Int)<=57))||((c.toNat:Int)==45))):=by rw[dL];simp[iz];omega
 rw[<- o];refine⟨λ_=>⟨by simp;omega,λh=>?_,λh=>?_⟩,λh=>by simp at h<;>omega⟩
 .have e:(c::a).all iz=a.all iz:=by simp[h]
  rw[e]at i g;refine l _ (aX ?_ (ih (pre++[c]) (by simp) (by simp) i g));rw[cq (by simp at f;omega)];simp only[ai,ah,az];repeat' constructor
 exact g (by simp[h]) ..
def lZ(s:aJ)(J:ag):bO θ 161 [.s s] J (.b (apb s)):=by
 refine a6 func161 aja λl g=>ay ?_;have a:=Da (g 0 _ rfl).1;simp only[acK,SS,seval];simp only[VV,seval];cases s with
 |nil =>refine⟨λ_=>aY (.inr rfl) rfl ⟨rfl,rfl⟩,nofun⟩
 |cons c r =>
 refine⟨λh=>?_,λh=>?_⟩;.refine aY (.inr rfl) rfl ⟨?_,rfl⟩;simp at h;simp[Pm.one,apb];omega
 simp at h;refine cd.xA (F r+2) (aF λR k=>?_);simp only[Bx,aO,VV,Int.reduceBEq,Int.reduceBNe,Nat.reduceAdd,Nat.reduceSub,Nat.reduceLeDiff,Nat.reduceEqDiff,Int.reduceToNat,reduceIte,reduceCtorEq];have i:((decide (97<=(c.toNat:Int))&&decide ((c.toNat:Int)<=122))||(decide ((0:Int)<0)&&((decide (48<=(c.toNat:Int))&&decide ((c.toNat:Int)<=57))||((c.toNat:Int)==45))))=decide (97<=c.toNat/\c.toNat<=122):=by rw[dL];simp;omega
 have j:F (c::r)<=24:=by simp;omega
 rw[i];refine⟨λ_=>⟨by simp,λd=>?_,λd=>?_⟩,λh=>by simp at h<;>omega⟩
 .have e:apb (c::r)=r.all iz:=by simp only[apb,d,j,kH,cY]
  refine k _ (aX ?_ (Vy (c::r) a r [c] rfl (by simp) (λf=>?_) (λf=>?_)));.rw[show IntKind.i64.wrap (0+1)=(([c].length:Nat):Int)from IntWalk.i64_in _ (by decide)];repeat' constructor
  .simp only[JE];intros;simp only[VV,seval];exact aY (.inr rfl) rfl ⟨by simp only[Pm.one,e,f,aO,aZ],rfl⟩
  simp only[JE];intros;simp only[VV,seval];exact aY (.inr rfl) rfl ⟨by simp only[Pm.one,e,f,aO,aZ],rfl⟩
 refine aY (.inr rfl) rfl ⟨?_,rfl⟩;have e:apb (c::r)=Z:=by simp only[apb,d,ir,eA]
 rw[e];rfl
def Y1{n:Nat}{J:ag}{K:bj}(s:aJ)(b:F s<2^63):∀(a pre:aJ),s=pre++a->32 ∉ pre ->(32 ∉ s->((fh (.s s) (fj 17 fo)) λi=>K (.exit 0) ⟨i,J⟩))->(32∈s->((fj 2 (fh (.s (s.take (Lib.indexByte s 32).toNat)) (fj 15 fo))) λi=>K .ret ⟨i,J⟩)) ->fS n θ My K (F a+1) ⟨(.s s::uu 2 (.I (F pre)::uu 14 [])),J⟩:=by
 intro a;induction a with
 |nil =>intro pre d f j g;have d:=db d;subst d;refine aF λR l=>?_;simp only[My,VV,seval];exact⟨λh=>by simp at h,λ_=>j f ..⟩
 |cons c a ih =>
 intro pre d f j g;subst d;refine aF λR l=>?_;simp only[My,VV,seval];refine⟨λ_=>⟨by simp;omega,λh=>⟨by simp;omega,?_⟩,λh=>?_⟩,λh=>by simp at h<;>omega⟩
 .have k:c=32:=by rw[show(32:Int)=((32:UInt8).toNat:Int)from rfl,xG]at h;simpa using h
  subst k;have e:(Lib.indexByte (pre++32::a) 32).toNat=F pre:=by rw[rH f];simp
  have:=g (by simp);rw[e]at this;exact this ..
 have k:¬c=32:=by rw[show(32:Int)=((32:UInt8).toNat:Int)from rfl,xG]at h;simpa using h
 refine l _ (aX ?_ (ih (pre++[c]) (by simp) (by simp[f,Qm k]) j g));rw[cq (by simp at b;omega)];simp only[ai,ah,az];repeat' constructor
def qy(s:aJ)(J:ag):bO θ 80 [.s s] J (.s (dj s)):=by
 refine a6 func80 c80 λc b=>ay ?_;have a:=Da (b 0 _ rfl).1;simp only[p80,SS,seval];simp only[VV,seval];refine cd.aX ?_ (F s+1) (Y1 s a s [] rfl (by simp) (λh=>?_) (λh=>?_));.repeat' constructor
 .simp only[JE];intros;simp only[VV,seval];refine aY (.inr rfl) rfl ⟨?_,rfl⟩;have:Lib.indexByte s 32 = -1:=tc h;simp[Pm.one,dj,cutAt,this]
 simp only[JE];intros;refine aY (.inr rfl) rfl ⟨?_,rfl⟩;have:0<=Lib.indexByte s 32:=oS h;simp[Pm.one,dj,cutAt,this]
def Zd{n:Nat}{J:ag}{K:bj}(a b:List It)(j:F a<2^63)(p:F a=F b):∀(f c d g:List It),a=d++f->b=g++c->F d=F g ->(gQ f c=A->((fj 26 fo) λo=>K (.exit 0) ⟨o,J⟩))->(gQ f c=Z->((fj 4 (fh (.b Z) (fj 21 fo))) λo=>K .ret ⟨o,J⟩)) ->fS n θ MN K (F f+1) ⟨(.sl 3 (a.map It.aoZ)::.sl 3 (b.map It.aoZ)::uu 10 (.I (F a)::.I (F d)::uu 12 [])),J⟩:=by
 intro f;induction f with
 |nil =>
  intro c d g i l q m k;have:c=[]:=by subst i;subst l;simp at p;exact aL (by omega)
  subst this;have i:=db i;subst i;refine aF λR s=>?_;simp only[MN,VV,seval];exact⟨λh=>by simp at h,λ_=>m rfl ..⟩
 |cons x f ih =>
 intro c d g i l q m k;cases c with
 |nil=>subst i;subst l;simp at p;omega
 |cons y c =>
 subst i;subst l;have u:(List.map It.aoZ (g++y::c)).getD (F d) []=y.aoZ:=by rw[q];exact xU
 have w:=dY d x (by simp at j;omega);refine aF λR s=>?_;simp only[MN,aG,u,It.aoZ,fu,cA,VV,seval];have v:(0:Int)<=F d/\(F d:Int)<F (List.map It.aoZ (d++x::f)):=by simp;omega
 have r:(0:Int)<=F d/\(F d:Int)<F (List.map It.aoZ (g++y::c)):=by simp at p |-;omega
 have t:DA x y=(x.ao0==y.ao0&&(x.ao3==y.ao3&&x.id==y.id)):=rfl;rw[<- t];refine⟨λ_=>⟨v,r,λh=>?_,λh=>?_⟩,λh=>by simp at h<;>omega⟩
 .have h:DA x y=Z:=by rw[da]at h;exact h
  exact k (by simp[gQ,h]) ..
 have h:DA x y=A:=by rw[fB]at h;exact h
 have e:gQ (x::f) (y::c)=gQ f c:=by simp[gQ,h]
 rw[e]at m k;refine s _ (aX ?_ (ih c (d++[x]) (g++[y]) (by simp) (by simp) (by simp[q]) m k));rw[w];repeat' constructor
def Ep(a b:List It)(J:ag):bO θ 39 [.sl 3 (a.map It.aoZ),.sl 3 (b.map It.aoZ)] J (.b (gQ a b)):=by
 refine a6 func39 c39 λg d=>ay ?_;have c:=pw (d 0 _ rfl).1;rw[ae]at c;simp only[p39,SS,seval];simp only[ae,VV,seval];refine⟨λh=>?_,λh=>?_⟩
 .refine aY (.inr rfl) rfl ⟨?_,rfl⟩;have:gQ a b=Z:=by cases e:gQ a b with|false=>rfl|true=>have:=EF e;simp at h;omega
  simp[Pm.one,this]
 have f:F a=F b:=by simp at h;omega
 refine cd.aX ?_ (F a+1) (Zd a b c f a b [] [] rfl rfl rfl (λh=>?_) (λh=>?_));.repeat' constructor
 .simp only[JE];intros;simp only[VV,seval];exact aY (.inr rfl) rfl ⟨by simp[Pm.one,h],rfl⟩
 simp only[JE];intros;exact aY (.inr rfl) rfl ⟨by simp[Pm.one,h],rfl⟩
def VK(j:k<2^40):∀(a i:Nat),i+a=k ->((fj 3 (fh (.own (F J) k) (fj 11 fo))) λe=>K (.exit 0) ⟨e,J++[.row 3 1 8 k Z ((cK k).map cg)]⟩) ->fS (F J) θ Gj K (a+1) ⟨(.I k::uu 2 (.own (F J) i::.I ((i+1:Nat):Int)::uu 10 [])),J++[.row 3 1 8 i Z ((cK i).map cg)]⟩:=by
 intro a;induction a with
 |zero =>
  intro i b c;have b:i=k:=by omega
  subst b;refine aF λR d=>?_;simp only[Gj,VV,seval];exact⟨λh=>by simp at h<;>omega,λ_=>c ..⟩
 |succ a ih =>
 intro i b c;refine aF λR d=>?_;have f:(cK i).map cg++[[.I ((i+1:Nat):Int)]]=(cK (i+1)).map cg:=by simp[cK,C5,cg]
 have g:F (cK i)=i:=by simp[cK]
 simp only[Gj,f,ae,g,VV,seval];refine⟨λ_=>⟨⟨by omega,by simp only[maxLen];omega⟩,?_⟩,λh=>by simp at h<;>omega⟩;refine d _ (aX ?_ (ih (i+1) (by omega) c));rw[cq (by omega)];repeat' constructor
def Oy(n:Nat)(a:n<2^40)(J:ag):bO θ 105 [.I n] J (.sl 1 ((cK n).map cg)):=by
 refine a6 func105 ajK λb c=>ay ?_;simp only[adq,SS,seval];simp only[VV,seval];refine cd.wk ((Wk.jV (k:=3) tI rfl).trans (Wk.gW ?_)) (cd.xA (n+1) (VK n a n 0 (by omega) ?_));.simp only[VV,seval];repeat' constructor
 simp only[JE];intros;simp only[VV,seval];refine ru 0 b (.inr rfl) rfl rfl ?_ ?_;.simp[fz,sk,fY,zk]
 simp[fz,sk,Pm.one]
def Ze(t:bT J)(j:F a<2^40):∀(d pre:List It) (f:bG) (g:Nat),a=pre++d->F f<=F pre ->(∀g,((fj 3 (fh (.own (F J) g) (fj 31 fo))) λq=>K (.exit 0) ⟨q,J++[.row 3 1 8 g A ((cQ f d).map cg)]⟩)) ->fS (F J) θ MO K (F d+1) ⟨(.sl 3 (a.map It.aoZ)::uu 2 (.own (F J) g::uu 2 (.I (F a)::.I (F pre)::uu 27 []))),J++[.row 3 1 8 g A (f.map cg)]⟩:=by
 intro d;induction d with
 |nil =>intro pre f g m s k;have m:=db m;subst m;refine aF λR n=>?_;simp only[MO,VV,seval];exact⟨λh=>by simp at h,λ_=>k g ..⟩
 |cons y d ih =>
 intro pre f g m s k;subst m;have p:=dY pre y (by simp at j;omega);refine aF λR n=>?_;simp only[MO,It.aoZ,VV,seval];refine⟨λ_=>⟨by simp;omega,?_⟩,λh=>by simp at h<;>omega⟩;refine aA (u9 y _) rfl ?_;have l:(0:Int)<=F pre/\(F pre:Int)<F (List.map It.aoZ (pre++y::d)):=by simp;omega
 cases o:bW y with
 |false =>
  have e:cQ f (y::d)=cQ f d:=by simp[cQ,o]
  rw[e]at k;simp only[It.aoZ,VV,seval];refine⟨nofun,.I 0,nofun,?_⟩;refine b7 (c:=Z) (v:=.b Z) (by rfl) (nofun) rfl ?_;simp only[VV,seval];refine n _ (aX ?_ (ih (pre++[y]) f g (by simp) (by simp;omega) k));rw[p];repeat' constructor
 |true =>
 simp only[It.aoZ,VV,seval];refine⟨l,.I y.id,rfl,?_⟩;refine b7 (c:=A) (by rfl) (λ_=>PC.fzs (F J) (by simp only[iP];rfl) (Rn f y.id _) (by simp only[aC,bI,ev,aZ,aO,fz,sk,lu,aU])) rfl ?_;simp only[It.aoZ,VV,seval];refine⟨λh=>?_,λh=>?_⟩
 .have h:f.contains y.id=Z:=by rw[da]at h;exact h
  have e:cQ f (y::d)=cQ (f++[y.id]) d:=by simp only[cQ,o,h,iq,yP,aU]
  rw[e]at k;have r:f.map cg++[[V.i .i64 y.id]]=(f++[y.id]).map cg:=by simp[cg]
  rw[r];refine⟨l,⟨by simp at j |-;omega,by simp at j |-;simp only[maxLen];omega⟩,?_⟩;refine n _ (aX ?_ (ih (pre++[y]) (f++[y.id]) (g+1) (by simp) (by simp;omega) k));rw[p];repeat' constructor
 have h:f.contains y.id=A:=by rw[fB]at h;exact h
 have e:cQ f (y::d)=cQ f d:=by simp only[cQ,o,h,fL,ir];rfl
 rw[e]at k;refine n _ (aX ?_ (ih (pre++[y]) f g (by simp) (by simp;omega) k));rw[p];repeat' constructor
def Fu(b:F a<2^40)(J:ag):bO θ 36 [.sl 3 (a.map It.aoZ)] J (.sl 1 ((aph a).map cg)):=by
 refine a6 func36 c36 λc d=>ay ?_;simp only[p36,SS,seval];simp only[ae,VV,seval];refine cd.wk ((Wk.jV (k:=3) tI rfl).trans (Wk.YG.trans (Wk.gW ?_))) (cd.xA (F a+1) (Ze a c b a [] [] 0 rfl (ax _) ?_));.simp only[VV,seval];repeat' constructor
 intro g;simp only[JE];intros;simp only[VV,seval];refine ru 0 c (.inr rfl) rfl rfl ?_ ?_;.simp[fz,sk,fY,zk]
 simp[fz,sk,Pm.one,aph]
def HE:Ti θ 61 3 32:=nQ (by kernel_rfl)
def RP(M:bT J)(f:F a<2^40)(v:aR a<2^40):∀(c pre d:List It) (g:Nat),a=pre++c->F d<=F pre->aR d<=aR pre ->(∀g,((fj 3 (fh (.own (F J) g) (fj 57 fo))) λS=>K (.exit 0) ⟨S,J++[.row 61 3 32 g Z ((c.foldl cM d).map It.aoZ)]⟩)) ->fS (F J) θ Ir K (F c+1) ⟨(.sl 3 (a.map It.aoZ)::uu 2 (.own (F J) g::uu 4 (.I (F a)::.I (F pre)::uu 51 []))),J++[.row 61 3 32 g Z (d.map It.aoZ)]⟩:=by
 intro c;induction c with
 |nil =>intro pre d g o D z t;have o:=db o;subst o;refine aF λR j=>?_;simp only[Ir,VV,seval];exact⟨λh=>by simp at h,λ_=>t g ..⟩
 |cons x c ih =>
 intro pre d g o D z t;subst o;have next:∀(b:List It) (r:Nat) {l:ag},cM d x=b->∀{R:bk} {w:ao},(∀p,fS (F J) θ Ir K (F c+1) p->R p) ->
   pe w (.sl 3 ((pre++x::c).map It.aoZ)::uu 2 (.own (F J) r::uu 4 (.I (F (pre++x::c))::.I (IntKind.i64.wrap ((F pre:Int)+1))::uu 51 [])))->R ⟨w,J++(.row 61 3 32 r Z (b.map It.aoZ)::l)⟩:=by
  intro b r l C R w j E;have Q:=dY pre x (by simp at f;omega);rw[Q]at E;have q:=oQ d x;rw[C]at q;have P:(x::c).foldl cM d=c.foldl cM b:=by rw[dK,C]
  rw[P]at t;refine j _ (cC [_] l (cL M (by simp)) E ?_ (ih (pre++[x]) b r (by simp) (by simp;omega) (by simp only[eJ,aR];omega) t));simp only[LW,ah,az,bq];omega
 have n:(F d+1)*32<=2^47/\F d+1<=maxLen:=by simp at f;simp[maxLen];omega
 refine aF λR j=>?_;simp only[Ir,It.aoZ,VV,seval];refine⟨λ_=>⟨by simp;omega,λe=>?_,λe=>⟨λi=>?_,λi=>?_⟩⟩,λh=>by simp at h<;>omega⟩
 .have e:x.ao0≠1:=by simpa using e
  have m:d.map It.aoZ++[[.I x.ao0,.s x.ao3,.I x.id]]=(d++[x]).map It.aoZ:=by simp[It.aoZ]
  refine⟨by rw[ae];exact n,?_⟩;rw[m];refine next (d++[x]) (g+1) (by simp[cM,e]) j ?_;repeat' constructor
 .have e:x.ao0=1:=by simpa using e
  have i:x.ao3=[]:=by simpa using i
  refine next d g (by simp[cM,e,i]) j ?_;repeat' constructor
 have e:x.ao0=1:=by simpa using e
 have i:x.ao3≠[]:=by simpa using i
 rcases fR d with L|⟨b,y,B⟩;.subst L;have u:decide ((0:Int)<(F ([]:cD):Int))=Z:=rfl;simp only[bI,u];refine⟨nofun,.I 0,nofun,?_⟩;simp only[VV,seval];refine⟨by decide,next [⟨1,x.ao3,0⟩] (g+1) (by simp[cM,e,i]) j ?_⟩;repeat' constructor
 rw[fg]at B;subst B;have G:IntKind.i64.wrap ((F (b++[y]):Int) - 1)=F b:=by
  have:F (b++[y])<2^63:=by simp at D f |-;omega
  rw[IntWalk.i64_in _ (by simp at this |-;omega)];simp
 have H:gp (List.map It.aoZ (b++[y])) (F b) 0=some (.I y.ao0):=by rw[tH];rfl
 have u:decide ((0:Int)<(F (List.map It.aoZ (b++[y])):Int))=A:=by simp
 simp only[u,ae,G,aG,H];refine⟨λ_=>by simp;omega,.I y.ao0,λ_=>⟨True,rfl,trivial⟩,?_⟩;have T:decide ((0:Int)<(F (b++[y]):Int))=A:=by simp
 have O:gp (List.map It.aoZ (b++[y])) (F b) 1=some (.s y.ao3):=by rw[tH];rfl
 simp only[T,G,aG,O,ae,VV,seval];have q:(0:Int)<=(F b:Int)/\(F b:Int)<(F (b++[y]):Int):=⟨by omega,by rw[ai,iQ];omega⟩;refine⟨λk=>⟨q,?_,q,by omega,?_⟩,λk=>⟨n,?_⟩⟩;.simp only[eJ,aR]at z v;simp only[maxLen];omega
 .have k:y.ao0=1:=by simpa using k
  have m:(List.map It.aoZ (b++[y])).set (F b) (.I 1::.s (y.ao3++x.ao3)::.I 0::List.drop 3 y.aoZ)=(b++[(⟨1,y.ao3++x.ao3,0⟩:It)]).map It.aoZ:=by simp[List.set_append,It.aoZ]
  rw[m];refine next (b++[⟨1,y.ao3++x.ao3,0⟩]) g (by simp[cM,e,i,k]) j ?_;repeat' constructor
 have k:¬y.ao0=1:=by simpa using k
 have m:List.map It.aoZ (b++[y])++[[.I 1,.s x.ao3,.I 0]]=(b++[y]++[(⟨1,x.ao3,0⟩:It)]).map It.aoZ:=by simp[It.aoZ]
 rw[m];refine next (b++[y]++[⟨1,x.ao3,0⟩]) (g+1) (by simp[cM,e,i,k]) j ?_;repeat' constructor
def sW(b:F a<2^40)(d:aR a<2^40)(J:ag):bO θ 82 [.sl 3 (a.map It.aoZ)] J (.sl 3 ((ao6 a).map It.aoZ)):=by
 refine a6 func82 c82 λc f=>ay ?_;simp only[p82,SS,seval];simp only[ae,VV,seval];refine cd.wk ((Wk.jV (k:=3) HE rfl).trans (Wk.gW ?_)) (cd.xA (F a+1) (RP a c b d a [] [] 0 rfl (ax _) (ax _) ?_));.simp only[VV,seval];repeat' constructor
 intro g;simp only[JE];intros;simp only[VV,seval];refine ru 0 c (.inr rfl) rfl rfl ?_ ?_;.simp[fz,sk,fY,zk]
 have e:a.foldl cM []=ao6 a:=nG a;simp[fz,sk,Pm.one,e]
def jP(g:F a<2^39)(h:F b<2^39)(e:aR a<2^39)(c:aR b<2^39)(J:ag):bO θ 48 [.sl 3 (a.map It.aoZ),.sl 3 (b.map It.aoZ)] J (.sl 3 ((ao6 (a++b)).map It.aoZ)):=by refine a6 func48 c48 λd f=>ay ?_;simp only[p48,SS,seval];simp only[ae,VV,seval];refine⟨by simp[maxLen];omega,by simp[maxLen];omega,?_⟩;refine pQ (F J) (by simp only[iP];rfl) (sW (a++b) (by simp;omega) (by rw[eJ];omega) _) (by simp[fz,sk,ev]) ?_;simp only[VV,seval];exact km d (by rfl) (by simp[LW])
def Rr(o:uA):List It:=match o with|some b=>a++[⟨U.ao0,U.ao3,b⟩]|none=>a
def RZ(a L I:V)(c d:bG)(b:List It)(x:It)(g:Nat)(z:F c<2^62)(i:(F b+1)*32<=2^47/\F b+1<=maxLen): ∀(m k:Nat),k+m=min (F c) (F d) ->(∀g,((fh (a) (fh (.sl 1 (c.map cg)) (fh (.sl 1 (d.map cg)) (fj 4 (fh (.own (F J) g) (fj 4 (fh (L) (fh (I) (fj 47 fo))))))))) λq=>K (.exit 2) ⟨q,J++[.row 61 3 32 g Z ((Rr b x (CW (c.drop k) (d.drop k) x.id)).map It.aoZ),.box 61 x.aoZ]⟩)) ->fS (F J) θ MP K (m+1) ⟨(a::.sl 1 (c.map cg)::.sl 1 (d.map cg)::uu 4 (.own (F J) g::uu 1 (.ptr (F J+1) 0::.I k::uu 1 (L::I::uu 47 [])))),J++[.row 61 3 32 g Z (b.map It.aoZ),.box 61 x.aoZ]⟩:=by
 intro m;induction m with
 |zero =>
  intro k p f;rw[Mg (by omega)]at f;have w:((decide ((k:Int)<(F c:Int)))&&decide ((k:Int)<(F d:Int)))=Z:=by rw[DX];simp;omega
  refine aF λR n=>?_;simp only[MP,ae,w,VV,seval];exact f g ..
 |succ m ih =>
 intro k p f;have j:k<F c:=by omega
 have l:k<F d:=by omega
 rw[HD j l]at f;have y:decide ((k:Int)<(F c:Int))=A:=by simp;omega
 have t:decide ((k:Int)<(F d:Int))=A:=by simp;omega
 have u:IntKind.i64.wrap ((k:Int)+1)=((k+1:Nat):Int):=by rw[IntWalk.i64_in _ (by omega)];omega
 refine aF λR n=>?_;simp only[MP,It.aoZ,ae,y,t,u,aG,tG j,tG l,VV,seval];have r:(0:Int)<=(k:Int)/\(k:Int)<(F c:Int):=by omega
 have o:(0:Int)<=(k:Int)/\(k:Int)<(F d:Int):=by omega
 refine⟨r,λh=>⟨o,i,?_⟩,λh=>?_⟩
 .have h:x.id=c.getD k 0:=by rw[b9]at h;exact h.symm
  rw[aK h]at f;have v:b.map It.aoZ++[[.I x.ao0,.s x.ao3,.I (d.getD k 0)]]=(Rr b x (some (d.getD k 0))).map It.aoZ:=by simp[Rr,It.aoZ]
  rw[v];exact f (g+1) ..
 have h:¬x.id=c.getD k 0:=by rw[cU]at h;exact λe=>h e.symm
 rw[au h]at f;refine n _ (aX ?_ (ih (k+1) (by omega) f));repeat' constructor
def RY(z:bT J)(i:F a<2^40)(w:F l<2^62):∀(b pre c:List It) (g:Nat),a=pre++b->F c<=F pre ->(∀g,((fj 7 (fh (.own (F J) g) (fj 53 fo))) λC=>K (.exit 0) ⟨C,J++[.row 61 3 32 g Z ((c++api b l T).map It.aoZ)]⟩)) ->fS (F J) θ Iw K (F b+1) ⟨(.sl 3 (a.map It.aoZ)::.sl 1 (l.map cg)::.sl 1 (T.map cg)::uu 4 (.own (F J) g::uu 4 (.I (F a)::.I (F pre)::uu 47 []))),J++[.row 61 3 32 g Z (c.map It.aoZ)]⟩:=by
 intro b;induction b with
 |nil =>
  intro pre c g o v q;have o:=db o;subst o;have e:c++api [] l T=c:=by simp[api]
  rw[e]at q;refine aF λR p=>?_;simp only[Iw,VV,seval];exact⟨λh=>by simp at h,λ_=>q g ..⟩
 |cons x b ih =>
 intro pre c g o v q;subst o;have next:∀(d:List It) (k:Nat) {j:ag},c++api (x::b) l T=d++api b l T->F d<=F c+1->∀{R:bk} {r:ao},(∀m,fS (F J) θ Iw K (F b+1) m->R m) ->
   pe r (.sl 3 ((pre++x::b).map It.aoZ)::.sl 1 (l.map cg)::.sl 1 (T.map cg)::uu 4 (.own (F J) k::uu 4 (.I (F (pre++x::b))::.I (IntKind.i64.wrap ((F pre:Int)+1))::uu 47 [])))->R ⟨r,J++(.row 61 3 32 k Z (d.map It.aoZ)::j)⟩:=by intro d k j u D R r p t;have B:=dY pre x (by simp at i;omega);rw[B]at t;rw[u]at q;refine p _ (cC [_] j (cL z (by simp)) t ?_ (ih (pre++[x]) d k (by simp) (by simp;omega) q));simp only[LW,ah,az,bq];omega
 have n:(F c+1)*32<=2^47/\F c+1<=maxLen:=by simp at i;simp[maxLen];omega
 refine aF λR p=>?_;simp only[Iw,It.aoZ,VV,seval];refine⟨λ_=>⟨by simp;omega,?_⟩,λh=>by simp at h<;>omega⟩;refine aA (u9 x _) rfl ?_;simp only[VV,seval];refine⟨λf=>?_,λf=>?_⟩
 .have f:bW x=Z:=by rw[da]at f;exact f
  have y:c.map It.aoZ++[[.I x.ao0,.s x.ao3,.I x.id]]=(c++[x]).map It.aoZ:=by simp[It.aoZ]
  refine⟨by rw[ae];exact n,?_⟩;rw[y];refine next (c++[x]) (g+1) (by simp[api,Ou,f]) (by simp) p ?_;repeat' constructor
 have f:bW x=A:=by rw[fB]at f;exact f
 refine cd.aX ?_ (min (F l) (F T)+1) (RZ (.sl 3 ((pre++x::b).map It.aoZ)) (.I (F (pre++x::b))) (.I (F pre)) l T c x g w n (min (F l) (F T)) 0 (by omega) ?_);.simp only[It.aoZ,iX];repeat' constructor
 intro k;simp only[JE];intros;simp only[VV,seval];refine next _ k ?_ ?_ p ?_;.simp only[qf,api,ix,Ou,f,aU,Rr];cases CW l T x.id<;>simp
 .simp only[Rr];split<;>simp
 repeat' constructor
def y8(b:F a<2^40)(e:aR a<2^40)(d:F l<2^62)(J:ag):bO θ 35 [.sl 3 (a.map It.aoZ),.sl 1 (l.map cg),.sl 1 (T.map cg)] J (.sl 3 ((rename a l T).map It.aoZ)):=by
 refine a6 func35 c35 λc f=>ay ?_;simp only[p35,SS,seval];simp only[ae,VV,seval];refine cd.wk ((Wk.jV (k:=7) HE rfl).trans (Wk.gW ?_)) (cd.xA (F a+1) (RY a l T c b d a [] [] 0 rfl (ax _) ?_));.simp only[VV,seval];repeat' constructor
 intro g;simp only[JE];intros;simp only[bg,VV,seval];refine pQ (F J) (by simp only[iP];rfl) (sW (api a l T) (pg (y6 _ _ _) b) (pg (vZ _ _ _) e) _) (by simp[fz,sk,ev]) ?_;simp only[VV,seval];exact km c (by rfl) (by simp[LW])
def oM(i:F a<2^38)(h:F b<2^38)(f:aR a<2^38)(e:aR b<2^38)(J:ag):bO θ 49 [.sl 3 (a.map It.aoZ),.sl 3 (b.map It.aoZ)] J (.gy [.sl 3 ((ft a b).map It.aoZ),.sl 3 ((fI a b).map It.aoZ)]):=by refine a6 func49 c49 λd g=>ay ?_;simp only[p49,SS,seval];simp only[ae,VV,seval];refine⟨by simp[maxLen];omega,by simp[maxLen];omega,?_⟩;refine pQ (F J) (by simp only[iP];rfl) (Fu (a++b) (by simp;omega) _) (by simp[fz,sk,ev]) ?_;have c:=nF (a++b);rw[oO,ai]at c;rw[oO];simp only[ae,VV,seval];refine aA (Oy (F (bU a b)) (by omega) _) rfl ?_;simp only[VV,seval];refine aA (y8 a (bU a b) (cK (F (bU a b))) (by omega) (by omega) (by omega) _) rfl ?_;simp only[VV,seval];refine aA (y8 b (bU a b) (cK (F (bU a b))) (by omega) (by omega) (by omega) _) rfl ?_;simp only[VV,seval];exact bl d (.inr rfl) (by simp only[RS,seval];rfl) (by simp[LW]) ⟨rfl,rfl⟩
def Vx{n:Nat}{J:ag}{K:bj}(s:aJ)(d:F s<2^63):∀(a pre:aJ),s=pre++a ->(a.all (λb=>!iU b)=A->((fh (.s s) (fj 66 fo)) λj=>K (.exit 0) ⟨j,J⟩))->(a.all (λb=>!iU b)=Z->((fj 2 (fh (.b Z) (fj 64 fo))) λj=>K .ret ⟨j,J⟩)) ->fS n θ F4 K (F a+1) ⟨(.s s::uu 2 (.I (F pre)::uu 63 [])),J⟩:=by
 intro a;induction a with
 |nil =>intro pre g i f;have g:=db g;subst g;refine aF λR k=>?_;simp only[F4,VV,seval];exact⟨λh=>by simp at h,λ_=>i rfl ..⟩
 |cons c a ih =>
 intro pre g i f;subst g;have l:iU c=(((((decide ((c.toNat:Int)<32)||decide (126<(c.toNat:Int)))||((c.toNat:Int)==60))||((c.toNat:Int)==62))||((c.toNat:Int)==123))||((c.toNat:Int)==125)):=by clear i f ih d;revert c;exact ib (by decide +kernel)
 refine aF λR k=>?_;simp only[F4,VV,seval];rw[<- l];refine⟨λ_=>⟨by simp;omega,λh=>?_,λh=>?_⟩,λh=>by simp at h<;>omega⟩;.exact f (by simp[h]) ..
 have e:(c::a).all (λb=>!iU b)=a.all (λb=>!iU b):=by simp[h]
 rw[e]at i f;refine k _ (aX ?_ (ih (pre++[c]) (by simp) i f));rw[cq (by simp at d;omega)];simp only[ai,ah,az];repeat' constructor
def TB:jQ s=(apb (dj s)&&(decide (F (dj s)=F s)||decide (F (dj s)+1<F s))):=by
 have e:=kY s 32;by_cases h:0<=Lib.indexByte s 32
 .have a:cutAt s 32=(s.take (Lib.indexByte s 32).toNat,s.drop ((Lib.indexByte s 32).toNat+1),A):=by simp only[cutAt,aK h]
  have b:dj s=s.take (Lib.indexByte s 32).toNat:=by simp only[dj,a]
  simp only[jQ,a,b];have c:F (s.take (Lib.indexByte s 32).toNat)=(Lib.indexByte s 32).toNat:=by rw[bB];omega
  have d:F (s.drop ((Lib.indexByte s 32).toNat+1))=F s - ((Lib.indexByte s 32).toNat+1):=by simp
  simp only[c,d,fL,ia];congr 1;rw[dL];simp;omega
 have a:cutAt s 32=(s,[],Z):=by simp only[cutAt,au h]
 have b:dj s=s:=by simp only[dj,a]
 simp only[jQ,a,b];simp
def oL(s:aJ)(J:ag):bO θ 162 [.s s] J (.b (dx s)):=by
 refine a6 func162 ai9 λq k=>ay ?_;have a:=Da (k 0 _ rfl).1;simp only[acJ,SS,seval];simp only[VV,seval];refine⟨λh=>?_,λh=>?_⟩
 .refine aY (.inr rfl) rfl ⟨?_,rfl⟩;have h:¬F s<=64:=by simp at h;omega
  simp[Pm.one,dx,jR,h]
 have f:F s<=64:=by simp at h;omega
 refine cd.aX ?_ (F s+1) (Vx s a s [] rfl (λe=>?_) (λe=>?_));.repeat' constructor
 .simp only[JE];intros;simp only[VV,seval];refine aA (qy s _) rfl ?_;simp only[VV,seval];refine aA (lZ (dj s) _) rfl ?_;simp only[VV,seval];have n:F (dj s)<=F s:=(uh s 32).1;have j:IntKind.i64.wrap ((F (dj s):Int)+1)=(F (dj s):Int)+1:=IntWalk.i64_in _ (by omega);have o:((F (dj s):Int)==(F s:Int))=decide (F (dj s)=F s):=by rw[dL];simp;omega
  have i:decide ((F (dj s):Int)+1<(F s:Int))=decide (F (dj s)+1<F s):=by rw[dL];simp;omega
  rw[j,o,i,<- TB];have g:jQ s=A->0<F s:=λh=>by cases s with|nil=>revert h;decide|cons c s=>simp
  refine⟨λh=>?_,?_⟩
  .have h:jQ s=A:=by simpa using h
   have:=g h;rw[IntWalk.i64_in _ (by omega)];omega
  refine aY (.inr rfl) rfl ⟨?_,rfl⟩;cases d:jQ s with
  |false=>simp[Pm.one,dx,d]
  |true =>
  have p:=g d;have m:(IntKind.i64.wrap ((F s:Int) - 1)).toNat=F s - 1:=by rw[IntWalk.i64_in _ (by omega)];omega
  simp only[Pm.one,aO,aZ,m,dx,jR,d,e,cY,dM,f,kH];have l:F s≠0:=by omega
  simp only[l,fJ,dG,kH,cY,V.b.injEq];rw[dL];simp;omega
 simp only[JE];intros;exact aY (.inr rfl) rfl ⟨by simp[Pm.one,dx,e],rfl⟩
def Eo(b:Bool)(n:Int):(b&&decide (1<=n)&&decide (n<=999))=!(!b||decide (n<1)||decide (999<n)):=by rw[dL];simp[Int.not_lt]
def VL(r:bT J)(d:F a<2^63):∀(b pre:List It),a=pre++b ->((b.all λy=>!eY U y)=A->((fj 114 fo) λm=>K (.exit 1) ⟨m,J++[.box 61 U.aoZ]⟩))->((b.all λy=>!eY U y)=Z->∀c,((fj 4 (fh (.I 7) (fj 109 fo))) λm=>K .ret ⟨m,J++(.box 61 U.aoZ::c)⟩)) ->fS (F J) θ x7 K (F b+1) ⟨(.sl 3 (a.map It.aoZ)::uu 2 (.ptr (F J) 0::uu 75 (.I (F a)::.I (F pre)::uu 33 []))),J++[.box 61 U.aoZ]⟩:=by
 intro b;induction b with
 |nil =>intro pre g k j;have g:=db g;subst g;refine aF λR i=>?_;simp only[x7,VV,seval];exact⟨λh=>by simp at h,λ_=>k rfl ..⟩
 |cons y b ih =>
 intro pre g k j;subst g;have s:=dY pre y (by simp at d;omega);have next:eY U y=Z->∀{c:ag} {R:bk} {n:ao},(∀f,fS (F J) θ x7 K (F b+1) f->R f) ->
   pe n (.sl 3 ((pre++y::b).map It.aoZ)::uu 2 (.ptr (F J) 0::uu 75 (.I (F (pre++y::b))::.I (IntKind.i64.wrap ((F pre:Int)+1))::uu 33 [])))->R ⟨n,J++(.box 61 U.aoZ::c)⟩:=by
  intro t c R n i q;rw[s]at q;have e:((y::b).all λy=>!eY U y)=b.all λy=>!eY U y:=by simp[t]
  rw[e]at k j;refine i _ (cC [_] c (cL r (by simp only[nv,It.aoZ,LW];simp)) q ?_ (ih (pre++[y]) (by simp) k j));simp only[LW,ah,az,bq];omega
 refine aF λR i=>?_;simp only[x7,It.aoZ,VV,seval];refine⟨λ_=>⟨by simp;omega,?_⟩,λh=>by simp at h<;>omega⟩;refine aA (u9 y _) rfl ?_;simp only[VV,seval];have p:eY U y=(!(!bW y||y.id != U.id)&&(U.ao0 != 3||y.ao0 != 2||!(dj y.ao3==U.ao3))):=rfl;refine⟨λh=>?_,λh=>?_⟩;.refine next (by rw[p,h];rfl) i ?_;repeat' constructor
 refine b7 (by simp only[VV,seval]<;>rfl) (λ_=>qy y.ao3 _) rfl ?_;simp only[VV,seval];refine⟨λo=>?_,λo=>?_⟩
 .have l:eY U y=A:=by rw[p,h];simpa[bne]using o
  exact j (by simp[l]) _ ..
 have l:eY U y=Z:=by rw[p,h];simpa[bne]using o
 refine next l i ?_;repeat' constructor
set_option maxRecDepth 4000 in
def Bh(before:List It)(x:It)(J:ag):bO θ 103 [.sl 3 (before.map It.aoZ),.agg x.aoZ] J (.I (fy before x)):=by
 refine a6 func103 ajM λd B=>ay ?_;have b:=pw (B 0 _ rfl).1;rw[ae]at b;simp only[ads,SS,seval];have loop:∀{s:ao},bQ before.getLast? x=A->bW x=A->pe s (.sl 3 (before.map It.aoZ)::uu 2 (.ptr (F J) 0::uu 75 (.I (F before)::.I ((0:Nat):Int)::uu 33 []))) ->
   cd (F J) θ (.loop x7) (xr 1 (HT (zM (F J) θ (.seq (.ar [] [⟨some 4,[],.aV (.c (.I 0))⟩]) .ret) (rv θ (F J) [.t 4] λr q=>r=.I (fy before x)/\q=J)) (rv θ (F J) [.t 4] λr q=>r=.I (fy before x)/\q=J)))
    ⟨s,J++[.box 61 x.aoZ]⟩:=by
  intro s w j O;refine cd.aX O (F before+1) (VL before x d b before [] rfl (λv=>?_) (λv=>?_));.simp only[JE];intros;simp only[VV,seval];refine bl d (.inr rfl) (by simp only[RS,seval];rfl) (by simp[LW]) ⟨?_,rfl⟩;have u:fits before x=A:=v;simp[Pm.one,fy,w,j,u]
  simp only[JE];intros;simp only[VV,seval];refine bl d (.inr rfl) (by simp only[RS,seval];rfl) (by simp[LW]) ⟨?_,rfl⟩;have u:fits before x=Z:=v;simp[Pm.one,fy,w,j,u]
 have early:bW x=Z->fy before x=if bQ before.getLast? x=Z then 1 else 0:=by intro h;simp[fy,h]
 by_cases g:x.ao0=1
 .have l:bW x=Z:=by simp[bW,g]
  rw[early l];rcases fR before with o|⟨i,y,o⟩
  .subst o;have p:decide ((0:Int)<(F ([]:ao):Int))=Z:=rfl;simp only[It.aoZ,g,bI,p,VV,seval];refine⟨λh=>by simp at h,.I 0,λh=>by simp at h,?_⟩;simp only[VV,seval];refine⟨λh=>?_,λh=>?_⟩ <;>
   .refine bl d (.inr rfl) (by simp only[RS,seval];rfl) (by simp[LW]) ⟨?_,rfl⟩;have a:bQ ([]:List It).getLast? x=!(x.ao3==[]||x.id != 0):=by simp[bQ,g,bne]
    rw[a,h];rfl
  rw[fg]at o;subst o;have H:IntKind.i64.wrap ((F (i++[y]):Int) - 1)=F i:=by have:F (i++[y])<2^63:=b;rw[IntWalk.i64_in _ (by simp at this |-;omega)];simp
  have z:gp (List.map It.aoZ (i++[y])) (F i) 0=some (.I y.ao0):=by rw[tH];rfl
  have p:decide ((0:Int)<(F (List.map It.aoZ (i++[y])):Int))=A:=by simp
  have a:bQ (i++[y]).getLast? x=!((x.ao3==[]||x.id != 0)||y.ao0==1):=by simp[bQ,g,bne]
  rw[a];simp only[It.aoZ,g,VV,seval];simp only[p,ae,H,aG,z,VV,seval];refine⟨λ_=>by simp;omega,.I y.ao0,λ_=>?_,?_⟩;.rfl
  have K:decide ((0:Int)<(F (i++[y]):Int))=A:=by simp
  simp only[K,VV,seval];refine⟨λh=>?_,λh=>?_⟩ <;>
  .refine bl d (.inr rfl) (by simp only[RS,seval];rfl) (by simp[LW]) ⟨?_,rfl⟩;rw[h];rfl
 by_cases n:x.ao0=5
 .have l:bW x=Z:=by simp[bW,n]
  rw[early l];have a:bQ before.getLast? x=!(!apb x.ao3||x.id != 0):=by simp[bQ,n,bne]
  rw[a];simp only[It.aoZ,n,VV,seval];refine aA (lZ _ _) rfl ?_;simp only[VV,seval];refine⟨λh=>?_,λh=>?_⟩ <;>
  .refine bl d (.inr rfl) (by simp only[RS,seval];rfl) (by simp[LW]) ⟨?_,rfl⟩;rw[h];rfl
 have e:bQ before.getLast? x=Z->fy before x=1:=λh=>by simp[fy,h]
 have skip:bQ before.getLast? x=A->bW x=Z->fy before x=0:=λh C=>by simp[fy,h,C]
 by_cases f:x.ao0=2\/x.ao0=4
 .have j:bW x=A:=by simp[bW];rcases f with h|h<;>simp[h]
  have a:bQ before.getLast? x=!(!dx x.ao3||decide (x.id<1)||decide (999<x.id)):=by rw[<- Eo];simp[bQ,f,g,n]
  rcases f with k|k;.rw[It.aoZ,k]at loop;simp only[It.aoZ,k,VV,seval];refine aA (oL _ _) rfl ?_;simp only[VV,seval];refine⟨λh=>?_,λh=>loop (by rw[a,h];rfl) j (by simp only[ae,iX];repeat' constructor)⟩;refine bl d (.inr rfl) (by simp only[RS,seval];rfl) (by simp[LW]) ⟨?_,rfl⟩;rw[e (by rw[a,h];rfl)];rfl
  rw[It.aoZ,k]at loop;simp only[It.aoZ,k,VV,seval];refine aA (oL _ _) rfl ?_;simp only[VV,seval];refine⟨λh=>?_,λh=>loop (by rw[a,h];rfl) j (by simp only[ae,iX];repeat' constructor)⟩;refine bl d (.inr rfl) (by simp only[RS,seval];rfl) (by simp[LW]) ⟨?_,rfl⟩;rw[e (by rw[a,h];rfl)];rfl
 by_cases m:x.ao0=3
 .have j:bW x=A:=by simp[bW,m]
  have a:bQ before.getLast? x=!(!apb x.ao3||decide (x.id<1)||decide (999<x.id)):=by rw[<- Eo];simp[bQ,m]
  rw[It.aoZ,m]at loop;simp only[It.aoZ,m,VV,seval];refine aA (lZ _ _) rfl ?_;simp only[VV,seval];refine⟨λh=>?_,λh=>loop (by rw[a,h];rfl) j (by simp only[ae,iX];repeat' constructor)⟩;refine bl d (.inr rfl) (by simp only[RS,seval];rfl) (by simp[LW]) ⟨?_,rfl⟩;rw[e (by rw[a,h];rfl)];rfl
 have L:(x.ao0==1)=Z:=by simpa using g
 have M:(x.ao0==2)=Z:=by simp;omega
 have E:(x.ao0==3)=Z:=by simpa using m
 have G:(x.ao0==4)=Z:=by simp;omega
 have D:(x.ao0==5)=Z:=by simpa using n
 have a:bQ before.getLast? x=Z:=by simp[bQ,g,f,m,n]
 rw[e a];simp only[It.aoZ,L,M,E,G,D,VV,seval];exact km d (by rfl) (by simp[LW])
def Zb(m:bT J)(f:F a<2^63):∀(b pre:List It),a=pre++b ->(bA pre b=0->((fj 30 fo) λj=>K (.exit 0) ⟨j,J⟩))->(bA pre b≠0->((fj 2 (fh (.I (bA pre b)) (fj 27 fo))) λj=>K .ret ⟨j,J⟩)) ->fS (F J) θ MK K (F b+1) ⟨(.sl 3 (a.map It.aoZ)::uu 13 (.I (F a)::.I (F pre)::uu 14 [])),J⟩:=by
 intro b;induction b with
 |nil =>intro pre d i c;have d:=db d;subst d;refine aF λR k=>?_;simp only[MK,VV,seval];exact⟨λh=>by simp at h,λ_=>i rfl ..⟩
 |cons y b ih =>
 intro pre d i c;subst d;refine aF λR k=>?_;have l:List.take (F pre) (List.map It.aoZ (pre++y::b))=pre.map It.aoZ:=by simp
 simp only[MK,It.aoZ,VV,seval];refine⟨λ_=>?_,λh=>by simp at h;omega⟩;refine⟨by simp;omega,by simp;omega,?_⟩;rw[l];refine aA (Bh pre y _) rfl ?_;simp only[VV,seval];refine⟨λh=>?_,λh=>?_⟩
 .have g:fy pre y≠0:=by simpa using h
  have e:bA pre (y::b)=fy pre y:=by rw[s7,aK g]
  rw[e]at c;exact c g ..
 have g:fy pre y=0:=by simpa using h
 have e:bA pre (y::b)=bA (pre++[y]) b:=by rw[s7,g];simp
 rw[e]at i c;refine k _ (aX ?_ (ih (pre++[y]) (by simp) i c));rw[cq (by simp at f;omega)];simp only[ai,ah,az];repeat' constructor
def pU:bO θ 46 [.sl 3 (a.map It.aoZ)] X (.I (bV a)):=by
 refine a6 func46 c46 λf e=>ay ?_;have b:=pw (e 0 _ rfl).1;rw[ae]at b;simp only[p46,SS,seval];simp only[ae,VV,seval];refine b7 (by simp only[VV,seval]<;>rfl) (λ_=>H2 a _) rfl ?_;simp only[ae,VV,seval];refine⟨λh=>?_,λh=>?_⟩
 .refine aY (.inr rfl) (by simp only[RS,seval];rfl) ⟨?_,rfl⟩;simp at h;have:512<F a\/1024<eW 0 a:=by omega
  simp only[Pm.one,bV,this,aU,aO,aZ]
 simp at h;have c:¬(512<F a\/1024<eW 0 a):=by omega
 refine cd.aX ?_ (F a+1) (Zb a f b a [] rfl (λd=>?_) (λd=>?_));.simp only[VV,seval];repeat' constructor
 .simp only[JE];intros;simp only[VV,seval];exact aY (.inr rfl) (by simp only[RS,seval];rfl) ⟨by simp only[Pm.one,bV,c,d,aQ,aO,aZ],rfl⟩
 simp only[JE];intros;simp only[VV,seval];exact aY (.inr rfl) (by simp only[RS,seval];rfl) ⟨by simp only[Pm.one,bV,c,aQ,aO,aZ],rfl⟩
def DO(h:¬n<10):Lib.decDigits n=Lib.decDigits (n / 10)++[UInt8.ofNat (48+n % 10)]:=by rw[Lib.decDigits,dif_neg h]
def Ju:UInt8.ofNat ((IntKind.u8.wrap (IntKind.i64.wrap (48+(n:Int).tmod 10))).toNat)=UInt8.ofNat (48+n % 10):=by
 have h:(n:Int).tmod 10=((n % 10:Nat):Int):=by rw[Int.tmod_eq_emod_of_nonneg (by omega)];rfl
 rw[h,IntWalk.i64_in _ (by omega)];have a:IntKind.u8.wrap (48+((n % 10:Nat):Int))=((48+n % 10:Nat):Int):=by rw[IntWalk.u8_in _ (by omega)];omega
 rw[a];rfl
def NB(h:n<2^62):IntKind.i64.wrap ((n:Int).tdiv 10)=((n / 10:Nat):Int):=by
 have e:(n:Int).tdiv 10=((n / 10:Nat):Int):=by rw[ey (by omega)];rfl
 rw[e,IntWalk.i64_in _ (by omega)]
def Vi:∀(k n:Nat) (s:aJ),n<10^(k+1)->n<2^62->F s+k<2^40 ->(((fj 2 (fh (.s (Lib.decDigits n++s)) (fj 14 fo))) λf=>K .ret ⟨f,J⟩)) ->fS (F J) θ Bo K (k+1) ⟨(.I n::uu 2 (.s s::uu 13 [])),J⟩:=by
 have last:∀(k n:Nat) (s:aJ),n<10->n<2^62->F s+k<2^40->(((fj 2 (fh (.s (Lib.decDigits n++s)) (fj 14 fo))) λf=>K .ret ⟨f,J⟩)) ->fS (F J) θ Bo K (k+1) ⟨(.I n::uu 2 (.s s::uu 13 [])),J⟩:=by
  intro k n s d b c a;refine aF λR i=>?_;simp only[Bo,NB b,Ju,VV,Int.reduceBEq,Int.reduceBNe,Nat.reduceAdd,Nat.reduceSub,Nat.reduceLeDiff,Nat.reduceEqDiff,Int.reduceToNat,reduceIte,reduceCtorEq];rw[Lib.decDigits_one d]at a;have e:n % 10=n:=by omega
  have l:n / 10=0:=by omega
  rw[e,l];exact⟨by decide,by simp[maxLen];omega,by decide,λh=>a ..,nofun⟩
 intro k;induction k with
 |zero=>intro n s g b c a;exact last 0 n s (by omega) b c a
 |succ k ih =>
 intro n s g b c a;by_cases d:n<10;.exact last (k+1) n s d b c a
 rw[DO d,aS]at a;have j:n / 10<10^(k+1):=by rw[Nat.pow_succ]at g;omega
 refine aF λR i=>?_;simp only[Bo,NB b,Ju,VV,Int.reduceBEq,Int.reduceBNe,Nat.reduceAdd,Nat.reduceSub,Nat.reduceLeDiff,Nat.reduceEqDiff,Int.reduceToNat,reduceIte,reduceCtorEq];refine⟨by decide,by simp[maxLen];omega,by decide,λh=>by simp at h;omega,λh=>?_⟩;refine i _ (aX ?_ (ih (n / 10) (UInt8.ofNat (48+n % 10)::s) j (by omega) (by simp;omega) a));repeat' constructor
def Fw(a:k<2^62)(J:ag):bO θ 244 [.I k] J (.s (Lib.decDigits k)):=by
 refine a6 func244 aij λc b=>ay ?_;simp only[abQ,SS,seval];simp only[VV,seval];refine cd.aX ?_ 19 (Vi 18 k [] (by omega) a (by simp) ?_);.repeat' constructor
 simp only[JE];intros;simp only[VV,seval];exact aY (.inr rfl) (by simp only[RS,seval];rfl) ⟨by simp[Pm.one],rfl⟩
def Fx(b:k<2^62)(J:ag):bO θ 204 [.I k] J (.s (Lib.itoa k)):=by
 refine a6 func204 aiF λf d=>ay ?_;have c:decide ((k:Int)<0)=Z:=by simp
 have a:(if(k:Int)<0 then(0:Int)else k)=k:=au (by omega);simp only[acd,SS,seval];simp only[c,a,VV,seval];refine aA (Fw k b _) rfl ?_;simp only[VV,seval];refine aY (.inr rfl) (by simp only[RS,seval];rfl) ⟨?_,rfl⟩;have e:Lib.itoa (k:Int)=Lib.decDigits k:=by unfold Lib.itoa;rw[au (by omega)];rfl
 rw[e];rfl
def Ka:∀c:UInt8,((((c.toNat:Int)==92||(c.toNat:Int)==60)||(c.toNat:Int)==123)=A->fa c=[92,c]) /\((((c.toNat:Int)==92||(c.toNat:Int)==60)||(c.toNat:Int)==123)=Z->(((c.toNat:Int)==10)=A->fa c=[92,110]) /\(((c.toNat:Int)==10)=Z->(((c.toNat:Int)==9)=A->fa c=[92,116]) /\(((c.toNat:Int)==9)=Z->(((c.toNat:Int)==13||du c==1)=A->fa c=[92,120,iT (c.toNat / 16),iT (c.toNat % 16)]) /\(((c.toNat:Int)==13||du c==1)=Z->fa c=[c])))):=ib (by decide +kernel)
def ZO:∀c:UInt8,(0<=IntKind.u8.wrap ((c.toNat:Int).tdiv 16)/\IntKind.u8.wrap ((c.toNat:Int).tdiv 16)<((16:Nat):Int))/\(0<=(c.toNat:Int).tmod 16/\(c.toNat:Int).tmod 16<((16:Nat):Int)) /\([48,49,50,51,52,53,54,55,56,57,97,98,99,100,101,102]:aJ).getD (IntKind.u8.wrap ((c.toNat:Int).tdiv 16)).toNat 0=iT (c.toNat / 16) /\([48,49,50,51,52,53,54,55,56,57,97,98,99,100,101,102]:aJ).getD ((c.toNat:Int).tmod 16).toNat 0=iT (c.toNat % 16):=ib (by decide +kernel)
def we:bO θ 164 [.i .u8 c.toNat] X (.s (fa c)):=by
 refine a6 func164 ai7 λo n=>ay ?_;obtain⟨h,f⟩:=Ka c;simp only[acH,SS,seval];simp only[VV,seval];refine⟨λa=>⟨by decide,?_⟩,λa=>⟨λb=>?_,λb=>⟨λe=>?_,λe=>?_⟩⟩⟩;.exact aY (.inr rfl) (by simp only[RS,seval];rfl) ⟨by rw[h a];rfl,rfl⟩
 .exact aY (.inr rfl) (by simp only[RS,seval];rfl) ⟨by rw[(f a).1 b];rfl,rfl⟩
 .exact aY (.inr rfl) (by simp only[RS,seval];rfl) ⟨by rw[((f a).2 b).1 e];rfl,rfl⟩
 have g:=((f a).2 b).2 e;refine b7 (by simp only[VV,seval]<;>rfl) (λ_=>jU c _) rfl ?_;simp only[VV,Int.reduceBEq,Int.reduceBNe,Nat.reduceAdd,Nat.reduceSub,Nat.reduceLeDiff,Nat.reduceEqDiff,Int.reduceToNat,reduceIte,reduceCtorEq];obtain⟨k,m,l,j⟩:=ZO c;refine⟨λd=>⟨by decide,k,by decide,m,by decide,?_⟩,λd=>?_⟩;.refine aY (.inr rfl) (by simp only[RS,seval];rfl) ⟨?_,rfl⟩;rw[g.1 d,<- l,<- j];rfl
 exact aY (.inr rfl) (by simp only[RS,seval];rfl) ⟨by rw[g.2 d];rfl,rfl⟩
def adA:((c.toNat:Int) != 62)=(c != 62):=by revert c;exact ib (by decide +kernel)
def Xb:(decide (48<=(c.toNat:Int))&&decide ((c.toNat:Int)<=57))=dZ c:=by revert c;exact ib (by decide +kernel)
def Ty{pre:aJ}{c:UInt8}(a:∀c∈pre,dZ c=A)(d:F pre<=4)(b:dZ c=A): IntKind.i64.wrap (IntKind.i64.wrap (10*dX 0 pre)+IntKind.i64.wrap (IntKind.u8.wrap ((c.toNat:Int) - 48)))=dX 0 (pre++[c]):=by
 have h:=Cr pre 0 (F pre) rfl (cv.2 a) (cP 0);have g:(10:Int)^F pre<=10^4:=by
  have:F pre=0\/F pre=1\/F pre=2\/F pre=3\/F pre=4:=by omega
  rcases this with h|h|h|h|h<;>rw[h]<;>decide
 simp only[dZ,aP,a7]at b;have e:IntKind.u8.wrap ((c.toNat:Int) - 48)=(c.toNat:Int) - 48:=IntWalk.u8_in _ (by omega);have f:dX 0 pre<10000:=by omega
 rw[e,IntWalk.i64_in (10*dX 0 pre) (by omega),IntWalk.i64_in ((c.toNat:Int) - 48) (by omega),IntWalk.i64_in _ (by omega)];simp[dX]
def Ke{pre a:aJ}(b:∀c∈pre,dZ c=A):F ((pre++a).takeWhile dZ)=F pre+F (a.takeWhile dZ):=by rw[List.takeWhile_append_of_pos b,ai]
set_option maxRecDepth 4000 in
def Pc(s:aJ)(e:F s<2^62):∀(a pre:aJ),s=pre++a ->(((fh (.s s) (fj 1 (fh (S) (fj 1 (fh (.I ((F pre+F (a.takeWhile λc=>c != 62):Nat):Int)) (fj 134 fo)))))) λk=>K (.exit 0) ⟨k,J⟩)) ->fS n θ F3 K (F a+1) ⟨(.s s::uu 1 (S::uu 1 (.I (F pre)::uu 134 []))),J⟩:=by
 intro a;induction a with
 |nil =>
  intro pre d b;have d:=db d;subst d;have f:decide ((F s:Int)<(F s:Int))=Z:=by simp
  simp only[List.takeWhile_nil,az,dQ]at b;refine aF λR j=>?_;simp only[F3,f,VV,seval];exact⟨nofun,b ..⟩
 |cons c a ih =>
 intro pre d b;subst d;have f:decide ((F pre:Int)<(F (pre++c::a):Int))=A:=by simp;omega
 refine aF λR j=>?_;simp only[F3,f,VV,seval];refine⟨by simp;omega,λh=>?_,λh=>?_⟩
 .have g:(c != 62)=A:=by rw[<- adA];exact h
  have i:F pre+F ((c::a).takeWhile λc=>c != 62)=F (pre++[c])+F (a.takeWhile λc=>c != 62):=by rw[fk,aK g];simp;omega
  rw[i]at b;refine j _ (aX ?_ (ih (pre++[c]) (by simp) b));rw[cq (by simp at e;omega)];simp only[ai,ah,az];repeat' constructor
 have g:¬(c != 62)=A:=by rw[<- adA,h];simp
 have i:F pre+F ((c::a).takeWhile λc=>c != 62)=F pre:=by rw[fk,au g];simp
 rw[i]at b;exact b ..
set_option maxRecDepth 4000 in
def Pb(B C:V)(t:aJ)(p:F t<2^62):∀(m:Nat) (pre a:aJ),t=pre++a->F pre+m=4->(∀c∈pre,dZ c=A) ->(∀k:Nat,k=min 4 (F (t.takeWhile dZ))->((fj 2 (fh (S) (fj 1 (fh (B) (fh (.s t) (fh (C) (fh (.I (dX 0 (t.take k))) (fh (.I k) (fj 130 fo))))))))) λq=>K (.exit 2) ⟨q,J⟩)) ->fS n θ Bw K (m+1) ⟨(uu 2 (S::uu 1 (B::.s t::C::.I (dX 0 pre)::.I (F pre)::uu 130 []))),J⟩:=by
 intro m;induction m with
 |zero =>
  intro pre a l r d b;subst l;have f:decide ((F pre:Int)<4)=Z:=by simp;omega
  refine aF λR o=>?_;simp only[Bw,f,VV,seval];have:=b (F pre) (by rw[Ke d];omega);rw[nu]at this;exact⟨nofun,nofun,this ..⟩
 |succ m ih =>
 intro pre a l r d b;subst l;have f:decide ((F pre:Int)<4)=A:=by simp;omega
 cases a with
 |nil =>
  have h:decide ((F pre:Int)<(F pre:Int))=Z:=by simp
  have i:=b (F pre) (by rw[Ke d];simp;omega);rw[nu]at i;clear b ih;simp only[bM]at i |-;refine aF λR o=>?_;simp only[Bw,h,f,VV,seval];exact⟨nofun,nofun,i ..⟩
 |cons c a =>
 have h:decide ((F pre:Int)<(F (pre++c::a):Int))=A:=by simp;omega
 refine aF λR o=>?_;simp only[Bw,h,f,VV,seval];have j:(0:Int)<=(F pre:Int)/\(F pre:Int)<(F (pre++c::a):Int):=by simp;omega
 rw[Xb];refine⟨j,λ_=>j,λg=>⟨j,?_⟩,λg=>?_⟩
 .rw[Ty d (by omega) g];refine o _ (aX ?_ (ih (pre++[c]) a (by simp) (by simp;omega) (by
   intro x e;rcases bR.1 e with e|e;.exact d x e
   simp only[bE,fK,vA]at e;subst e;exact g) b));rw[cq (by omega)];simp only[ai,ah,az];repeat' constructor
 have:=b (F pre) (by rw[Ke d,fk,au (by rw[g];simp)];simp;omega);rw[nu]at this;exact this ..
def Sl(c:UInt8):∀l:aJ,Lib.indexByte l c=if(l.takeWhile λx=>x != c).length<F l then(F (l.takeWhile λx=>x != c):Int)else -1
 |[]=>by simp[Lib.indexByte]
 |a::l=>by
  by_cases f:a=c;.subst f;simp[Lib.indexByte]
  have g:(a==c)=Z:=by simpa using f
  have d:(a != c)=A:=by simpa using f
  have ih:=Sl c l;simp only[Lib.indexByte,g,aI,aQ,fk,d,aU,ah];generalize (F (l.takeWhile λx=>x != c))=b at ih;by_cases h:b<F l
  .rw[aK h]at ih;have e:((b:Int) == -1)=Z:=by rw[cU];omega
   rw[ih,aK (show b+1<F l+1 by omega),e];rfl
  rw[au h]at ih;rw[ih,au (show ¬b+1<F l+1 by omega)];rfl
def Kw:jE (60::s)=if(s.takeWhile λx=>x != 62).length<F s then
  (if(Fm (s.take (F (s.takeWhile λx=>x != 62)))).2=A then((Fm (s.take (F (s.takeWhile λx=>x != 62)))).1,(F (s.takeWhile λx=>x != 62):Int)+2)else(mG,0))else(mG,0):=by
 have a:=Sl 62 (60::s);simp only[fk,show((60:UInt8) != 62)=A from rfl,aU,ah]at a;rw[Ol rfl];by_cases h:F (s.takeWhile λx=>x != 62)<F s
 .rw[aK (by omega)]at a;rw[a,aK h,au (by omega)];have e:((60::s).take ((F (s.takeWhile λx=>x != 62)+1:Nat):Int).toNat).drop 1=s.take (F (s.takeWhile λx=>x != 62)):=by rw[aG,iw];rfl
  rw[e];congr 2
 rw[au (by omega)]at a;rw[a,au h,aK (by decide)]
def u47:((c.toNat:Int)==47)=(c==47):=by revert c;exact ib (by decide +kernel)
def u48:((c.toNat:Int)==48)=(c==48):=by revert c;exact ib (by decide +kernel)
def u58:((c.toNat:Int) != 58)=(c != 58):=by revert c;exact ib (by decide +kernel)
def abG(h:t≠[]):apj t [47]=(((t.getD 0 0).toNat:Int)==47):=by cases t with|nil=>exact absurd rfl h|cons a t=>rw[u47];simp[apj]
def abv(h:t≠[]):hasSuffix t [47]=(((t.getD (F t - 1) 0).toNat:Int)==47):=by
 rcases fR t with b|⟨c,a,b⟩;.exact absurd b h
 rw[fg]at b;subst b;rw[u47,ml];simp[aq]
set_option maxRecDepth 8000 in
def Fs(s:aJ)(h0:s.getD 0 0=60)(l:F s<2^62)(J:ag):bO θ 163 [.s s] J (.gy [.agg (jE s).1.aoZ,.I (jE s).2]):=by
 obtain⟨d,rfl⟩:∃d,s=60::d:=by cases s with|nil=>simp at h0|cons a r=>simp only[aO]at h0;exact⟨r,by rw[h0]⟩
 refine a6 func163 ai8 λq dN=>?_;simp only[acI,SS,seval];refine cd.cut λR g=>?_;simp only[VV,seval];refine g _ (cd.gW (fr':=(.s (60::d)::uu 1 (.ptr (F J) 0::uu 136 []))) ?_ (by repeat' constructor));clear g R;refine cd.cut λR g=>?_;simp only[VV,seval];refine g _ (cd.gW (fr':=(.s (60::d)::uu 1 (.ptr (F J) 0::uu 1 (.I ((1:Nat):Int)::uu 134 [])))) ?_ (by repeat' constructor));clear g R;refine cd.cut λR g=>?_;simp only[VV,seval];have o:=Kw d;refine cd.aX ?_ (F d+1) (Pc (.ptr (F J) 0) (60::d) l d [60] rfl ?_);.simp only[ah,az];repeat' constructor
 generalize O:F (d.takeWhile λx=>x != 62)=e at o;have ac:e<=F d:=by rw[<- O];exact(List.takeWhile_prefix _).length_le
 simp only[JE];intros;simp only[ah,az,bq,VV,seval];refine g _ (cd.gW (fr':=(.s (60::d)::uu 1 (.ptr (F J) 0::uu 1 (.I ((1+e:Nat):Int)::uu 134 [])))) ?_ (by repeat' constructor));clear g R;refine cd.cut λR g=>?_;simp only[ah,VV,seval];refine⟨λh=>?_,λh=>?_⟩
 .have h:¬e<F d:=by simp at h;omega
  rw[au h]at o;refine bl q (.inr rfl) (by simp only[RS,seval];rfl) (by simp[LW]) ⟨?_,rfl⟩;rw[o];rfl
 have h:e<F d:=by simp at h;omega
 rw[aK h]at o;refine g _ (cd.gW (fr':=(.s (60::d)::uu 1 (.ptr (F J) 0::uu 1 (.I ((1+e:Nat):Int)::uu 134 [])))) ?_ (by repeat' constructor));clear g R;generalize C:d.take e=t at o;have H:F t<2^62:=by rw[<- C,bB];simp at l;omega
 refine cd.cut λR g=>?_;simp only[ah,VV,seval];refine⟨by omega,?_⟩;have M:List.take (1+e - 1) d=t:=by rw[<- C];congr 1;omega
 rw[M];refine g _ (cd.gW (fr':=(uu 2 (.ptr (F J) 0::uu 1 (.I ((1+e:Nat):Int)::.s t::.I 2::uu 132 [])))) ?_ (by repeat' constructor));clear g R;refine cd.cut λR g=>?_;have j:∀(f:Int) (u:aJ),F u<2^62->jE (60::d)=(if(sV f u).2=A then((sV f u).1,(e:Int)+2)else(mG,0))->(f=2\/f=3\/f=4) ->
   ∀{p:ao},pe p (uu 2 (.ptr (F J) 0::uu 1 (.I ((1+e:Nat):Int)::.s u::.I f::uu 132 [])))->R ⟨p,J++[.box 61 [.I 0,.s [],.I 0]]⟩:=by
  intro f u L m SM p D;refine g _ (cd.gW ?_ D);clear g R;refine cd.cut λR g=>?_;simp only[VV,seval];refine g _ (cd.gW (fr':=(uu 2 (.ptr (F J) 0::uu 1 (.I ((1+e:Nat):Int)::.s u::.I f::.I (dX 0 [])::.I (F ([]:aJ):Nat)::uu 130 [])))) ?_ (by repeat' constructor));clear g R;refine cd.cut λR g=>?_;simp only[VV,seval];refine cd.aX ?_ 5 (Pb (.ptr (F J) 0) (.I ((1+e:Nat):Int)) (.I f) u L 4 [] u rfl rfl (by simp) ?_);.repeat' constructor
  intro k T;simp only[JE];intros;simp only[VV,seval];refine g _ (cd.gW (fr':=(uu 2 (.ptr (F J) 0::uu 1 (.I ((1+e:Nat):Int)::.s u::.I f::.I (dX 0 (u.take k))::.I k::uu 130 [])))) ?_ (by repeat' constructor));clear g R;have n:sV f u=if k=0\/F u<=k\/u.getD 0 0=48\/999<dX 0 (u.take k)\/u.getD k 0≠58 then(mG,Z)else
    if(f=3/\apb (u.drop (k+1))=Z)\/(f≠3/\dx (u.drop (k+1))=Z)then(mG,Z)else(⟨f,u.drop (k+1),dX 0 (u.take k)⟩,A):=by rw[T];rfl
  refine cd.cut λR g=>?_;simp only[aG,VV,seval];have Q:(((((k:Int)==0||decide ((F u:Int)<=(k:Int)))||((u.getD 0 0).toNat:Int)==48)||decide (999<dX 0 (u.take k)))||((u.getD k 0).toNat:Int) != 58)=decide (k=0\/F u<=k\/u.getD 0 0=48\/999<dX 0 (u.take k)\/u.getD k 0≠58):=by rw[u48,u58,dL];simp[or_assoc]
  rw[Q];refine⟨λh=>by simp at h;omega,λh=>by simp at h;omega,λh=>?_,λh=>?_⟩;.rw[aK (by simpa using h)]at n;refine bl q (.inr rfl) (by simp only[RS,seval];rfl) (by simp[LW]) ⟨?_,rfl⟩;rw[m,n];rfl
  have h:=of_decide_eq_false h;rw[au h]at n;simp only[T8]at h;refine g _ (cd.gW (fr':=(uu 2 (.ptr (F J) 0::uu 1 (.I ((1+e:Nat):Int)::.s u::.I f::.I (dX 0 (u.take k))::.I k::uu 130 [])))) ?_ (by repeat' constructor));clear g R;have U:IntKind.i64.wrap ((k:Int)+1)=((k+1:Nat):Int):=by rw[IntWalk.i64_in _ (by omega)];omega
  refine cd.cut λR g=>?_;simp only[U,aG,VV,seval];have W:List.take (F u - (k+1)) (List.drop (k+1) u)=u.drop (k+1):=cn (by simp);rw[W];refine⟨by omega,?_⟩;refine g _ (cd.gW (fr':=(uu 2 (.ptr (F J) 0::uu 1 (.I ((1+e:Nat):Int)::uu 1 (.I f::uu 2 (.ptr (F J+1) 0::uu 129 [])))))) ?_ (by repeat' constructor));clear g R;have X:IntKind.i64.wrap (((1+e:Nat):Int)+1)=(e:Int)+2:=by rw[IntWalk.i64_in _ (by simp at l;omega)];omega
  refine cd.cut λR g=>?_;have y:∀{p:ao},jE (60::d)=(⟨f,u.drop (k+1),dX 0 (u.take k)⟩,(e:Int)+2)->pe p (uu 2 (.ptr (F J) 0::uu 1 (.I ((1+e:Nat):Int)::uu 4 (.ptr (F J+1) 0::uu 129 [])))) ->
    R ⟨p,J++[.box 61 [.I 0,.s [],.I 0],.box 61 [.I f,.s (u.drop (k+1)),.I (dX 0 (u.take k))]]⟩:=by intro p S D;refine g _ (cd.gW ?_ D);clear g R;refine ay ?_;simp only[X,VV,seval];refine bl q (.inr rfl) (by simp only[RS,seval];rfl) (by simp[LW]) ⟨?_,rfl⟩;rw[S];rfl
  by_cases w:f=3
  .subst w;simp only[VV,seval];refine b7 (by simp only[VV,seval]<;>rfl) (λ_=>lZ _ _) rfl ?_;simp only[VV,seval];refine b7 (c:=Z) (v:=.b Z) (by simp only[VV,seval]<;>simp) (nofun) rfl ?_;simp only[VV,seval];refine⟨λi=>?_,λi=>?_⟩
   .have i:apb (u.drop (k+1))=Z:=by rw[da]at i;exact i
    rw[aK (.inl ⟨rfl,i⟩)]at n;refine bl q (.inr rfl) (by simp only[RS,seval];rfl) (by simp[LW]) ⟨?_,rfl⟩;rw[m,n];rfl
   have i:apb (u.drop (k+1))=A:=by rw[fB]at i;exact i
   rw[au (by simp only[i];simp)]at n;exact y (by rw[m,n];rfl) (by repeat' constructor)
  have G:(f==3)=Z:=by simpa using w
  have z:(f != 3)=A:=by simpa using w
  simp only[G,z,VV,seval];refine b7 (c:=Z) (v:=.b Z) (by simp only[VV,seval]<;>rfl) (nofun) rfl ?_;simp only[G,z,VV,seval];refine b7 (by simp only[VV,seval]<;>rfl) (λ_=>oL _ _) rfl ?_;simp only[VV,seval];refine⟨λi=>?_,λi=>?_⟩
  .have i:dx (u.drop (k+1))=Z:=by rw[da]at i;exact i
   rw[aK (.inr ⟨w,i⟩)]at n;refine bl q (.inr rfl) (by simp only[RS,seval];rfl) (by simp[LW]) ⟨?_,rfl⟩;rw[m,n];rfl
  have i:dx (u.drop (k+1))=A:=by rw[fB]at i;exact i
  rw[au (by simp only[i,w];simp)]at n;exact y (by rw[m,n];rfl) (by repeat' constructor)
 simp only[VV,seval];have V:F t<=F d:=by rw[<- C,bB];omega
 by_cases B:t=[]
 .subst B;refine⟨nofun,nofun,λ_=>⟨nofun,nofun,λ_=>j 2 [] (by simp) ?_ (.inl rfl) ?_⟩⟩;.exact o
  repeat' constructor
 have yt:0<F t:=dJ.2 B;have K:IntKind.i64.wrap ((F t:Int) - 1)=((F t - 1:Nat):Int):=by rw[IntWalk.i64_in _ (by omega)];omega
 have P:decide ((0:Int)<(F t:Int))=A:=by simp;omega
 have E:List.take (F t - 1) (List.drop 1 t)=t.drop 1:=cn (by simp);simp only[K,P,E,aG,cY,<- abG B,<- abv B];refine⟨λ_=>by omega,λh=>⟨by omega,j 3 (t.drop 1) (by simp;omega) ?_ (.inr (.inl rfl)) ?_⟩,λh=>⟨λ_=>by omega,λi=>⟨by omega,j 4 (t.take (F t - 1)) (by simp;omega) ?_ (.inr (.inr rfl)) ?_⟩,λi=>j 2 t H ?_ (.inl rfl) ?_⟩⟩;.rw[o];simp only[Fm,h,aU]
 .repeat' constructor
 .rw[o];simp only[Fm,h,i,aI,aQ,aU]
 .repeat' constructor
 .rw[o];simp only[Fm,h,i,aI,aQ]
 repeat' constructor
def Fi:Prop:=s.getD k 0=125/\apb ((s.take k).drop 1)=A
def afX:((c.toNat:Int)==125)=(c==125):=by revert c;exact ib (by decide +kernel)
def Pl{J:ag}{K:bj}(s:aJ)(u:F s<2^62):∀(m k:Nat),k+m=26->1<=k->(∀j,1<=j->j<k->j<F s->¬Fi s j) ->((∀j,1<=j->j<F s->j<=25->¬Fi s j)->((fj 2 (fh (.ptr (F J) 0) (fj 71 fo))) λq=>K (.exit 1) ⟨q,J++[.box 61 [.I 0,.s [],.I 0]]⟩)) ->(∀k:Nat,1<=k->k<F s->Fi s k->((fj 2 (fh (.ptr (F J) 0) (fh (.I ((k+1:Nat):Int)) (fj 70 fo)))) λq=>K .ret ⟨q,J++[.box 61 [.I 5,.s ((s.take k).drop 1),.I 0]]⟩)) ->fS (F J) θ BC K (m+1) ⟨(.s s::uu 1 (.ptr (F J) 0::uu 1 (.I k::uu 69 []))),J++[.box 61 [.I 0,.s [],.I 0]]⟩:=by
 intro m;induction m with
 |zero =>
  intro k v t c e l;have d:decide ((k:Int)<=25)=Z:=by simp;omega
  refine aF λR p=>?_;simp only[BC,d,ir,VV,seval];exact e (λj b f n=>c j b (by omega) f) ..
 |succ m ih =>
 intro k v t c e l;have d:decide ((k:Int)<=25)=A:=by simp;omega
 have g:IntKind.i64.wrap ((k:Int)+1)=((k+1:Nat):Int):=by rw[IntWalk.i64_in _ (by omega)];omega
 by_cases o:k<F s
 .have i:decide ((k:Int)<(F s:Int))=A:=by simp;omega
  refine aF λR p=>?_;have a:List.take (k - 1) (List.drop 1 s)=(s.take k).drop 1:=by rw[aaW]
  simp only[BC,i,d,g,aG,a,VV,seval];refine⟨by omega,λ_=>by omega,b7 (by simp only[VV,seval]<;>rfl) (λ_=>lZ _ _) rfl ?_⟩;simp only[g,a,afX,aG,VV,seval];refine⟨λh=>⟨by omega,?_⟩,λh=>?_⟩;.exact l k t o (by simpa[Fi]using h) ..
  refine p _ (aX ?_ (ih (k+1) (by omega) (by omega) (λj b f n=>?_) e l));.repeat' constructor
  by_cases w:j=k;.subst w;intro r;rw[r.1,r.2]at h;simp at h
  exact c j b (by omega) n
 have i:decide ((k:Int)<(F s:Int))=Z:=by simp;omega
 refine aF λR p=>?_;simp only[BC,i,d,g,aG,VV,seval];exact e (λj b f n=>c j b (by omega) f) ..
def Pk{J:ag}{K:bj}(s:aJ)(l:F s<2^62):∀(m c:Nat),c+m=256->(∀j,j<c->apj s (fa (UInt8.ofNat j))=Z) ->((∀j,j<256->apj s (fa (UInt8.ofNat j))=Z)->((fj 2 (fh (.ptr (F J) 0) (fj 71 fo))) λd=>K (.exit 3) ⟨d,J++[.box 61 [.I 0,.s [],.I 0]]⟩)) ->(∀b:UInt8,apj s (fa b)=A->((fj 2 (fh (.ptr (F J) 0) (fh (.I (F (fa b))) (fj 70 fo)))) λd=>K .ret ⟨d,J++[.box 61 [.I 1,.s [b],.I 0]]⟩)) ->fS (F J) θ Gk K (m+1) ⟨(.s s::uu 1 (.ptr (F J) 0::uu 2 (.I c::uu 68 []))),J++[.box 61 [.I 0,.s [],.I 0]]⟩:=by
 intro m;induction m with
 |zero =>
  intro c i f e a;have i:c=256:=by omega
  subst i;refine aF λR o=>?_;simp only[Gk,VV,seval];exact⟨nofun,λ_=>e f ..⟩
 |succ m ih =>
 intro c i f e a;have n:IntKind.i64.wrap ((c:Int)+1)=((c+1:Nat):Int):=by rw[IntWalk.i64_in _ (by omega)];omega
 have k:IntKind.u8.wrap (c:Int)=((UInt8.ofNat c).toNat:Int):=by rw[IntWalk.u8_in _ (by omega)];simp;omega
 have p:decide ((c:Int)<256)=A:=by simp;omega
 refine aF λR o=>?_;simp only[Gk,p,k,n,VV,seval];refine aA (we (UInt8.ofNat c) _) rfl ?_;simp only[k,n,aG,VV,seval];have q:(decide ((F (fa (UInt8.ofNat c)):Int)<=(F s:Int))&&List.take (F (fa (UInt8.ofNat c))) s==fa (UInt8.ofNat c))=apj s (fa (UInt8.ofNat c)):=by simp only[apj,Int.ofNat_le]
 rw[q];refine⟨λh=>by simp at h;omega,λh=>a _ h ..,λh=>?_⟩;refine o _ (aX ?_ (ih (c+1) (by omega) (λj r=>?_) e a));.repeat' constructor
 by_cases g:j=c;.subst g;exact h
 exact f j (by omega)
def Ox(s:aJ)(q:s≠[])(d:F s<2^62)(J:ag):bO θ 104 [.s s] J (.gy [.agg (jE s).1.aoZ,.I (jE s).2]):=by
 refine a6 func104 ajL λg v=>ay ?_;have x:0<F s:=dJ.2 q;have e:(((s.getD 0 0).toNat:Int)==123)=(s.getD 0 0==123):=by generalize s.getD 0 0=a;revert a;exact ib (by decide +kernel)
 have i:(((s.getD 0 0).toNat:Int)==60)=(s.getD 0 0==60):=by generalize s.getD 0 0=a;revert a;exact ib (by decide +kernel)
 have f:(0:Int)<=0/\(0:Int)<(F s:Int):=by omega
 simp only[adr,SS,seval];by_cases h:s.getD 0 0=123
 .have l:(s.getD 0 0==123)=A:=by simpa using h
  simp only[e,l,VV,seval,-Int.reduceLE];refine⟨f,?_⟩;refine cd.aX ?_ 26 (Pl s d 25 1 rfl (ax _) (λj w z=>by omega) (λn=>?_) (λk r u p=>?_));.simp only[Int.natCast_one];repeat' constructor
  .simp only[JE];intros;simp only[VV,seval];refine bl g (.inr rfl) (by simp only[RS,seval];rfl) (by simp[LW]) ⟨?_,rfl⟩;rw[Fo h n];rfl
  simp only[JE];intros;simp only[VV,seval];refine bl g (.inr rfl) (by simp only[RS,seval];rfl) (by simp[LW]) ⟨?_,rfl⟩;rw[Kv h r u p.1 p.2];rfl
 have l:(s.getD 0 0==123)=Z:=by simpa using h
 by_cases m:s.getD 0 0=60
 .have o:(s.getD 0 0==60)=A:=by simpa using m
  simp only[e,i,l,o,VV,seval,-Int.reduceLE];refine⟨f,f,?_⟩;refine aA (Fs s m d _) rfl ?_;simp only[It.aoZ,VV,seval];refine bl g (.inr rfl) (by simp only[RS,seval];rfl) (by simp[LW]) ⟨?_,rfl⟩;rfl
 have o:(s.getD 0 0==60)=Z:=by simpa using m
 simp only[e,i,l,o,VV,seval,-Int.reduceLE];refine⟨f,f,?_⟩;refine cd.aX ?_ 257 (Pk s d 256 0 rfl (λj y=>by omega) (λn=>?_) (λb t=>?_));.simp only[iX];repeat' constructor
 .simp only[JE];intros;simp only[VV,seval];refine bl g (.inr rfl) (by simp only[RS,seval];rfl) (by simp[LW]) ⟨?_,rfl⟩;rw[Kx q m h (λc=>by have:=n c.toNat c.toNat_lt;rwa [UInt8.ofNat_toNat]at this)];rfl
 simp only[JE];intros;simp only[VV,seval];refine bl g (.inr rfl) (by simp only[RS,seval];rfl) (by simp[LW]) ⟨?_,rfl⟩;rw[Ky t];rfl
def Za(s:aJ)(u:bT J)(i:F s<2^30):∀(n:Nat) (a pre:aJ) (f:List It) (len:Nat),s=pre++a->F a<n->F f<=512->aR f<=F pre->len<=1024 ->((gV n f len a (F pre)).2.2=0->((fj 5 (fh (.sl 3 ((gV n f len a (F pre)).1.map It.aoZ)) (fj 49 fo))) λq=>K (.exit 0) ⟨q,J⟩)) ->((gV n f len a (F pre)).2.2≠0->∀t,((fj 2 (fh (.nil) (fh (.I (gV n f len a (F pre)).2.1) (fh (.I (gV n f len a (F pre)).2.2) (fj 50 fo))))) λq=>K .ret ⟨q,J++t⟩)) ->fS (F J) θ MJ K n ⟨(.s s::uu 4 (.sl 3 (f.map It.aoZ)::.I (F pre)::.I len::uu 47 [])),J⟩:=by
 intro n;induction n with
 |zero=>intro a pre f len e y;omega
 |succ n ih =>
 intro a pre f len e y P H L g b;cases a with
 |nil =>have e:=db e;subst e;simp only[gV]at g;refine aF λR r=>?_;simp only[MJ,VV,seval];exact⟨λh=>by simp at h,λ_=>g trivial ..⟩
 |cons c a =>
 subst e;have z:=Ku (s:=c::a) (by simp);have B:List.take (F (pre++c::a) - F pre) (List.drop (F pre) (pre++c::a))=c::a:=by simp
 simp only[gV]at g b;refine aF λR r=>?_;simp only[MJ,B,aG,VV,seval];refine⟨λ_=>⟨by simp;omega,?_⟩,λh=>by simp at h<;>omega⟩;refine aA (Ox (c::a) (by simp) (by simp at i |-;omega) _) rfl ?_;generalize O:jE (c::a)=xm at *;obtain⟨x,m⟩:=xm;simp only at z g b;simp only[It.aoZ,VV,seval];refine⟨λj=>?_,λj=>?_⟩
 .have j:m=0:=by simpa using j
  simp only[j,aU]at b;exact b (by simp) [_] ..
 have j:m≠0:=by simpa using j
 obtain⟨M,C,G⟩:=z j;rw[au j]at g b;have E:=BG (f++[x]);simp only[eJ,aR,ai,ah,az]at E;have D:F pre+(F a+1)<2^30:=by simpa using i
 simp only[ah]at C y;have p:F (pre++(c::a).take m.toNat)=F pre+m.toNat:=by rw[ai,bB,ah];omega
 have w:IntKind.i64.wrap ((len:Int)+1)=((len+1:Nat):Int):=by rw[IntWalk.i64_in _ (by omega)];omega
 have l:IntKind.i64.wrap ((F pre:Int)+m)=(F pre:Int)+m:=IntWalk.i64_in _ (by omega);have v:(len:Int)+1=((len+1:Nat):Int):=by omega
 have o:(F pre:Int)+m=((F (pre++(c::a).take m.toNat):Nat):Int):=by rw[p];omega
 refine⟨λk=>?_,λk=>?_⟩
 .have k:x.ao0≠1:=by simpa using k
  refine aA (Bh f x _) rfl ?_;simp only[It.aoZ,VV,seval];refine⟨λe=>?_,λe=>?_⟩
  .have e:fy f x≠0:=by simpa using e
   rw[aK ⟨k,e⟩]at b;exact b e [_] ..
  have e:fy f x=0:=by simpa using e
  rw[au (λh=>h.2 e)]at g b;refine mu (zs:=[.sl 3 (f.map It.aoZ),.sl 3 ([x].map It.aoZ)]) (.cons (.refl _) (.cons (.lit _ _) .nil)) (jP f [x] (by omega) (by simp) (by omega) (by simp only[aR];omega) _) ?_;simp only[w,l,ae,VV,seval];refine⟨λd=>?_,λd=>?_⟩
  .have d:512<F (ao6 (f++[x]))\/(1024:Int)<(len:Int)+1:=by simp at d;omega
   rw[aK d]at b;exact b (by simp) [_] ..
  have d:¬(512<F (ao6 (f++[x]))\/(1024:Int)<(len:Int)+1):=by simp at d;omega
  rw[au d,v,o]at g b;refine r _ (oK (ax _) u ?_ ?_ (ih ((c::a).drop m.toNat) (pre++(c::a).take m.toNat) (ao6 (f++[x])) (len+1) (by simp) (by rw[bY,ah];omega) (by omega) (by rw[p];omega) (by omega) g b));.rw[<- o];repeat' constructor
  simp only[LW]
 have k:x.ao0=1:=by simpa using k
 rw[au (λh=>h.1 k)]at g b;refine mu (zs:=[.sl 3 (f.map It.aoZ),.sl 3 ([x].map It.aoZ)]) (.cons (.refl _) (.cons (.lit _ _) .nil)) (jP f [x] (by omega) (by simp) (by omega) (by simp only[aR];omega) _) ?_;simp only[w,l,ae,VV,seval];refine⟨λd=>?_,λd=>?_⟩
 .have d:512<F (ao6 (f++[x]))\/(1024:Int)<(len:Int)+1:=by simp at d;omega
  rw[aK d]at b;exact b (by simp) [_] ..
 have d:¬(512<F (ao6 (f++[x]))\/(1024:Int)<(len:Int)+1):=by simp at d;omega
 rw[au d,v,o]at g b;refine r _ (oK (ax _) u ?_ ?_ (ih ((c::a).drop m.toNat) (pre++(c::a).take m.toNat) (ao6 (f++[x])) (len+1) (by simp) (by rw[bY,ah];omega) (by omega) (by rw[p];omega) (by omega) g b));.rw[<- o];repeat' constructor
 simp only[LW]
def Bg(s:aJ)(a:F s<2^30)(J:ag):bO θ 47 [.s s] J (.gy [.sl 3 ((parse s).1.map It.aoZ),.I (parse s).2.1,.I (parse s).2.2]):=by
 refine a6 func47 c47 λc i=>ay ?_;rw[<- Fp];simp only[p47,SS,seval];simp only[VV,seval];refine cd.wk (Wk.gW ?_) (cd.xA (F s+1) (Za s c a (F s+1) s [] [] 0 rfl (by omega) (by simp) (by simp[aR]) (by omega) (λh=>?_) (λh=>?_)));.simp only[az,iX,bI,VV,seval];repeat' constructor
 .have e:=Bb _ _ _ _ _ h;simp only[JE];intros;simp only[VV,seval];refine aY (.inr rfl) (by simp only[RS,seval];rfl) ⟨?_,rfl⟩;have d:(xS s).2.2=0:=h;have f:(xS s).2.1=0:=e;rw[d,f];rfl
 simp only[JE];intros;simp only[VV,seval];refine pA (ys:=[.sl 3 [],.I (xS s).2.1,.I (xS s).2.2]) c (.inr rfl) (by simp only[RS,seval];rfl) ?_ (by simp[LW]) ⟨?_,rfl⟩;.exact .cons (.nil _) (.cons (.refl _) (.cons (.refl _) .nil))
 have g:=yY _ _ _ _ _ h;have b:(xS s).1=[]:=g;rw[b];rfl
def VB(d:Int)(s:aJ)(f:F s<2^40):∀(a pre t:aJ),s=pre++a->F t<=4*F pre ->(((fj 3 (fh (.s (t++a.flatMap fa)) (fj 57 fo))) λj=>K (.exit 1) ⟨j,J++[.box 61 [.I x,.s s,.I d]]⟩)) ->fS (F J) θ F8 K (F a+1) ⟨(uu 1 (.ptr (F J) 0::uu 1 (.s t::.I (F pre)::uu 56 []))),J++[.box 61 [.I x,.s s,.I d]]⟩:=by
 intro a;induction a with
 |nil =>intro pre t b i e;have b:=db b;subst b;rw[Ai,bM]at e;refine aF λR g=>?_;simp only[F8,VV,seval];exact⟨λh=>by simp at h,λ_=>e ..⟩
 |cons c a ih =>
 intro pre t b i e;subst b;rw[dR,<- List.append_assoc]at e;have l:F pre+F a+1<2^40:=by simp at f;omega
 have k:=DZ c;refine aF λR g=>?_;simp only[F8,VV,seval];refine⟨λ_=>⟨by simp;omega,?_⟩,λh=>by simp at h<;>omega⟩;refine aA (we c _) rfl ?_;simp only[VV,seval];refine⟨by simp only[maxLen];omega,?_⟩;refine g _ (aX ?_ (ih (pre++[c]) (t++fa c) (by simp) (by simp;omega) e));rw[cq (by omega)];simp only[ai,ah,az];repeat' constructor
def Ft(g:1<=U.ao0/\U.ao0<=5)(e:0<=U.id/\U.id<2^62)(a:U.ao3.length<2^40)(J:ag):bO θ 139 [.agg U.aoZ] J (.s (dz U)):=by
 refine a6 func139 ajm λb m=>ay ?_;obtain⟨k,t,d⟩:=U;simp only at g e a;obtain⟨n,rfl⟩:∃n:Nat,d=n:=⟨d.toNat,by omega⟩;have o:=Lib.itoa_length_le (n:Int) (by omega) (by omega);have c:=Fx n (by omega) (J++[.box 61 [.I k,.s t,.I n]]);simp only[acW,SS,seval];by_cases f:k=1
 .subst f;simp only[It.aoZ,VV,seval];refine cd.aX ?_ (F t+1) (VB 1 n t a t [] [] rfl (ax _) ?_);.simp only[az,iX];repeat' constructor
  simp only[JE];intros;simp only[bg,VV,seval];exact bl b (.inr rfl) (by simp only[RS,seval];rfl) (by simp[LW]) ⟨by simp[Pm.one,dz],rfl⟩
 by_cases h:k=2;.subst h;simp only[It.aoZ,VV,seval];refine aA c rfl ?_;simp only[VV,seval];refine⟨by simp only[maxLen];omega,by simp only[maxLen];omega,by simp only[maxLen,ai,ah,az];omega,by simp only[maxLen,ai,ah,az];omega,?_⟩;exact bl b (.inr rfl) (by simp only[RS,seval];rfl) (by simp[LW]) ⟨by simp[Pm.one,dz],rfl⟩
 by_cases i:k=3;.subst i;simp only[It.aoZ,VV,seval];refine aA c rfl ?_;simp only[VV,seval];refine⟨by simp only[maxLen];omega,by simp only[maxLen];omega,by simp only[maxLen,ai,ah,az];omega,by simp only[maxLen,ai,ah,az];omega,?_⟩;exact bl b (.inr rfl) (by simp only[RS,seval];rfl) (by simp[LW]) ⟨by simp[Pm.one,dz],rfl⟩
 by_cases l:k=4;.subst l;simp only[It.aoZ,VV,seval];refine aA c rfl ?_;simp only[VV,seval];refine⟨by simp only[maxLen];omega,by simp only[maxLen];omega,by simp only[maxLen,ai,ah,az];omega,by simp only[maxLen,ai,ah,az];omega,?_⟩;exact bl b (.inr rfl) (by simp only[RS,seval];rfl) (by simp[LW]) ⟨by simp[Pm.one,dz],rfl⟩
 have j:k=5:=by omega
 subst j;simp only[It.aoZ,VV,seval];refine⟨by simp only[maxLen];omega,by simp only[maxLen];omega,?_⟩;exact bl b (.inr rfl) (by simp only[RS,seval];rfl) (by simp[LW]) ⟨by simp[Pm.one,dz],rfl⟩
def Y3(g:F a<=512)(j:∀x∈a,(1<=x.ao0/\x.ao0<=5)/\(0<=x.id/\x.id<2^62)/\F x.ao3<=2^30/\F (dz x)<2^33):∀(b pre:List It) (s:aJ),a=pre++b->F s<=2^33*F pre ->(((fj 5 (fh (.s (s++b.flatMap dz)) (fj 20 fo))) λl=>K (.exit 0) ⟨l,J⟩)) ->fS (F J) θ MA K (F b+1) ⟨(.sl 3 (a.map It.aoZ)::uu 4 (.s s::uu 7 (.I (F a)::.I (F pre)::uu 11 []))),J⟩:=by
 intro b;induction b with
 |nil =>intro pre s c i d;have c:=db c;subst c;rw[Ai,bM]at d;refine aF λR f=>?_;simp only[MA,VV,seval];exact⟨λh=>by simp at h,λ_=>d ..⟩
 |cons x b ih =>
 intro pre s c i d;subst c;rw[dR,<- List.append_assoc]at d;obtain⟨k,e,n,o⟩:=j x (by simp);have m:F pre+F b+1<=512:=by simp at g;omega
 refine aF λR f=>?_;simp only[MA,It.aoZ,VV,seval];refine⟨λ_=>⟨by simp;omega,?_⟩,λh=>by simp at h<;>omega⟩;refine aA (Ft x k e (by omega) _) rfl ?_;simp only[VV,seval];refine⟨by simp only[maxLen];omega,?_⟩;refine f _ (aX ?_ (ih (pre++[x]) (s++dz x) (by simp) (by simp;omega) d));rw[cq (by omega)];simp only[ai,ah,az];repeat' constructor
def Hu{f:List It}(j:aR f<2^30)(h:bV f=0):F f<=512/\∀x∈f,(1<=x.ao0/\x.ao0<=5)/\(0<=x.id/\x.id<2^62)/\F x.ao3<=2^30/\F (dz x)<2^33:=by
 have g:=rZ h;simp only[bV]at h;split at h;.simp at h
 rename_i l;refine⟨by omega,λx b=>?_⟩;have a:=uK f [] h x b;have c:∀f:List It,x∈f->F x.ao3<=aR f:=by
  intro f;induction f with
  |nil=>simp
  |cons y f ih =>
  intro d;simp only[aR];rcases bE.1 d with rfl|d;.omega
  have:=ih d;omega
 have i:=c f b;have e:0<=x.id/\x.id<2^62:=by
  simp only[bQ]at a;split at a;.simp at a;omega
  split at a;.simp at a;omega
  split at a;.simp at a;omega
  split at a;.simp at a;omega
  simp at a
 have k:=wE x (by omega);exact⟨g x b,e,by omega,by omega⟩
def H3(d:aR a<2^30)(J:ag):bO θ 74 [.sl 3 (a.map It.aoZ)] J (.gy [.s (format a).1,.I (format a).2]):=by
 refine a6 func74 c74 λf e=>ay ?_;simp only[p74,SS,seval];simp only[VV,seval];refine aA (pU a _) rfl ?_;simp only[ae,VV,seval];refine⟨λh=>?_,λh=>?_⟩
 .have h:bV a≠0:=by simpa using h
  refine aY (.inr rfl) (by simp only[RS,seval];rfl) ⟨?_,rfl⟩;simp only[format,aK h];rfl
 have h:bV a=0:=by simpa using h
 obtain⟨c,b⟩:=Hu d h;refine cd.aX ?_ (F a+1) (Y3 a c b a [] [] rfl (eR _) ?_);.simp only[az,iX];repeat' constructor
 simp only[JE];intros;simp only[bg,VV,seval];refine aY (.inr rfl) (by simp only[RS,seval];rfl) ⟨?_,rfl⟩;simp[format,h,Pm.one]
end Go.Proofs.Tryz

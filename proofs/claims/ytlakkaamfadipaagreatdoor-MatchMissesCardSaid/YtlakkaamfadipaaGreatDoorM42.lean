/- A part of a proof; the claim's last text says of what. -/
import Derived.Test.YtlakkaamfadipaaGreatDoorM5
import Derived.Test.YtlakkaamfadipaaGreatDoorM21
import Derived.Test.YtlakkaamfadipaaGreatDoorM29
set_option linter.all false
open Bool renaming false->Z
open List renaming length->F

namespace Go.Proofs.Tryz
open Go Go.Pm Go.Bt
variable(X:List It){K:bj}
def VY(n:Int)(h0 : -9223372036854775808<=n)(h1:n<=9223372036854775807)(J:ag):bO prog 240 [.I n] J (.s (Lib.itoa n)):=by
 refine PC.KT λB p w o i l b=>?_;have d:=(b.2 0 _ rfl).fE;have m:i=#[.int .i64 n]:=by rw[vs1 b.1,d]
 have f:(prog.globalNamed "internal/strconv.uint64pow10").isSome=true:=by kernel_rfl
 obtain⟨g,h⟩:=ox.1 f;have a:=l.tab (t:=("internal/strconv.uint64pow10",.u64,Bk)) (by simp[UJ]) h;rw[OH]at a;refine⟨_,?_,λc=>VZ n h0 h1⟩;rw[m];refine(Tryz.strconv_Itoa n h0 h1 w a).mono ?_;rintro e c ⟨j,k,os,rfl⟩;exact⟨j,GM w k os⟩
def Vk{n:Nat}{J ext:ag}(s:aJ)(o:F s<2^40):∀(a pre b:aJ) (g:Nat),s=pre++a->F b+4*F a<2^42 ->((fh (.own (F J) (g+F a)) (fj 59 fo)) λD=>K (.exit 0) ⟨D,J++(.row 5 1 1 (g+F a) Z (ee (b++a.flatMap fa))::ext)⟩) ->fS n prog Bp K (F a+1) ⟨(.own (F J) g::.s s::uu 3 (.I (F pre)::uu 54 [])),J++(.row 5 1 1 g Z (ee b)::ext)⟩:=by
 intro a;induction a with
 |nil =>intro pre b g u B m;have u:=db u;subst u;refine aF λR f=>?_;simp only[Bp,W,seval];simp only[Ai,bM,az,dQ]at m;exact⟨λh=>by simp at h,λ_=>m ..⟩
 |cons c a ih =>
 intro pre b g u B m;subst u;have p:=dY pre c (by simp at o;omega);have E:pre++c::a=(pre++[c])++a:=by simp
 simp only[ah]at B;have next:∀(t:aJ),fa c=t->F t<=4->∀{R:bk} {w:ao},(∀r,fS n prog Bp K (F a+1) r->R r) ->
   pe w (.own (F J) (g+1)::.s (pre++c::a)::uu 3 (.I (F (pre++[c]))::uu 54 []))->R ⟨w,J++(.row 5 1 1 (g+1) Z (ee (b++t))::ext)⟩:=by
  intro t C M R w f G;have L:b++(c::a).flatMap fa=(b++t)++a.flatMap fa:=by simp[C]
  have H:g+F (c::a)=(g+1)+F a:=by simp;omega
  rw[L,H]at m;refine f _ ?_;exact aX G (ih (pre++[c]) (b++t) (g+1) E (by simp;omega) m)
 have e:∀n:Nat,n<=4->(F (ee b)+n)*1<=2^47/\F (ee b)+n<=maxLen:=λn O=>by simp only[eP,maxLen];omega
 have v:∀(t:aJ),ee b++ee t=ee (b++t):=λt=>jz;refine aF λR f=>?_;simp only[Bp,VV,seval];refine⟨λ_=>⟨by simp;omega,?_⟩,λh=>by simp at h<;>omega⟩;refine aA (Ig c _) rfl ?_;cases q:rB c with
 |true =>simp only[VV,seval];refine⟨e 1 (by omega),?_⟩;rw[show ee b++[[V.i .u8 c.toNat]]=ee (b++[c])from v [c]];refine next [c] (by simp[fa,q]) (by simp) f ?_;rw[p];repeat' constructor
 |false =>
 by_cases d:c=10;.simp only[NV (k:=10) d rfl,VV,seval];refine⟨e 2 (by omega),?_⟩;rw[show ee b++[[V.i .u8 92],[V.i .u8 110]]=ee (b++[92,110])from v [92,110]];refine next [92,110] (by simp only[fa,q,aK d];rfl) (by simp) f ?_;rw[p];repeat' constructor
 by_cases j:c=9;.simp only[qj (k:=10) d rfl,NV (k:=9) j rfl,VV,seval];refine⟨e 2 (by omega),?_⟩;rw[show ee b++[[V.i .u8 92],[V.i .u8 116]]=ee (b++[92,116])from v [92,116]];refine next [92,116] (by simp only[fa,q,au d,aK j];rfl) (by simp) f ?_;rw[p];repeat' constructor
 by_cases l:c=92\/c=60\/c=123
 .have x:((((c.toNat:Int)==92)||((c.toNat:Int)==60))||((c.toNat:Int)==123))=true:=by rcases l with h|h|h<;>rw[h]<;>rfl
  simp only[qj (k:=10) d rfl,qj (k:=9) j rfl,x,VV,seval];refine⟨e 2 (by omega),?_⟩;rw[show ee b++[[V.i .u8 92],[V.i .u8 c.toNat]]=ee (b++[92,c])from v [92,c]];refine next [92,c] (by simp only[fa,q,au d,au j,aK l];rfl) (by simp) f ?_;rw[p];repeat' constructor
 have x:((((c.toNat:Int)==92)||((c.toNat:Int)==60))||((c.toNat:Int)==123))=Z:=by rw[qj (k:=92) (λh=>l (.inl h)) rfl,qj (k:=60) (λh=>l (.inr (.inl h))) rfl,qj (k:=123) (λh=>l (.inr (.inr h))) rfl];rfl
 have y:=aev c;have z:=aeu c;simp only[qj (k:=10) d rfl,qj (k:=9) j rfl,x,y.2.2,z.2.2,VV,Int.reduceBEq,Int.reduceBNe,Nat.reduceAdd,Nat.reduceSub,Nat.reduceLeDiff,Nat.reduceEqDiff,Int.reduceToNat,reduceIte,reduceCtorEq];refine⟨by simp,by simpa using⟨y.1,y.2.1⟩,by simpa using⟨z.1,z.2.1⟩,e 4 (by omega),?_⟩;rw[show ee b++[[V.i .u8 92],[V.i .u8 120],[V.i .u8 (iT (c.toNat / 16)).toNat],[V.i .u8 (iT (c.toNat % 16)).toNat]]=ee (b++[92,120,iT (c.toNat / 16),iT (c.toNat % 16)])from v [92,120,iT (c.toNat / 16),iT (c.toNat % 16)]];refine next [92,120,iT (c.toNat / 16),iT (c.toNat % 16)] (by simp only[fa,q,au d,au j,au l];rfl) (by simp) f ?_;rw[p];repeat' constructor
def DT(b s:aJ)(g:Nat)(a:F b+4*F s<2^42)(J ext:ag):PC prog 241 [.own (F J) g,.s s] (J++(.row 5 1 1 g Z (ee b)::ext)) (λr c=>r=.own (F J) (g+F s)/\c=J++(.row 5 1 1 (g+F s) Z (ee (b++s.flatMap fa))::ext)):=by
 refine a6 func241 ail λe d=>ay ?_;simp only[abS,SS,seval];simp only[W,seval];refine cd.aX ?_ (F s+1) (Vk s (by omega) s [] b g rfl a ?_);.repeat' constructor
 simp only[JE];intros;simp only[W,seval];exact fv (.inr rfl) rfl (Wk.refl _ _) rfl ⟨rfl,rfl⟩
def Vp{J:ag}(u:bT J)(f:F X<2^40)(q:∀x∈X,-9223372036854775808<=x.id/\x.id<=9223372036854775807)(y:∀x∈X,1<=x.ao0/\x.ao0<=5): ∀(a pre:List It) (b:aJ) (g:Nat),X=pre++a->F b+4*aR a+40*F a<2^42 ->(∀g,((fj 5 (fh (.own (F J) g) (fj 69 fo))) λv=>K (.exit 0) ⟨v,J++[.row 5 1 1 g Z (ee (b++a.flatMap dz))]⟩)) ->fS (F J) prog Bq K (F a+1) ⟨(uu 5 (.own (F J) g::uu 8 (.sl 3 (X.map It.aoZ)::.I (F X)::.I (F pre)::uu 58 []))),J++[.row 5 1 1 g Z (ee b)]⟩:=by
 intro a;induction a with
 |nil =>intro pre b g k r e;have k:=db k;subst k;refine aF λR d=>?_;simp only[Bq,W,seval];simp only[Ai,bM]at e;exact⟨λh=>by simp at h,λ_=>e g ..⟩
 |cons x a ih =>
 intro pre b g k r e;subst k;have i:=dY pre x (by simp at f;omega);have w:pre++x::a=(pre++[x])++a:=by simp
 simp only[aR,ah]at r;have m:=q x (by simp);have D:=y x (by simp);have G:=Lib.itoa_length_le x.id m.1 m.2;have next:∀(t:aJ) (l:Nat) {o:Ob},dz x=t->F t<=4*F x.ao3+30->∀{R:bk} {p:ao},(∀j,fS (F J) prog Bq K (F a+1) j->R j) ->
   pe p (uu 5 (.own (F J) l::uu 8 (.sl 3 ((pre++x::a).map It.aoZ)::.I (F (pre++x::a))::.I (F (pre++[x]))::uu 58 [])))->R ⟨p,J++[.row 5 1 1 l Z (ee (b++t)),o]⟩:=by
  intro t l o s E R p d C;have B:b++(x::a).flatMap dz=(b++t)++a.flatMap dz:=by simp[s]
  rw[B]at e;refine d _ (cC [_] [_] (cL u (by simp)) C ?_ (ih (pre++[x]) (b++t) l w (by simp;omega) e));simp only[LW,ah,az,bq];omega
 have c:∀n:Nat,n<=F x.ao3+30->(F (ee b)+n)*1<=2^47/\F (ee b)+n<=maxLen:=λn z=>by simp only[eP,maxLen];omega
 have apa:∀n:Nat,n<=F x.ao3+30->n<=maxLen:=λn z=>by simp only[maxLen];omega
 refine aF λR d=>?_;simp only[Bq,It.aoZ,VV,seval];refine⟨λ_=>⟨by simp;omega,?_⟩,λh=>by simp at h<;>omega⟩;refine aA (VY x.id m.1 m.2 _) rfl ?_;rcases(by omega:x.ao0=1\/x.ao0=2\/x.ao0=3\/x.ao0=4\/x.ao0=5)with h|h|h|h|h;.simp only[h,VV,seval];refine aA (DT b x.ao3 g (by omega) J [_]) rfl ?_;simp only[VV,seval];refine next (x.ao3.flatMap fa) (g+F x.ao3) (by simp only[dz,h,aU]) (by have:=ES x.ao3;omega) d ?_;rw[i];repeat' constructor
 .simp only[h,VV,seval];refine⟨apa _ (by omega),apa _ (by omega),apa _ (by simp;omega),apa _ (by simp;omega),c _ (by simp only[eP,ah,ai,az];omega),?_⟩;rw[jz];refine next (60::(Lib.itoa x.id++58::(x.ao3++[62]))) (g+1) (by simp[dz,h]) (by simp;omega) d ?_;rw[i];repeat' constructor
 .simp only[h,VV,seval];refine⟨apa _ (by omega),apa _ (by simp;omega),apa _ (by simp;omega),apa _ (by simp;omega),c _ (by simp only[eP,ah,ai,az];omega),?_⟩;rw[jz];refine next (60::47::(Lib.itoa x.id++58::(x.ao3++[62]))) (g+1) (by simp[dz,h]) (by simp;omega) d ?_;rw[i];repeat' constructor
 .simp only[h,VV,seval];refine⟨apa _ (by omega),apa _ (by omega),apa _ (by simp;omega),apa _ (by simp;omega),c _ (by simp only[eP,ah,ai,az];omega),?_⟩;rw[jz];refine next (60::(Lib.itoa x.id++58::(x.ao3++[47,62]))) (g+1) (by simp[dz,h]) (by simp;omega) d ?_;rw[i];repeat' constructor
 simp only[h,VV,seval];refine⟨apa _ (by omega),apa _ (by first|omega|(simp;omega)),c _ (by simp only[eP,ah,ai,az];omega),?_⟩;rw[jz];refine next (123::(x.ao3++[125])) (g+1) (by simp[dz,h]) (by simp;omega) d ?_;rw[i];repeat' constructor
def PY(b:F X<2^30)(f:aR X<2^30)(a:∀x∈X,-9223372036854775808<=x.id/\x.id<=9223372036854775807)(J:ag):bO prog 199 [.sl 3 (X.map It.aoZ)] J (.gy [.s (format X).1,.I (format X).2]):=by
 refine a6 func199 aiJ λc d=>ay ?_;simp only[ach,SS,seval];simp only[VV,seval];refine aA (lN X _) rfl ?_;simp only[ae,VV,seval];refine⟨λh=>?_,λh=>?_⟩
 .have h:bV X≠0:=by simpa using h
  exact aY (.inr rfl) rfl ⟨by simp only[format,h,aU,fJ,dG];rfl,rfl⟩
 have h:bV X=0:=by simpa using h
 have e:format X=(X.flatMap dz,0):=by simp only[format,h,fJ,gm,aQ]
 rw[e];refine cd.wk ((Wk.jV (k:=5) QX rfl).trans (Wk.gW ?_)) (cd.xA (F X+1) (Vp X c (by omega) a (rZ h) X [] [] 0 rfl (by simp only[az];omega) ?_));.simp only[W,seval];repeat' constructor
 intro g;simp only[JE];intros;simp only[mw,bg,W,seval];exact bl c (.inr rfl) rfl (by simp[LW]) ⟨rfl,rfl⟩
def mh(e:En)(c:e.apa)(J:ag):bO prog 66 [.agg e.aoZ] J (.I (cJ e)):=by
 refine a6 func66 c66 λa m=>ay ?_;simp only[p66,SS,seval];simp only[En.aoZ,VV,seval];refine aA (lN e.ao2 _) rfl ?_;simp only[VV,seval];refine⟨λh=>?_,λh=>?_⟩
 .have h:bV e.ao2≠0:=by simpa using h
  exact bl a (.inr rfl) rfl (by simp[LW]) ⟨by simp only[cJ,h,aU,fJ,dG];rfl,rfl⟩
 have g:bV e.ao2=0:=by simpa using h
 refine aA (lN e.ao7 _) rfl ?_;simp only[VV,seval];refine⟨λh=>?_,λh=>?_⟩
 .have h:bV e.ao7≠0:=by simpa using h
  refine bl a (.inr rfl) rfl (by simp[LW]) ⟨?_,rfl⟩;simp only[cJ,g,h,aU,fJ,dG,gm,aQ];rfl
 have i:bV e.ao7=0:=by simpa using h
 refine aA (G1 e.ao2 e.ao7 (by have:=c.ao2;omega) (by have:=c.ao7;omega) (by have:=c.nY;omega) (by have:=c.Mk;omega) _) rfl ?_;simp only[ae,VV,seval];refine b7 (by simp only[VV,seval]<;>rfl) (λ_=>zp (ft e.ao2 e.ao7) e.ao2 _) rfl ?_;simp only[VV,seval];refine b7 (by simp only[VV,seval]<;>rfl) (λ_=>zp (fI e.ao2 e.ao7) e.ao7 _) rfl ?_;simp only[VV,seval];have f:mr e=!((((F e.ao2:Int)==0)||!gQ (ft e.ao2 e.ao7) e.ao2)||!gQ (fI e.ao2 e.ao7) e.ao7):=by
  have:((F e.ao2:Int)==0)=(F e.ao2==0):=by rw[dL];simp
  simp only[mr,this];cases(F e.ao2==0)<;>cases gQ (ft e.ao2 e.ao7) e.ao2<;>cases gQ (fI e.ao2 e.ao7) e.ao7<;>rfl
 refine⟨λh=>?_,λh=>?_⟩;.rw[h]at f;refine bl a (.inr rfl) rfl (by simp[LW]) ⟨?_,rfl⟩;simp only[cJ,g,i,f,fJ,gm,aQ];rfl
 rw[h]at f;have d:cJ e=if(parse e.b6).2.2≠0 then(parse e.b6).2.2 else if(parse e.next).2.2≠0 then(parse e.next).2.2 else
   if(named e.cW&&named e.cx)=Z then 4 else if e.ao9<0\/1073741824<e.ao9\/e.ape<1\/3<e.ape then 1 else 0:=by simp only[cJ,g,i,f,fJ,gm,aQ];rfl
 refine aA (kW e.b6 (by have:=c.b6;omega) _) rfl ?_;simp only[VV,seval];refine⟨λh=>?_,λh=>?_⟩
 .have h:(parse e.b6).2.2≠0:=by simpa using h
  rw[d,aK h];exact bl a (.inr rfl) rfl (by simp[LW]) ⟨rfl,rfl⟩
 have j:¬(parse e.b6).2.2≠0:=by simpa using h
 refine aA (kW e.next (by have:=c.next;omega) _) rfl ?_;simp only[VV,seval];refine⟨λh=>?_,λh=>?_⟩
 .have h:(parse e.next).2.2≠0:=by simpa using h
  rw[d,au j,aK h];exact bl a (.inr rfl) rfl (by simp[LW]) ⟨rfl,rfl⟩
 have l:¬(parse e.next).2.2≠0:=by simpa using h
 rw[au j,au l]at d;refine b7 (by simp only[VV,seval]<;>rfl) (λ_=>kX e.cW _) rfl ?_;simp only[VV,seval];refine b7 (by simp only[VV,seval]<;>rfl) (λ_=>kX e.cx _) rfl ?_;simp only[VV,seval];have k:((!e.cW==[]&&!apb e.cW)||(!e.cx==[]&&!apb e.cx))=!(named e.cW&&named e.cx):=by simp only[named];cases e.cW==[]<;>cases e.cx==[]<;>cases apb e.cW<;>cases apb e.cx<;>rfl
 rw[k];refine⟨λh=>?_,λh=>⟨λb=>?_,λb=>?_⟩⟩
 .have h:(named e.cW&&named e.cx)=Z:=by rw[da]at h;exact h
  rw[d,aK h];exact bl a (.inr rfl) rfl (by simp[LW]) ⟨rfl,rfl⟩
 .have h:¬(named e.cW&&named e.cx)=Z:=by rw[fB]at h;rw[h];simp
  have b:e.ao9<0\/1073741824<e.ao9\/e.ape<1\/3<e.ape:=by simp at b;omega
  rw[d,au h,aK b];exact bl a (.inr rfl) rfl (by simp[LW]) ⟨rfl,rfl⟩
 have h:¬(named e.cW&&named e.cx)=Z:=by rw[fB]at h;rw[h];simp
 have b:¬(e.ao9<0\/1073741824<e.ao9\/e.ape<1\/3<e.ape):=by simp at b;omega
 rw[d,au h,au b];exact bl a (.inr rfl) rfl (by simp[LW]) ⟨rfl,rfl⟩
def K4(e:En)(a:e.apa)(J:ag):bO prog 130 [.agg e.aoZ] J (.s (ed e)):=by refine a6 func130 ajs λc f=>ay ?_;simp only[ac2,SS,seval];simp only[En.aoZ,VV,seval];refine aA (PY e.ao2 a.ao2 a.nY (λx b=>a.ids x (by simp[b])) _) rfl ?_;simp only[VV,seval];have d:=Cf e.ao2 a.ao2 a.nY (λx b=>a.ids x (by simp[b]));have h:=a.b6;have g:=a.next;refine⟨by simp[maxLen];omega,by simp[maxLen];omega,by simp[maxLen];omega,by simp[maxLen];omega,?_⟩;refine bl c (.inr rfl) rfl (by simp[LW]) ⟨?_,rfl⟩;simp[Pm.one,ed]
def yd(e:En)(b:e.apa)(J:ag):bO prog 67 [.agg e.aoZ] J (.s (bf e)):=by
 refine a6 func67 c67 λa c=>ay ?_;simp only[p67,SS,seval];simp only[En.aoZ,VV,seval];refine aA (mh e b _) rfl ?_;simp only[VV,seval];refine⟨λh=>?_,λh=>?_⟩
 .have h:cJ e≠0:=by simpa using h
  exact bl a (.inr rfl) rfl (by simp[LW]) ⟨by simp only[bf,h,aU,fJ,dG];rfl,rfl⟩
 have h:¬cJ e≠0:=by simpa using h
 refine aA (K4 e b _) rfl ?_;simp only[VV,seval];exact bl a (.inr rfl) rfl (by simp[LW]) ⟨by simp only[bf,au h];rfl,rfl⟩
end Go.Proofs.Tryz

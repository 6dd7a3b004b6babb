/- A part of a proof; the claim's last text says of what. -/
import Derived.Test.YtlakkaamfadipaaGreatDoorB25
import Derived.Test.YtlakkaamfadipaaGreatDoorF2
set_option linter.all false
set_option maxHeartbeats 4000000

namespace Go.Proofs.Tryz
open Go Go.Pm Go.Bt
def Jv{J:ak}{K:bl}(s:aG)(r:cn J)(g:s.length<2^30):∀(n:Nat) (rest pre:aG) (f:List It) (len:Nat),s=pre++rest->rest.length<n->f.length<=512->bd f<=pre.length->len<=1024 ->
  ((dU n f len rest pre.length).2.2=0->((fj 5 (fh (.sl 3 ((dU n f len rest pre.length).1.map It.awa)) (fj 49 fo))) λo=>K (.exit 0) ⟨o,J⟩)) ->
  ((dU n f len rest pre.length).2.2≠0->∀loc,((fj 2 (fh (.nil) (fh (.I (dU n f len rest pre.length).2.1) (fh (.I (dU n f len rest pre.length).2.2) (fj 50 fo))))) λo=>K .ret ⟨o,J++loc⟩)) ->
  fm J.length prog wO K n ⟨(.s s::uu 4 (.sl 3 (f.map It.awa)::.I pre.length::.I len::uu 47 [])),J⟩:=by
 intro n
 induction n with
 |zero=>intro rest pre f len d w;omega
 |succ n ih =>
  intro rest pre f len d w H D E e a;cases rest with
  |nil =>
   have d:=cN d
   subst d;simp only[dU]at e;refine ar λR q=>?_;simp only[wO,VV,seval];exact⟨λh=>by simp at h,λ_=>e trivial ..⟩
  |cons c rest =>
   subst d;have v:=u7 (s:=c::rest) (by simp);have z:List.take ((pre++c::rest).length - pre.length) (List.drop pre.length (pre++c::rest))=c::rest:=by simp
   simp only[dU]at e a;refine ar λR q=>?_;simp only[wO,z,ao,VV,seval];refine⟨λ_=>⟨by simp;omega,?_⟩,λh=>by simp at h<;>omega⟩;refine aw (xZ (c::rest) (by simp) (by simp at g |-;omega) _) rfl ?_;generalize G:eW (c::rest)=xm at *;obtain⟨x,m⟩:=xm;simp only at v e a;simp only[It.awa,VV,seval];refine⟨λi=>?_,λi=>?_⟩
   .have i:m=0:=by simpa using i
    simp only[i,aT]at a;exact a (by simp) [_] ..
   have i:m≠0:=by simpa using i
   obtain⟨F,A,C⟩:=v i;rw[an i]at e a;have B:=pd (f++[x]);simp only[fM,bd,aj,ai,al]at B;have y:pre.length+(rest.length+1)<2^30:=by simpa using g
   simp only[ai]at A w
   have p:(pre++(c::rest).take m.toNat).length=pre.length+m.toNat:=by
    rw[aj,aP,ai];omega
   have t:IntKind.i64.wrap ((len:Int)+1)=((len+1:Nat):Int):=by rw[IntWalk.i64_in _ (by omega)];omega
   have k:IntKind.i64.wrap ((pre.length:Int)+m)=(pre.length:Int)+m:=IntWalk.i64_in _ (by omega);have u:(len:Int)+1=((len+1:Nat):Int):=by omega
   have l:(pre.length:Int)+m=(((pre++(c::rest).take m.toNat).length:Nat):Int):=by rw[p];omega
   refine⟨λj=>?_,λj=>?_⟩
   .have j:x.awb≠1:=by simpa using j
    refine aw (oU f x _) rfl ?_;simp only[It.awa,VV,seval];refine⟨λd=>?_,λd=>?_⟩
    .have d:cY f x≠0:=by simpa using d
     rw[az ⟨j,d⟩]at a;exact a d [_] ..
    have d:cY f x=0:=by simpa using d
    rw[an (λh=>h.2 d)]at e a;refine ml (zs:=[.sl 3 (f.map It.awa),.sl 3 ([x].map It.awa)]) (.cons (.refl _) (.cons (.lit _ _) .nil)) (jW f [x] (by omega) (by simp) (by omega) (by simp only[bd];omega) _) ?_;simp only[t,k,ag,VV,seval];refine⟨λb=>?_,λb=>?_⟩
    .have b:512<(awl (f++[x])).length\/(1024:Int)<(len:Int)+1:=by simp at b;omega
     rw[az b]at a;exact a (by simp) [_] ..
    .have b:¬(512<(awl (f++[x])).length\/(1024:Int)<(len:Int)+1):=by simp at b;omega
     rw[an b,u,l]at e a;refine q _ (ny (aD _) r ?_ ?_ (ih ((c::rest).drop m.toNat) (pre++(c::rest).take m.toNat) (awl (f++[x])) (len+1) (by simp) (by rw[bA,ai];omega) (by omega) (by rw[p];omega) (by omega) e a))
     .rw[<- l]
      repeat' constructor
     .simp only[LW]
   .have j:x.awb=1:=by simpa using j
    rw[an (λh=>h.1 j)]at e a;refine ml (zs:=[.sl 3 (f.map It.awa),.sl 3 ([x].map It.awa)]) (.cons (.refl _) (.cons (.lit _ _) .nil)) (jW f [x] (by omega) (by simp) (by omega) (by simp only[bd];omega) _) ?_;simp only[t,k,ag,VV,seval];refine⟨λb=>?_,λb=>?_⟩
    .have b:512<(awl (f++[x])).length\/(1024:Int)<(len:Int)+1:=by simp at b;omega
     rw[az b]at a;exact a (by simp) [_] ..
    .have b:¬(512<(awl (f++[x])).length\/(1024:Int)<(len:Int)+1):=by simp at b;omega
     rw[an b,u,l]at e a;refine q _ (ny (aD _) r ?_ ?_ (ih ((c::rest).drop m.toNat) (pre++(c::rest).take m.toNat) (awl (f++[x])) (len+1) (by simp) (by rw[bA,ai];omega) (by omega) (by rw[p];omega) (by omega) e a))
     .rw[<- l]
      repeat' constructor
     .simp only[LW]
def mY(s:aG)(a:s.length<2^30)(J:ak):bM prog 47 [.s s] J (.iQ [.sl 3 ((parse s).1.map It.awa),.I (parse s).2.1,.I (parse s).2.2]):=by
 refine aZ func47 p47.2 λc i=>au ?_;rw[<- rE];simp only[p47,SS,seval];simp only[VV,seval];refine bZ.wk (Wk.fg ?_) (bZ.uh (s.length+1) (Jv s c a (s.length+1) s [] [] 0 rfl (by omega) (by simp) (by simp[bd]) (by omega) (λh=>?_) (λh=>?_)))
 .simp only[al,ey,bR,VV,seval]
  repeat' constructor
 .have e:=oR _ _ _ _ _ h;simp only[JE];intros;simp only[VV,seval];refine aO (.inr rfl) (by simp only[RS,seval];rfl) ⟨?_,rfl⟩;have d:(nw s).2.2=0:=h;have f:(nw s).2.1=0:=e;rw[d,f];rfl
 .simp only[JE];intros;simp only[VV,seval];refine kb (ys:=[.sl 3 [],.I (nw s).2.1,.I (nw s).2.2]) c (.inr rfl) (by simp only[RS,seval];rfl) ?_ (by simp[LW]) ⟨?_,rfl⟩
  .exact .cons (.nil _) (.cons (.refl _) (.cons (.refl _) .nil))
  .have g:=nR _ _ _ _ _ h;have b:(nw s).1=[]:=g;rw[b];rfl
def Eg{J:ak}{K:bl}(k d:Int)(s:aG)(e:s.length<2^40):∀(rest pre t:aG),s=pre++rest->t.length<=4*pre.length ->
  (((fj 3 (fh (.s (t++rest.flatMap du)) (fj 57 fo))) λi=>K (.exit 1) ⟨i,J++[.box 61 [.I k,.s s,.I d]]⟩)) ->
  fm J.length prog rQ K (rest.length+1) ⟨(uu 1 (.ptr J.length 0::uu 1 (.s t::.I pre.length::uu 56 []))),J++[.box 61 [.I k,.s s,.I d]]⟩:=by
 intro rest
 induction rest with
 |nil =>
  intro pre t a g b;have a:=cN a
  subst a;rw[nP,bL]at b;refine ar λR f=>?_;simp only[rQ,VV,seval];exact⟨λh=>by simp at h,λ_=>b ..⟩
 |cons c rest ih =>
  intro pre t a g b;subst a;rw[eJ,<- List.append_assoc]at b;have l:pre.length+rest.length+1<2^40:=by simp at e;omega
  have j:=Bo c;refine ar λR f=>?_;simp only[rQ,VV,seval];refine⟨λ_=>⟨by simp;omega,?_⟩,λh=>by simp at h<;>omega⟩;refine aw (mI c _) rfl ?_;simp only[VV,seval];refine⟨by simp only[maxLen];omega,?_⟩;refine f _ (aK ?_ (ih (pre++[c]) (t++du c) (by simp) (by simp;omega) b));rw[cm (by omega)];simp only[aj,ai,al]
  repeat' constructor
def rI(x:It)(h:1<=x.awb/\x.awb<=5)(e:0<=x.id/\x.id<2^62)(a:x.awd.length<2^40)(J:ak):bM prog 139 [.agg x.awa] J (.s (cK x)):=by
 refine aZ func139 QP.2 λb m=>au ?_;obtain⟨k,t,d⟩:=x;simp only at h e a;obtain⟨n,rfl⟩:∃n:Nat,d=n:=⟨d.toNat,by omega⟩;have o:=Lib.itoa_length_le (n:Int) (by omega) (by omega);have c:=rL n (by omega) (J++[.box 61 [.I k,.s t,.I n]]);simp only[QP,SS,seval]
 by_cases f:k=1
 .subst f;simp only[It.awa,VV,seval];refine bZ.aK ?_ (t.length+1) (Eg 1 n t a t [] [] rfl (aD _) ?_)
  .simp only[al,ey]
   repeat' constructor
  .simp only[JE];intros;simp only[bc,VV,seval];exact bg b (.inr rfl) (by simp only[RS,seval];rfl) (by simp[LW]) ⟨by simp[Pm.one,cK],rfl⟩
 by_cases g:k=2
 .subst g;simp only[It.awa,VV,seval];refine aw c rfl ?_;simp only[VV,seval];refine⟨by simp only[maxLen];omega,by simp only[maxLen];omega,by simp only[maxLen,aj,ai,al];omega,by simp only[maxLen,aj,ai,al];omega,?_⟩;exact bg b (.inr rfl) (by simp only[RS,seval];rfl) (by simp[LW]) ⟨by simp[Pm.one,cK],rfl⟩
 by_cases i:k=3
 .subst i;simp only[It.awa,VV,seval];refine aw c rfl ?_;simp only[VV,seval];refine⟨by simp only[maxLen];omega,by simp only[maxLen];omega,by simp only[maxLen,aj,ai,al];omega,by simp only[maxLen,aj,ai,al];omega,?_⟩;exact bg b (.inr rfl) (by simp only[RS,seval];rfl) (by simp[LW]) ⟨by simp[Pm.one,cK],rfl⟩
 by_cases l:k=4
 .subst l;simp only[It.awa,VV,seval];refine aw c rfl ?_;simp only[VV,seval];refine⟨by simp only[maxLen];omega,by simp only[maxLen];omega,by simp only[maxLen,aj,ai,al];omega,by simp only[maxLen,aj,ai,al];omega,?_⟩;exact bg b (.inr rfl) (by simp only[RS,seval];rfl) (by simp[LW]) ⟨by simp[Pm.one,cK],rfl⟩
 have j:k=5:=by omega
 subst j;simp only[It.awa,VV,seval];refine⟨by simp only[maxLen];omega,by simp only[maxLen];omega,?_⟩;exact bg b (.inr rfl) (by simp only[RS,seval];rfl) (by simp[LW]) ⟨by simp[Pm.one,cK],rfl⟩
def Ju{J:ak}{K:bl}(f:List It)(i:f.length<=512)(k:∀x∈f,(1<=x.awb/\x.awb<=5)/\(0<=x.id/\x.id<2^62)/\x.awd.length<=2^30/\(cK x).length<2^33):∀(rest pre:List It) (s:aG),f=pre++rest->s.length<=2^33*pre.length ->
  (((fj 5 (fh (.s (s++rest.flatMap cK)) (fj 20 fo))) λg=>K (.exit 0) ⟨g,J⟩)) ->
  fm J.length prog wN K (rest.length+1) ⟨(.sl 3 (f.map It.awa)::uu 4 (.s s::uu 7 (.I f.length::.I pre.length::uu 11 []))),J⟩:=by
 intro rest
 induction rest with
 |nil =>
  intro pre s b j a;have b:=cN b
  subst b;rw[nP,bL]at a;refine ar λR d=>?_;simp only[wN,VV,seval];exact⟨λh=>by simp at h,λ_=>a ..⟩
 |cons x rest ih =>
  intro pre s b j a;subst b;rw[eJ,<- List.append_assoc]at a;obtain⟨e,c,l,n⟩:=k x (by simp);have m:pre.length+rest.length+1<=512:=by simp at i;omega
  refine ar λR d=>?_;simp only[wN,It.awa,VV,seval];refine⟨λ_=>⟨by simp;omega,?_⟩,λh=>by simp at h<;>omega⟩;refine aw (rI x e c (by omega) _) rfl ?_;simp only[VV,seval];refine⟨by simp only[maxLen];omega,?_⟩;refine d _ (aK ?_ (ih (pre++[x]) (s++cK x) (by simp) (by simp;omega) a));rw[cm (by omega)];simp only[aj,ai,al]
  repeat' constructor
def tu{f:List It}(j:bd f<2^30)(h:cd f=0):f.length<=512/\∀x∈f,(1<=x.awb/\x.awb<=5)/\(0<=x.id/\x.id<2^62)/\x.awd.length<=2^30/\(cK x).length<2^33:=by
 have g:=qy h;simp only[cd]at h;split at h
 .simp at h
 .rename_i l;refine⟨by omega,λx b=>?_⟩;have a:=tk f [] h x b
  have c:∀f:List It,x∈f->x.awd.length<=bd f:=by
   intro f
   induction f with
   |nil=>simp
   |cons y f ih =>
    intro d;simp only[bd];rcases bC.1 d with rfl|d
    .omega
    .have:=ih d;omega
  have i:=c f b
  have e:0<=x.id/\x.id<2^62:=by
   simp only[bG]at a;split at a
   .simp at a;omega
   .split at a
    .simp at a;omega
    .split at a
     .simp at a;omega
     .split at a
      .simp at a;omega
      .simp at a
  have k:=uJ x (by omega);exact⟨g x b,e,by omega,by omega⟩
def tH(f:List It)(c:bd f<2^30)(J:ak):bM prog 74 [.sl 3 (f.map It.awa)] J (.iQ [.s (aww f).1,.I (aww f).2]):=by
 refine aZ func74 p74.2 λe d=>au ?_;simp only[p74,SS,seval];simp only[VV,seval];refine aw (jo f _) rfl ?_;simp only[ag,VV,seval];refine⟨λh=>?_,λh=>?_⟩
 .have h:cd f≠0:=by simpa using h
  refine aO (.inr rfl) (by simp only[RS,seval];rfl) ⟨?_,rfl⟩;simp only[aww,az h];rfl
 .have h:cd f=0:=by simpa using h
  obtain⟨b,a⟩:=tu c h;refine bZ.aK ?_ (f.length+1) (Ju f b a f [] [] rfl (fA _) ?_)
  .simp only[al,ey]
   repeat' constructor
  .simp only[JE];intros;simp only[bc,VV,seval];refine aO (.inr rfl) (by simp only[RS,seval];rfl) ⟨?_,rfl⟩;simp[aww,h,Pm.one]
def qc(s:aG)(J:ak):bM prog 138 [.s s] J (.b (named s)):=by
 refine aZ func138 QQ.2 λc a=>au ?_;simp only[QQ,SS,seval];simp only[VV,seval];refine bB (by simp only[VV,seval]<;>rfl) (λ_=>fY s _) rfl ?_;simp only[VV,seval];exact aO (.inr rfl) (by simp only[RS,seval];rfl) ⟨rfl,rfl⟩
def kW(e:En)(c:e.awk)(J:ak):bM prog 73 [.agg e.awa] J (.I (cj e)):=by
 refine aZ func73 p73.2 λa m=>au ?_;simp only[p73,SS,seval];simp only[En.awa,VV,seval];refine aw (jo e.awc _) rfl ?_;simp only[VV,seval];refine⟨λh=>?_,λh=>?_⟩
 .have h:cd e.awc≠0:=by simpa using h
  exact bg a (.inr rfl) (by simp only[RS,seval];rfl) (by simp[LW]) ⟨by simp only[cj,h,aT,fc,cP];rfl,rfl⟩
 have i:cd e.awc=0:=by simpa using h
 refine aw (jo e.awf _) rfl ?_;simp only[VV,seval];refine⟨λh=>?_,λh=>?_⟩
 .have h:cd e.awf≠0:=by simpa using h
  refine bg a (.inr rfl) (by simp only[RS,seval];rfl) (by simp[LW]) ⟨?_,rfl⟩;simp only[cj,i,h,aT,fc,cP,eN,aS];rfl
 have j:cd e.awf=0:=by simpa using h
 refine aw (oV e.awc e.awf (by have:=c.awc;omega) (by have:=c.awf;omega) (by have:=c.nU;omega) (by have:=c.HN;omega) _) rfl ?_;simp only[ag,VV,seval];refine bB (by simp only[VV,seval]<;>rfl) (λ_=>nz (gK e.awc e.awf) e.awc _) rfl ?_;simp only[VV,seval];refine bB (by simp only[VV,seval]<;>rfl) (λ_=>nz (iq e.awc e.awf) e.awf _) rfl ?_;simp only[VV,seval]
 have f:oe e=!((((e.awc.length:Int)==0)||!gL (gK e.awc e.awf) e.awc)||!gL (iq e.awc e.awf) e.awf):=by
  have:((e.awc.length:Int)==0)=(e.awc.length==0):=by rw[cB];simp
  simp only[oe,this];cases(e.awc.length==0)<;>cases gL (gK e.awc e.awf) e.awc<;>cases gL (iq e.awc e.awf) e.awf<;>rfl
 refine⟨λh=>?_,λh=>?_⟩
 .rw[h]at f;refine bg a (.inr rfl) (by simp only[RS,seval];rfl) (by simp[LW]) ⟨?_,rfl⟩;simp only[cj,i,j,f,fc,eN,aS];rfl
 rw[h]at f
 have d:cj e=if(parse e.bU).2.2≠0 then(parse e.bU).2.2 else if(parse e.next).2.2≠0 then(parse e.next).2.2 else
   if(named e.c8&&named e.cA)=false then 4 else if e.awh<0\/1073741824<e.awh\/e.awq<1\/3<e.awq then 1 else 0:=by
  simp only[cj,i,j,f,fc,eN,aS];rfl
 refine aw (mY e.bU (by have:=c.bU;omega) _) rfl ?_;simp only[VV,seval];refine⟨λh=>?_,λh=>?_⟩
 .have h:(parse e.bU).2.2≠0:=by simpa using h
  rw[d,az h];exact gq a (by rfl) (by simp[LW])
 have k:¬(parse e.bU).2.2≠0:=by simpa using h
 refine aw (mY e.next (by have:=c.next;omega) _) rfl ?_;simp only[VV,seval];refine⟨λh=>?_,λh=>?_⟩
 .have h:(parse e.next).2.2≠0:=by simpa using h
  rw[d,an k,az h];exact gq a (by rfl) (by simp[LW])
 have l:¬(parse e.next).2.2≠0:=by simpa using h
 rw[an k,an l]at d;refine aw (qc e.c8 _) rfl ?_;simp only[VV,seval];refine bB (by simp only[VV,seval]<;>rfl) (λ_=>qc e.cA _) rfl ?_;simp only[VV,seval]
 have g:(!named e.c8||!named e.cA)=!(named e.c8&&named e.cA):=by
  cases named e.c8<;>cases named e.cA<;>rfl
 rw[g];refine⟨λh=>?_,λh=>⟨λb=>?_,λb=>?_⟩⟩
 .have h:(named e.c8&&named e.cA)=false:=by rw[dm]at h;exact h
  rw[d,az h];exact gq a (by rfl) (by simp[LW])
 .have h:¬(named e.c8&&named e.cA)=false:=by rw[dQ]at h;rw[h];simp
  have b:e.awh<0\/1073741824<e.awh\/e.awq<1\/3<e.awq:=by
   simp at b;omega
  rw[d,an h,az b];exact gq a (by rfl) (by simp[LW])
 .have h:¬(named e.c8&&named e.cA)=false:=by rw[dQ]at h;rw[h];simp
  have b:¬(e.awh<0\/1073741824<e.awh\/e.awq<1\/3<e.awq):=by
   simp at b;omega
  rw[d,an h,an b];exact gq a (by rfl) (by simp[LW])
def js(e:En)(a:e.awk)(J:ak):bM prog 30 [.agg e.awa] J (.s (aN e)):=by
 refine aZ func30 p30.2 λb f=>au ?_;simp only[p30,SS,seval];simp only[En.awa,VV,seval];refine aw (kW e a _) rfl ?_;simp only[VV,seval];refine⟨λh=>?_,λh=>?_⟩
 .have h:cj e≠0:=by simpa using h
  exact bg b (.inr rfl) (by simp only[RS,seval];rfl) (by simp[LW]) ⟨by simp only[aN,h,aT,fc,cP];rfl,rfl⟩
 .have h:¬cj e≠0:=by simpa using h
  refine aw (tH e.awc (by have:=a.nU;omega) _) rfl ?_;simp only[VV,seval];have d:=zI e.awc a.awc a.nU (λx c=>a.ids x (by simp[c]));have i:=a.bU;have g:=a.next;refine⟨by simp[maxLen];omega,by simp[maxLen];omega,by simp[maxLen];omega,by simp[maxLen];omega,?_⟩;refine bg b (.inr rfl) (by simp only[RS,seval];rfl) (by simp[LW]) ⟨?_,rfl⟩;simp[Pm.one,aN,an h,cq]
open Go.RowKit
def Ei{J:ak}{K:bl}(m:List En)(d:nj m)(w:∀e∈m,e.awk):∀(rest pre:List En) (last:aG),m=pre++rest->(pre≠[]->∀y∈rest,fS last (cq y)<0) ->
  (((fj 32 fo) λr=>K (.exit 0) ⟨r,J⟩)) ->
  fm J.length prog rS K (rest.length+1) ⟨(.sl 8 (m.map En.awa)::uu 2 (.s last::uu 6 (.I m.length::.I pre.length::uu 20 []))),J⟩:=by
 intro rest
 induction rest with
 |nil =>
  intro pre last a f c;have a:=cN a
  subst a;refine ar λR k=>?_;simp only[rS,VV,seval];exact⟨λh=>by simp at h,λ_=>c ..⟩
 |cons x rest ih =>
  intro pre last a f c;have E:=d.len;have D:=mT a
  have g:=dh pre x (by omega)
  have l:decide ((pre.length:Int)<(m.length:Int))=true:=by simp;omega
  have z:(m.map En.awa).getD pre.length []=x.awa:=by rw[a];simp[aq]
  have j:x∈m:=by rw[a];simp
  have C:=d.ok x j;refine ar λR k=>?_;simp only[rS,l,g,z,ao,ag,V.pure,VV,seval];have o:x.awa.take 8=x.awa:=by simp[En.awa]
  have p:aN x=cq x:=by simp[aN,C]
  have t:cq x≠[]:=by simp[cq]
  refine⟨⟨by omega,by omega⟩,by simp[En.awa],aw (js x (w x j) _) (by simp only[o,VV,seval]) ?_⟩
  have q:(cq x==[]||decide ((0:Int)<(pre.length:Int))&&(Op.bytesLess (cq x) last||cq x==last))=false:=by
   have A:(cq x==[])=false:=by simpa using t
   rw[A,iY]
   by_cases i:pre=[]
   .simp[i]
   .have n:=f i x (by simp);have F:=gi.my (cq x) last;have u:Op.bytesLess (cq x) last=false:=by rw[fU];simp;omega
    have B:(cq x==last)=false:=by
     simp only[di];intro h;rw[<- h,gi.self]at n;omega
    rw[u,B];simp
  simp only[p,q,g,VV,seval];have b:=d.s6;rw[a]at b;simp only[cM,aH,KA,jf,dx]at b;refine k _ (aK (fr':=(.sl 8 (m.map En.awa)::uu 2 (.s (cq x)::uu 6 (.I m.length::.I (pre++[x]).length::uu 20 [])))) (by repeat' constructor) (ih (pre++[x]) (cq x) (by rw[a];simp) (λ_ y v=>b.2.1.1 (cq y) (gN v)) c))
def sQ(m:List En)(a:nj m)(d:∀e∈m,e.awk)(J:ak):bM prog 114 [.sl 8 (m.map En.awa)] J (.b true):=by
 refine aZ func114 QU.2 λi f=>au ?_;have g:=a.len;have c:decide ((1024:Int)<(m.length:Int))=false:=by simp;omega
 simp only[QU,SS,seval];simp only[ag,c,VV,seval];refine bZ.aK (fr':=(.sl 8 (m.map En.awa)::uu 2 (.s []::uu 6 (.I m.length::.I (([]:List En).length:Nat)::uu 20 [])))) ?_ (m.length+1) (Ei m a d m [] [] rfl (λh=>(h rfl).elim) ?_)
 .repeat' constructor
 simp only[JE];intros;simp only[VV,seval];exact aO (.inr rfl) (by simp only[RS,seval];rfl) ⟨rfl,rfl⟩
def below(m:List En)(k:aG):Nat:=(m.takeWhile λe=>Op.bytesLess (cq e) k).length
def Eh{J:ak}{K:bl}(m:List En)(j:nj m)(q:∀e∈m,e.awk)(k:aG):∀(rest pre:List En),m=pre++rest ->
  (((fj 5 (fh (.I (pre.length+below rest k:Nat)) (fj 16 fo))) λp=>K (.exit 0) ⟨p,J⟩)) ->
  fm J.length prog rR K (rest.length+1) ⟨(.sl 8 (m.map En.awa)::.s k::uu 3 (.I pre.length::uu 16 [])),J⟩:=by
 intro rest
 induction rest with
 |nil =>
  intro pre a b;have a:=cN a
  subst a;refine ar λR l=>?_;simp only[below,qV,al,de]at b;have d:decide ((m.length:Int)<(m.length:Int))=false:=by simp
  simp only[rR,ag,d,VV,seval];refine⟨nofun,.u,nofun,?_⟩;refine bB (c:=false) (v:=.s []) (by simp only[VV,seval]<;>rfl) (nofun) rfl ?_;simp only[VV,seval];exact b ..
 |cons x rest ih =>
  intro pre a b;have y:=j.len;have w:=mT a
  have g:=dh pre x (by omega)
  have d:decide ((pre.length:Int)<(m.length:Int))=true:=by simp;omega
  have r:(m.map En.awa).getD pre.length []=x.awa:=by rw[a];simp[aq]
  have i:x∈m:=by rw[a];simp
  have t:=j.ok x i;have n:x.awa.take 8=x.awa:=by simp[En.awa]
  have o:aN x=cq x:=by simp[aN,t]
  refine ar λR l=>?_;simp only[rR,d,g,r,n,ao,ag,V.pure,VV,seval];refine⟨⟨by omega,by omega⟩,.agg x.awa,⟨rfl,by simp[En.awa]⟩,?_⟩;refine bB (c:=true) (by simp only[VV,seval]<;>rfl) (λ_=>js x (q x i) _) rfl ?_;simp only[o,g,VV,seval];refine⟨λh=>l _ (aK (fr':=(.sl 8 (m.map En.awa)::.s k::uu 3 (.I (pre++[x]).length::uu 16 []))) (by repeat' constructor) (ih (pre++[x]) (by rw[a];simp) ?_)),λh=>?_⟩
  .have f:(pre++[x]).length+below rest k=pre.length+below (x::rest) k:=by
    simp only[below,cy,h,aT,ai,aj,al];omega
   rw[f];exact b
  .have f:pre.length+below (x::rest) k=pre.length:=by
    simp only[below,cy,h,aI,aS,al,de]
   rw[f]at b;exact b ..
def sR(m:List En)(a:nj m)(b:∀e∈m,e.awk)(k:aG)(J:ak):bM prog 115 [.sl 8 (m.map En.awa),.s k] J (.I (below m k:Nat)):=by
 refine aZ func115 QT.2 λd c=>au ?_;simp only[QT,SS,seval];simp only[VV,seval];refine bZ.aK (fr':=(.sl 8 (m.map En.awa)::.s k::uu 3 (.I (([]:List En).length:Nat)::uu 16 []))) ?_ (m.length+1) (Eh m a b k m [] rfl ?_)
 .repeat' constructor
 simp only[JE];intros;simp only[al,aY,VV,seval];exact aO (.inr rfl) (by simp only[RS,seval];rfl) ⟨rfl,rfl⟩
def yL(m:List En)(k:aG):below m k<=m.length:=qX (qU _)
def Bd(k:aG):∀{m:List En},KA (m.map cq)->below m k=pK k (m.map cq)
 |[],_=>rfl
 |x::r,h=>by
  simp only[aH,KA,dx]at h;have ih:=Bd k (m:=r) h.2;cases a:Op.bytesLess (cq x) k with
  |true =>
   have b:decide (cq x<k)=true:=by rw[fU]at a;simpa[uI]using a
   simp only[below,cy,a,aT,ai,pK,aH,List.countP_cons,b]at ih |-;rw[ih]
  |false =>
   have b:¬fS (cq x) k<0:=by rw[fU]at a;simpa using a
   simp only[below,cy,a,aI,aS,al];refine(List.countP_eq_zero.2 λy c=>?_).symm;simp only[aV,uI];rcases bC.1 c with rfl|c
   .exact b
   .have e:=h.1 y c;intro d;exact b (lY e d)
def WY(m:List En)(b:nj m)(g:∀e∈m,e.awk)(k:aG)(J:ak):bM prog 75 [.sl 8 (m.map En.awa),.s k] J (.I (find m k)):=by
 refine aZ func75 p75.2 λw r=>au ?_;have q:=yL m k;have t:=b.len;have f:=Bd k b.s6
 have j:find m k=if below m k=m.length\/(m.map cq).getD (below m k) []≠k then -1 else(below m k:Int):=by
  simp only[find,b.keys,f,ag,mg,nk]
 rw[j];simp only[p75,SS,seval];simp only[VV,seval];refine aw (sQ m b g _) rfl ?_;simp only[VV,seval];refine aw (sR m b g k _) rfl ?_
 by_cases h:below m k<m.length
 .have i:=dC h;have o:(m.map En.awa).getD (below m k) []=m[below m k].awa:=by simp[aq,h]
  have d:decide ((below m k:Int)<(m.length:Int))=true:=by simp;omega
  have l:m[below m k].awa.take 8=m[below m k].awa:=by simp[En.awa]
  have p:aN m[below m k]=cq m[below m k]:=by simp[aN,b.ok _ i]
  have n:(m.map cq).getD (below m k) []=cq m[below m k]:=by simp[aq,h]
  simp only[ag,d,o,l,ao,VV,seval];refine⟨⟨by omega,by omega⟩,.agg m[below m k].awa,⟨rfl,by simp[En.awa]⟩,?_⟩;refine bB (c:=true) (by simp only[VV,seval]<;>rfl) (λ_=>js m[below m k] (g _ i) _) rfl ?_;simp only[p,n,VV,seval];refine⟨λa=>?_,λa=>?_⟩
  .have a:cq m[below m k]=k:=by simpa using a
   rw[an (by rw[a];simp;omega)];exact aO (.inr rfl) (by simp only[RS,seval];rfl) ⟨rfl,rfl⟩
  .have a:cq m[below m k]≠k:=by simpa using a
   rw[az (.inr a)];exact aO (.inr rfl) (by simp only[RS,seval];rfl) ⟨rfl,rfl⟩
 .have d:decide ((below m k:Int)<(m.length:Int))=false:=by simp;omega
  rw[az (.inl (by omega))];simp only[ag,d,VV,seval];refine⟨nofun,.u,nofun,?_⟩;refine bB (c:=false) (v:=.s []) (by simp only[VV,seval]<;>rfl) (nofun) rfl ?_;simp only[VV,seval];exact aO (.inr rfl) (by simp only[RS,seval];rfl) ⟨rfl,rfl⟩
set_option maxRecDepth 100000 in
def Ll(l:aG)(n:l.length<=maxLen)(w:bD):
  Calls prog 273 #[.string ⟨l.toArray⟩] w λe w'=>e=.returned (.string ⟨(lower l).toArray⟩)/\w.grownBy w' none:=by
 have r:=run_bytes_of_string (P:=prog) w 9 58 5 ⟨l.toArray⟩ underlying9 underlying58 underlying5
 go_enter func273,Tryz.ntmps273
 go_wp2
 go_loopw [9] (λi wr=>∃k:Nat,k<=l.length/\i=.int .i64 k/\Ss w wr l k) (λi _=>l.length - (intOf i).toNat)
 case atStart=>exact⟨0,fA _,rfl,Jo w l _⟩
 case round =>
  obtain⟨k,p,rfl,b⟩:=hrel;have m:=b.1
  have j:k<l.length->wr.cell? ⟨w.heap.size,k,none⟩=some (.int .u8 (l.getD k 0).toNat):=λh=>by
   have:=(b.2.2 k l[k] (ax h)).1;rw[an (by omega)]at this;rw[this];simp[aq,h]
  have o:k<l.length->wr.frozen? ⟨w.heap.size,k,none⟩=false:=λh=>(b.2.2 k l[k] (ax h)).2;have f:=λ(h:k=l.length) (g:Nat)=>MI (h▸b) g;unfold maxLen at n
  go_wp2
  .rename_i a c d;refine⟨⟨k+1,a,rfl,MH b (ax a) ?_⟩,by simp[intOf];omega⟩;rw[GU (by simpa using c) (by simpa using d)]
  .rename_i a c d;exact⟨⟨k+1,a,rfl,BC b (ax a) (zx (by simp at c d |-;omega))⟩,by simp[intOf];omega⟩
  .rename_i a c;exact⟨⟨k+1,a,rfl,BC b (ax a) (zx (by simp at c |-;omega))⟩,by simp[intOf];omega⟩
  .rename_i q;rw[f (by omega)]
   go_wp2
   go_ret
   exact⟨rfl,m⟩
def Ta(l:aG)(J:ak):bM prog 273 [.s l] J (.s (lower l)):=by
 refine PC.Tn λB o w m j p b=>?_;obtain⟨s,h,c,a⟩:=(b.2 0 _ rfl).qf
 have f:j=#[.string ⟨l.toArray⟩]:=by
  have k:=b.1;have e:s=⟨l.toArray⟩:=by rw[<- c]
  rw[<- e,<- h];apply Array.ext
  .simpa using k
  .intro i d g;have:i=0:=by simp at g;omega
   subst this;simp[d]
 rw[f];exact⟨_,Ll l a w,λn=>.s _ _ (by simp) (by rw[Eb];exact a)⟩
def adR{J:ak}{K:bl}(l:aG)(d:l.length<2^62):∀(rest pre:aG),l=pre++rest ->
  ((fj 3 (fh (.I ((pre.length+lh rest:Nat):Int)) (fj 14 fo))) λm=>K (.exit 0) ⟨m,J⟩) ->
  fm J.length prog NR K (rest.length+1) ⟨(.s l::uu 2 (.I pre.length::uu 14 [])),J⟩:=by
 intro rest
 induction rest with
 |nil =>
  intro pre a c;have a:=cN a
  subst a;refine ar λR j=>?_;simp only[NR,VV,seval];refine⟨λh=>by simp at h,?_⟩;refine bB (by simp only[VV,seval]<;>rfl) (λ_=>kF _ _) rfl ?_;simp only[VV,seval];exact⟨λh=>by simp at h,λ_=>c ..⟩
 |cons b rest ih =>
  intro pre a c;subst a;have g:pre.length+1+rest.length<2^62:=by simp at d;omega
  have k:=dh pre b (by omega)
  refine ar λR j=>?_;simp only[NR,VV,seval];refine⟨λ_=>by simp;omega,?_⟩;refine bB (by simp only[VV,seval]<;>rfl) (λ_=>kF b _) rfl ?_;simp only[k,VV,seval];have i:decide ((pre.length:Int)<((pre++b::rest).length:Nat))=true:=by simp;omega
  refine⟨λh=>?_,λh=>?_⟩
  .have f:xq b=true:=by rw[i]at h;simpa[xq]using h
   exact j _ (aK (by repeat' constructor) (ih (pre++[b]) (by simp) (by simpa[lh,f,iW]using c)))
  .have f:xq b=false:=by rw[i]at h;simpa[xq]using h
   have e:lh (b::rest)=0:=by simp[lh,f]
   rw[e]at c;exact c ..
def Qf(l:aG)(a:l.length<2^62)(J:ak):bM prog 177 [.s l] J (.I (lh l:Nat)):=by
 refine aZ func177 alH.2 λc b=>au ?_;simp only[alH,SS,seval];simp only[VV,seval];refine bZ.aK (fr':=(.s l::uu 2 (.I ([]:aG).length::uu 14 []))) (by repeat' constructor) (l.length+1) (adR l a l [] rfl ?_);simp only[JE];intros;simp only[VV,seval];exact aO (.inr rfl) (by simp only[RS,seval];rfl) ⟨by simp[Pm.one],rfl⟩
def adT{J:ak}{K:bl}(l:aG)(g:l.length<2^62):∀(n:Nat) (rest pre:aG),rest.length<=n->l=pre++rest ->
  ((fj 3 (fh (.I ((pre.length+lH sG 39 45 rest:Nat):Int)) (fj 57 fo))) λt=>K (.exit 0) ⟨t,J⟩) ->
  fm J.length prog I7 K (n+1) ⟨(.s l::uu 2 (.I pre.length::uu 57 [])),J⟩:=by
 intro n
 induction n with
 |zero =>
  intro rest pre q j a;have w:rest=[]:=aW (by omega);subst w;have j:=cN j
  subst j;refine ar λR k=>?_;simp only[I7,VV,seval];exact⟨λh=>by simp at h,λ_=>a ..⟩
 |succ n ih =>
  intro rest pre q j a;subst j;cases rest with
  |nil =>
   refine ar λR k=>?_;simp only[I7,VV,seval];exact⟨λh=>by simp at h,λ_=>a ..⟩
  |cons b rest =>
   have c:pre.length+1+rest.length<2^62:=by simp at g;omega
   have v:=dh pre b (by omega)
   refine ar λR k=>?_;simp only[I7,VV,seval];refine⟨λ_=>⟨by simp;omega,?_⟩,λh=>by simp at h;omega⟩;refine aw (kF b _) rfl ?_;simp only[v,VV,seval];refine⟨λh=>?_,λh=>?_⟩
   .have f:sG b=true:=h;rw[FU f]at a;exact k _ (aK (by repeat' constructor) (ih rest (pre++[b]) (by simp at q;omega) (by simp) (by simpa[iW]using a)))
   .have f:sG b=false:=h;have x:((b.toNat:Int)==39)=(b==39):=PB b 39;have r:((b.toNat:Int)==45)=(b==45):=PB b 45;simp only[x,r];refine⟨by simp;omega,λ_=>by simp;omega,λi=>?_,λi=>?_⟩
    .cases rest with
     |nil=>simp at i
     |cons d rest =>
      have m:(pre++b::d::rest).getD (pre++[b]).length 0=d:=by
       have:pre++b::d::rest=(pre++[b])++d::rest:=by simp
       rw[this];simp[aq]
      have u:IntKind.i64.wrap ((pre.length:Int)+2)=(((pre++[b,d]).length:Nat):Int):=by
       rw[IntWalk.i64_in _ (by omega)];simp
      simp only[ai]at c;refine⟨by simp;omega,?_⟩;simp only[m,ao];refine aw (kF d _) rfl ?_;simp only[u,VV,seval]
      have y:((b==39||b==45)&&true)=true:=by
       rw[df];exact(Pe.1 i).1
      refine⟨λo=>?_,λo=>?_⟩
      .have p:sG d=true:=o;rw[FV f (by rw[p];exact y)]at a;exact k _ (aK (by repeat' constructor) (ih rest (pre++[b,d]) (by simp at q;omega) (by simp) (by simpa[iW]using a)))
      .have p:sG d=false:=o;rw[Eo f (by rw[p,gB])]at a;exact a ..
    .have e:lH sG 39 45 (b::rest)=0:=by
      cases rest with
      |nil=>exact FW f
      |cons d rest =>
       have m:decide ((((pre++[b]).length:Nat):Int)<((pre++b::d::rest).length:Nat))=true:=by simp;omega
       rw[m,df]at i;exact Eo f (by rw[i,dR]) _
     rw[e]at a;exact a ..
def Tc(c:UInt8)(l:aG)(b:l.length<2^61)(J:ak):bM prog 175 [.s (c::l)] J (.I ((if ei c=4 then 1+lH sG 39 45 l else 0:Nat):Int)):=by
 refine aZ func175 alJ.2 λf e=>au ?_;simp only[alJ,SS,seval];have d:(c::l==[])=false:=rfl;simp only[d,VV,seval];refine⟨by omega,?_⟩;refine bB (by simp only[VV,seval]<;>rfl) (λ_=>kF c _) rfl ?_;simp only[VV,seval];refine⟨λh=>?_,λh=>?_⟩
 .have a:¬ei c=4:=by simpa using h
  exact aO (.inr rfl) (by simp only[RS,seval];rfl) ⟨by simp[Pm.one,a],rfl⟩
 .have a:ei c=4:=by simpa using h
  refine bZ.aK (fr':=(.s (c::l)::uu 2 (.I ([c]:aG).length::uu 57 []))) (by repeat' constructor) (l.length+1) (adT (c::l) (by simp;omega) l.length l [c] (aD _) rfl ?_);simp only[JE];intros;simp only[VV,seval];exact aO (.inr rfl) (by simp only[RS,seval];rfl) ⟨by simp[Pm.one,a],rfl⟩
def adS{J:ak}{K:bl}(l:aG)(e:l.length<2^62):∀(n:Nat) (rest pre:aG),rest.length<=n->l=pre++rest ->
  ((fj 3 (fh (.I ((pre.length+lH LQ 46 44 rest:Nat):Int)) (fj 47 fo))) λr=>K (.exit 0) ⟨r,J⟩) ->
  fm J.length prog I6 K (n+1) ⟨(.s l::uu 2 (.I pre.length::uu 47 [])),J⟩:=by
 intro n
 induction n with
 |zero =>
  intro rest pre k g a;have w:rest=[]:=aW (by omega);subst w;have g:=cN g
  subst g;refine ar λR i=>?_;simp only[I6,VV,seval];exact⟨λh=>by simp at h,λ_=>a ..⟩
 |succ n ih =>
  intro rest pre k g a;subst g;cases rest with
  |nil =>
   refine ar λR i=>?_;simp only[I6,VV,seval];exact⟨λh=>by simp at h,λ_=>a ..⟩
  |cons b rest =>
   have j:pre.length+1+rest.length<2^62:=by simp at e;omega
   have u:=dh pre b (by omega)
   refine ar λR i=>?_;simp only[I6,VV,seval];refine⟨λ_=>⟨by simp;omega,?_⟩,λh=>by simp at h;omega⟩;refine aw (kF b _) rfl ?_;simp only[u,VV,seval];refine⟨λh=>?_,λh=>?_⟩
   .have c:LQ b=true:=h;rw[FU c]at a;exact i _ (aK (by repeat' constructor) (ih rest (pre++[b]) (by simp at k;omega) (by simp) (by simpa[iW]using a)))
   .have c:LQ b=false:=h;have x:((b.toNat:Int)==46)=(b==46):=PB b 46;have p:((b.toNat:Int)==44)=(b==44):=PB b 44;simp only[x,p];refine⟨by simp;omega,λ_=>by simp;omega,?_⟩;refine⟨λf=>?_,?_⟩
    .have q:=(Pe.1 (by simpa only[beq_true]using f)).2;exact⟨by omega,by simpa using q⟩
    refine bB (by simp only[VV,seval]<;>rfl) (λ_=>kF _ _) rfl ?_;simp only[VV,seval];cases rest with
    |nil =>
     have v:decide ((((pre++[b]).length:Nat):Int)<((pre++[b]).length:Nat))=false:=by simp
     rw[FW c]at a;simp only[v,gB,dR];exact⟨λh=>by simp at h,λ_=>a ..⟩
    |cons d rest =>
     have o:decide ((((pre++[b]).length:Nat):Int)<((pre++b::d::rest).length:Nat))=true:=by simp;omega
     have m:(pre++b::d::rest).getD (pre++[b]).length 0=d:=by
      have:pre++b::d::rest=(pre++[b])++d::rest:=by simp
      rw[this];simp[aq]
     have t:IntKind.i64.wrap ((pre.length:Int)+2)=(((pre++[b,d]).length:Nat):Int):=by
      rw[IntWalk.i64_in _ (by omega)];simp
     simp only[o,m,t,df];refine⟨λf=>?_,λf=>?_⟩
     .rw[FV c f]at a;exact i _ (aK (by repeat' constructor) (ih rest (pre++[b,d]) (by simp at k;omega) (by simp) (by simpa[iW]using a)))
     .rw[Eo c f]at a;exact a ..
def Nx(c:UInt8)(l:aG)(b:l.length<2^61)(J:ak):bM prog 176 [.s (c::l)] J (.I ((if ei c=3 then 1+lH LQ 46 44 l else 0:Nat):Int)):=by
 refine aZ func176 alI.2 λf e=>au ?_;simp only[alI,SS,seval];have d:(c::l==[])=false:=rfl;simp only[d,VV,seval];refine⟨by omega,?_⟩;refine bB (by simp only[VV,seval]<;>rfl) (λ_=>kF c _) rfl ?_;simp only[VV,seval];refine⟨λh=>?_,λh=>?_⟩
 .have a:¬ei c=3:=by simpa using h
  exact aO (.inr rfl) (by simp only[RS,seval];rfl) ⟨by simp[Pm.one,a],rfl⟩
 .have a:ei c=3:=by simpa using h
  refine bZ.aK (fr':=(.s (c::l)::uu 2 (.I ([c]:aG).length::uu 47 []))) (by repeat' constructor) (l.length+1) (adS (c::l) (by simp;omega) l.length l [c] (aD _) rfl ?_);simp only[JE];intros;simp only[VV,seval];exact aO (.inr rfl) (by simp only[RS,seval];rfl) ⟨by simp[Pm.one,a],rfl⟩
def ad3{J:ak}{K:bl}(H:cn J):∀(N:Nat) (s:aG) (out:List It) (g:Nat),s.length<=N->s.length<2^61->out.length+s.length<2^40 ->
  (∀g,((fj 3 (fh (.own J.length g) (fj 35 fo))) λE=>K (.exit 0) ⟨E,J++[.row 150 3 32 g false ((out++nJ s).map It.awa)]⟩)) ->
  fm J.length prog Jd K (N+1) ⟨(.s s::uu 2 (.own J.length g::uu 35 [])),J++[.row 150 3 32 g false (out.map It.awa)]⟩:=by
 intro N
 induction N with
 |zero =>
  intro s out g m v u d;have m:s=[]:=aW (by omega);subst m;have e:out++nJ []=out:=by simp[nJ,nM]
  rw[e]at d;refine ar λR q=>?_;simp only[Jd,VV,seval];exact⟨λh=>by simp at h,λ_=>d g ..⟩
 |succ N ih =>
  intro s out g m v u d;cases s with
  |nil =>
   have e:out++nJ []=out:=by simp[nJ,nM]
   rw[e]at d;refine ar λR q=>?_;simp only[Jd,VV,seval];exact⟨λh=>by simp at h,λ_=>d g ..⟩
  |cons c r =>
   have w:c::r≠[]:=by simp
   have y:=tO (c::r);have a:=Ji w;simp only[ai]at a u v m;rw[G8 w]at d;refine ar λR q=>?_;simp only[Jd,VV,seval];refine⟨λ_=>?_,λh=>by simp at h⟩;have o:∀n:Nat,decide ((0:Int)<((1+n:Nat):Int))=true:=λn=>by simp;omega
   have hzero:decide ((0:Int)<((0:Nat):Int))=false:=by decide
   have b:decide False=false:=rfl;have i:∀n,List.take (r.length+1 - n) (List.drop n (c::r))=(c::r).drop n:=λn=>bW (by simp)
   have f:∀{x:aB} (n:Nat) (k:Int),gP (c::r)=(k,n)->oJ x (.s ((c::r).drop n)::uu 2 (.own J.length (g+1)::uu 35 []))->R ⟨x,J++[.row 150 3 32 (g+1) false (out.map It.awa++[[.I k,.s ((c::r).take n),.I 0]])]⟩:=λn k F C=>by
    rw[F]at d y a;simp only at d y a;refine q _ (aK C ?_);have G:out.map It.awa++[[.I k,.s ((c::r).take n),.I 0]]=(out++[(⟨k,(c::r).take n,0⟩:It)]).map It.awa:=by simp[It.awa]
    rw[G];exact ih ((c::r).drop n) (out++[⟨k,(c::r).take n,0⟩]) (g+1) (by simp;omega) (by simp;omega) (by simp;omega) (by simpa using d)
   have W:=Tc c r (by omega) (J++[.row 150 3 32 g false (out.map It.awa)]);have D:=Nx c r (by omega) (J++[.row 150 3 32 g false (out.map It.awa)]);have B:=Qf (c::r) (by simp;omega) (J++[.row 150 3 32 g false (out.map It.awa)]);have l:((out.map It.awa).length+1)*32<=140737488355328/\(out.map It.awa).length+1<=maxLen:=by simp only[maxLen,ag];omega
   rcases(show ei c=4\/ei c=3\/ei c=2\/(ei c≠4/\ei c≠3/\ei c≠2)by omega)with h|h|h|⟨z,A,t⟩
   .have e:gP (c::r)=(6,1+lH sG 39 45 r):=by simp[gP,h]
    have j:lh (c::r)=0:=by simp[lh,xq,h]
    rw[e]at a;simp only at a;rw[az h]at W;rw[an (by omega)]at D;rw[j]at B;refine aw W rfl ?_;simp only[o,VV,seval];refine aw D rfl ?_;simp only[hzero,b,VV,seval];refine aw B rfl ?_;simp only[hzero,b,i,VV,seval];exact⟨⟨by omega,by omega⟩,l,⟨by omega,by omega,by omega⟩,f _ _ e (by repeat' constructor)⟩
   .have e:gP (c::r)=(7,1+lH LQ 46 44 r):=by simp[gP,h]
    have j:lh (c::r)=0:=by simp[lh,xq,h]
    rw[e]at a;simp only at a;rw[an (by omega)]at W;rw[az h]at D;rw[j]at B;refine aw W rfl ?_;simp only[hzero,b,VV,seval];refine aw D rfl ?_;simp only[o,VV,seval];refine aw B rfl ?_;simp only[hzero,b,i,VV,seval];exact⟨⟨by omega,by omega⟩,l,⟨by omega,by omega,by omega⟩,f _ _ e (by repeat' constructor)⟩
   .have e:gP (c::r)=(8,1+lh r):=by simp[gP,h]
    have j:lh (c::r)=1+lh r:=by simp[lh,xq,h]
    rw[e]at a;simp only at a;rw[an (by omega)]at W;rw[an (by omega)]at D;rw[j]at B;refine aw W rfl ?_;simp only[hzero,b,VV,seval];refine aw D rfl ?_;simp only[hzero,b,VV,seval];refine aw B rfl ?_;simp only[o,i,VV,seval];exact⟨⟨by omega,by omega⟩,l,⟨by omega,by omega,by omega⟩,f _ _ e (by repeat' constructor)⟩
   .have e:gP (c::r)=(9,1):=by simp[gP,z,A,t]
    have j:lh (c::r)=0:=by simp[lh,xq,t]
    rw[e]at a;simp only at a;rw[an (by omega)]at W;rw[an (by omega)]at D;rw[j]at B;refine aw W rfl ?_;simp only[hzero,b,VV,seval];refine aw D rfl ?_;simp only[hzero,b,VV,seval];refine aw B rfl ?_;simp only[hzero,b,i,VV,seval];have p:List.take r.length r=r:=List.take_length ..;simp only[p];refine⟨by omega,l,⟨by omega,by omega⟩,f 1 9 e ?_⟩;simp only[iJ,mD]
    repeat' constructor
def Td(s:aG)(a:s.length<2^39)(J:ak):PC prog 112 [.s s] J (λr J'=>r=.own J.length 0/\J'=J++[.row 150 3 32 0 false ((nJ s).map It.awa)]):=by
 refine aZ func112 amo.2 λb c=>au ?_;simp only[amo,SS,seval];simp only[VV,seval];refine bZ.wk ((Wk.ij (J:=J) (k:=3) Im rfl).trans (Wk.fg ?_)) (bZ.uh (s.length+1) (ad3 b s.length s [] 0 (aD _) (by omega) (by simp;omega) ?_))
 .simp only[VV,seval]
  repeat' constructor
 .intro g;simp only[JE];intros;simp only[VV,seval];exact zh 0 b (.inr rfl) rfl rfl rfl (by simp[Hn,Ob.gen]) (by simp[Pm.one,mv1,Ob.fresh])
def W2(s:aG)(a:s.length<2^39)(J:ak):bM prog 112 [.s s] J (.sl 3 ((nJ s).map It.awa)) :=
 PC.closed λb=>PC.fz b (Td s a J)
def ahE{J:ak}{K:bl}(b:List It)(A:cn J)(c:b.length<2^38)(P:bd b<2^38):∀(rest pre:List It) (out:List It) (g:Nat),b=pre++rest->out.length<=pre.length+(bd b - bd rest) ->
  (∀g,((fj 3 (fh (.own J.length g) (fj 34 fo))) λL=>K (.exit 0) ⟨L,J++[.row 150 3 32 g false ((out++dz rest).map It.awa)]⟩)) ->
  fm J.length prog I0 K (rest.length+1) ⟨(uu 3 (.own J.length g::uu 2 (.sl 3 (b.map It.awa)::.I b.length::.I pre.length::uu 29 []))),J++[.row 150 3 32 g false (out.map It.awa)]⟩:=by
 intro rest
 induction rest with
 |nil =>
  intro pre out g j C l;have j:=cN j
  subst j;have e:out++dz []=out:=by simp[dz]
  rw[e]at l;refine ar λR i=>?_;simp only[I0,VV,seval];exact⟨λh=>by simp at h,λ_=>l g ..⟩
 |cons x rest ih =>
  intro pre out g j C l;subst j
  have p:=dh pre x (by simp at c;omega)
  have D:bd (x::rest)=x.awd.length+bd rest:=rfl;have q:=Am pre (x::rest);have u:pre.length+1+rest.length<2^38:=by simp at c;omega
  have e:out++dz (x::rest)=(out++pM x)++dz rest:=by simp[dz]
  rw[e]at l;have G:∀g o,cn (J++[.row 150 3 32 g false o]):=λg o=>cC A (by simp)
  have a:∀{w:aB} {R:ca} (g:Nat) (v:Ob),(∀m,fm J.length prog I0 K (rest.length+1) m->R m)->oJ w (uu 3 (.own J.length g::uu 2 (.sl 3 ((pre++x::rest).map It.awa)::.I (pre++x::rest).length::.I (pre++[x]).length::uu 29 []))) ->
    R ⟨w,J++[.row 150 3 32 g false ((out++pM x).map It.awa),v]⟩:=λg v i F=>by
   have f:=Fq x;refine i _ (cG [_] [_] (G _ _) F ?_ (ih (pre++[x]) (out++pM x) g (by simp) (by simp;omega) l));simp only[LW,ai,al,aY];omega
  have H:(out.length+1)*32<=140737488355328/\out.length+1<=maxLen:=by simp only[maxLen];omega
  obtain⟨k,t,d⟩:=x;have M:out.map It.awa++[[.I k,.s t,.I d]]=(out++[(⟨k,t,d⟩:It)]).map It.awa:=by simp[It.awa]
  refine ar λR i=>?_;have Pm.one:(k=2\/k=3\/k=4\/k=5)->pM ⟨k,t,d⟩=[⟨k,t,d⟩]:=λh=>by simp only[pM,h,aT]
  rcases xJ (k=2\/k=3\/k=4\/k=5)with f|f
  .rw[Pm.one f]at a;rcases f with rfl|rfl|rfl|rfl
   all_goals
    simp only[I0,It.awa,↓IT,VV,seval];simp only[p,ag,M,It.awa];refine⟨λ_=>⟨by simp;omega,H,a _ _ i ?_⟩,λh=>by simp at h;omega⟩
    repeat' constructor
  .have B:(k==2)=false:=by simp;omega
   have O:(k==3)=false:=by simp;omega
   have E:(k==4)=false:=by simp;omega
   have z:(k==5)=false:=by simp;omega
   rcases xJ (k=1)with n|n
   .subst n;have r:pM ⟨1,t,d⟩=nJ t:=by simp[pM]
    simp only[I0,It.awa,↓IT,VV,seval];refine⟨λ_=>⟨by simp;omega,?_⟩,λh=>by simp at h;omega⟩;simp only[bd]at D q;refine aw (W2 t (by omega) _) rfl ?_;simp only[VV,seval];simp only[p];have f:=C0 t.length t
    have N:((out.map It.awa).length+((nJ t).map It.awa).length)*32<=140737488355328/\(out.map It.awa).length+((nJ t).map It.awa).length<=maxLen:=by
     simp only[ag,maxLen,nJ];omega
    refine⟨N,?_⟩;rw[<- List.map_append,<- r];refine a _ _ i ?_
    repeat' constructor
   .have r:pM ⟨k,t,d⟩=[]:=by simp[pM,f,n]
    have y:(k==1)=false:=by simpa using n
    rw[r,bL]at a;simp only[I0,It.awa,B,O,E,z,y,↓IT,VV,seval];simp only[p];refine⟨λ_=>⟨by simp;omega,a _ _ i ?_⟩,λh=>by simp at h;omega⟩
    repeat' constructor
def Lo(a:List It)(b:a.length<2^38)(d:bd a<2^38)(J:ak):PC prog 53 [.sl 3 (a.map It.awa)] J (λr J'=>r=.own J.length 0/\J'=J++[.row 150 3 32 0 false ((dz a).map It.awa)]):=by
 refine aZ func53 p53.2 λc e=>au ?_;simp only[p53,SS,seval];simp only[ag,VV,seval];refine bZ.wk ((Wk.ij (J:=J) (k:=3) Im rfl).trans (Wk.fg ?_)) (bZ.uh (a.length+1) (ahE a c b d a [] [] 0 rfl (by simp) ?_))
 .simp only[VV,seval]
  repeat' constructor
 .intro g;simp only[JE];intros;simp only[VV,seval];exact zh 0 c (.inr rfl) rfl rfl rfl (by simp[Hn,Ob.gen]) (by simp[Pm.one,mv1,Ob.fresh])
def DM(a:List It)(b:a.length<2^38)(c:bd a<2^38)(J:ak):bM prog 53 [.sl 3 (a.map It.awa)] J (.sl 3 ((dz a).map It.awa)) :=
 PC.closed λd=>PC.fz d (Lo a b c J)
def zj(x:It)(J:ak):bM prog 217 [.agg x.awa] J (.I (weight x)):=by
 refine aZ func217 alf.2 λj m=>au ?_;obtain⟨k,t,d⟩:=x;simp only[alf,It.awa,SS,seval]
 have a:∀(w:Int) {f:aB} {c:ak},weight ⟨k,t,d⟩=w->f.getD 2 .u=.I w->rG prog J.length [.t 2] (λr l=>r=.I (weight ⟨k,t,d⟩)/\l=J) .ret ⟨f,J++c⟩:=λw _ _ g i =>
  bg (xs:=[.I w]) j (.inr rfl) (by simp only[ni,xr,i]) (by simp only[LW]) ⟨by rw[g];rfl,rfl⟩
 rcases xJ (k=6\/k=5\/k=7\/k=2\/k=3\/k=4\/k=9\/k=8)with b|b
 .rcases b with rfl|rfl|rfl|rfl|rfl|rfl|rfl|rfl
  all_goals
   simp only[↓IT,VV,seval];exact a _ rfl rfl
 .have e:∀n:Int,(n=6\/n=5\/n=7\/n=2\/n=3\/n=4\/n=9\/n=8)->(k==n)=false:=λn h=>by
   simp only[di];rintro rfl;exact b h
  simp only[e 6 (by simp),e 5 (by simp),e 7 (by simp),e 2 (by simp),e 3 (by simp),e 4 (by simp),e 9 (by simp),e 8 (by simp),↓IT,VV,seval];exact a 0 (by simp only[weight];rw[an (by omega),an (by omega),an (by omega),an (by omega)]) rfl
def adU{J:ak}{K:bl}(l:List It)(i:cn J)(b:l.length<2^40):∀(rest pre:List It),l=pre++rest ->
  ((fj 3 (fh (.I (lq l)) (fj 14 fo))) λj=>K (.exit 0) ⟨j,J⟩) ->
  fm J.length prog NV K (rest.length+1) ⟨(uu 3 (.I (lq pre)::uu 2 (.sl 3 (l.map It.awa)::.I l.length::.I pre.length::uu 9 []))),J⟩:=by
 intro rest
 induction rest with
 |nil =>
  intro pre a e;have a:=cN a
  subst a;refine ar λR f=>?_;simp only[NV,VV,seval];exact⟨λh=>by simp at h,λ_=>e ..⟩
 |cons x rest ih =>
  intro pre a e;subst a;have c:pre.length+1+rest.length<2^40:=by simp at b;omega
  have k:=Dl pre;have m:=sH x
  have g:=dh pre x (by omega)
  have d:IntKind.i64.wrap (lq pre+weight x)=lq (pre++[x]):=by
   rw[IntWalk.i64_in _ (by omega)];simp[lq]
  refine ar λR f=>?_;simp only[NV,It.awa,VV,seval];refine⟨λ_=>⟨by simp;omega,?_⟩,λh=>by simp at h;omega⟩;refine aw (zj x _) rfl ?_;simp only[VV,seval];simp only[g,d];refine f _ (ny (aD _) i ?_ ?_ (ih (pre++[x]) (by simp) e))
  .repeat' constructor
  .simp only[LW]
def GG(l:List It)(a:l.length<2^40)(J:ak):bM prog 172 [.sl 3 (l.map It.awa)] J (.I (lq l)):=by
 refine aZ func172 alM.2 λb c=>au ?_;simp only[alM,SS,seval];simp only[ag,VV,seval];refine bZ.aK (fr':=(uu 3 (.I (lq [])::uu 2 (.sl 3 (l.map It.awa)::.I l.length::.I ([]:List It).length::uu 9 [])))) (by repeat' constructor) (l.length+1) (adU l b a l [] rfl ?_);simp only[JE];intros;simp only[VV,seval];exact aO (.inr rfl) rfl ⟨rfl,rfl⟩
def CO(a b:It)(J:ak):bM prog 254 [.agg a.awa,.agg b.awa] J (.b (qz a b)):=by
 refine aZ func254 akX.2 λc d=>au ?_;simp only[akX,It.awa,SS,seval];simp only[VV,seval];exact gq c (by simp only[RS,seval];rfl) (by simp only[LW])
def Ms(x:It)(J:ak):bM prog 255 [.agg x.awa] J (.s (im x)):=by
 refine aZ func255 akW.2 λa b=>au ?_;simp only[akW,It.awa,SS,seval];simp only[VV,seval];refine⟨λh=>?_,λh=>?_⟩
 .refine aw (Ta x.awd _) rfl ?_;simp only[VV,seval];simp only[cE]at h;exact bg a (.inr rfl) (by simp only[RS,seval];rfl) (by simp only[LW]) ⟨by simp only[Pm.one,im,h,aT],rfl⟩
 .simp only[di,fc]at h;exact bg a (.inr rfl) (by simp only[RS,seval];rfl) (by simp only[LW]) ⟨by simp only[Pm.one,im,h,aS],rfl⟩
def AA(x:It)(J:ak):bM prog 220 [.agg x.awa] J (.b (b9 x)):=by
 refine aZ func220 alc.2 λa c=>au ?_;simp only[alc,It.awa,SS,seval];simp only[VV,seval];exact gq a (by simp only[RS,seval];rfl) (by simp only[LW])
def oW(x:It)(J:ak):bM prog 219 [.agg x.awa] J (.I (single x)):=by
 refine aZ func219 ald.2 λa b=>au ?_;simp only[ald,It.awa,SS,seval];simp only[VV,seval];refine aw (AA x _) rfl ?_;simp only[VV,seval];refine⟨λh=>?_,λh=>?_⟩
 .exact bg a (.inr rfl) (by simp only[RS,seval];rfl) (by simp only[LW]) ⟨by simp only[Pm.one,single,h,aT],rfl⟩
 .refine aw (zj x _) rfl ?_;simp only[VV,seval];exact bg a (.inr rfl) (by simp only[RS,seval];rfl) (by simp only[LW]) ⟨by simp only[Pm.one,single,h,aS,aI],rfl⟩
def Te(a b:It)(J:ak):bM prog 218 [.agg a.awa,.agg b.awa] J (.iQ [.I ((gh a b).getD 0),.b (gh a b).isSome]):=by
 refine aZ func218 ale.2 λo m=>au ?_
 have c:∀(w:Int) (q:Bool) {k:aB} {l:ak},(gh a b).getD 0=w->(gh a b).isSome=q->k.getD 4 .u=.I w->k.getD 5 .u=.b q->rG prog J.length [.t 4,.t 5] (λr p=>r=.iQ [.I ((gh a b).getD 0),.b (gh a b).isSome]/\p=J) .ret ⟨k,J++l⟩:=λw q _ _ s i v n =>
  bg (xs:=[.I w,.b q]) o (.inr rfl) (by simp only[ni,xr,v,n]) (by simp only[LW]) ⟨by rw[s,i];rfl,rfl⟩
 clear m;simp only[ale,It.awa,SS,seval];cases d:qz a b with
 |true =>
  simp only[↓IT,VV,seval];refine aw (CO a b _) rfl ?_;simp only[d,↓IT,VV,seval];exact c 0 true (by simp[gh,d]) (by simp[gh,d]) rfl rfl
 |false =>
  simp only[↓IT,VV,seval];refine aw (CO a b _) rfl ?_;simp only[d,↓IT,VV,seval];refine⟨λh=>?_,λh=>?_⟩
  .have e:gh a b=none:=by
    simp only[eD,qT,fc,aV]at h
    by_cases f:a.awb=b.awb
    .have g:¬a.awb=6:=by omega
     have j:¬(a.awb=7\/a.awb=8\/a.awb=9\/a.awb=5):=by omega
     simp[gh,d,<- f,g,j]
    .simp[gh,d,f]
   exact c 0 false (by rw[e];rfl) (by rw[e];rfl) rfl rfl
  .simp only[iv,BT,dB]at h;obtain⟨⟨f,x⟩,y⟩:=h;refine bB (by simp only[VV,seval]<;>rfl) (λ_=>Ms a _) rfl ?_;simp only[VV,seval];refine bB (by simp only[VV,seval]<;>rfl) (λ_=>Ms b _) rfl ?_;simp only[VV,seval];refine⟨λh=>?_,λh=>?_⟩
   .simp only[aJ,cE]at h;have e:gh a b=some 1:=by simp[gh,d,<- f,h.1,h.2]
    exact c 1 true (by rw[e];rfl) (by rw[e];rfl) rfl rfl
   .refine aw (zj a _) rfl ?_;simp only[VV,seval]
    have e:gh a b=some (weight a):=by
     by_cases g:a.awb=6
     .have i:(im a==im b)=false:=by rw[g]at h;simpa using h
      simp only[gh,d,<- f,g,i,aI,aS,fc,eN,aT]
     .have j:a.awb=7\/a.awb=8\/a.awb=9\/a.awb=5:=by omega
      simp only[gh,d,<- f,g,j,aI,aS,fc,eN,aT]
    exact c (weight a) true (by rw[e];rfl) (by rw[e];rfl) rfl rfl
def adK{J:ak}{K:bl}(t:It)(l:List It)(m:cn J)(b:l.length<2^40):∀(rest pre:List It),l=pre++rest ->
  ((fj 5 (fh (.I (fe l t)) (fj 16 fo))) λi=>K (.exit 0) ⟨i,J++[.box 150 t.awa]⟩) ->
  fm J.length prog NH K (rest.length+1) ⟨(.sl 3 (l.map It.awa)::uu 2 (.ptr J.length 0::uu 1 (.I (fe pre t)::uu 2 (.I l.length::.I pre.length::uu 12 [])))),J++[.box 150 t.awa]⟩:=by
 intro rest
 induction rest with
 |nil =>
  intro pre a c;have a:=cN a
  subst a;refine ar λR f=>?_;simp only[NH,VV,seval];exact⟨λh=>by simp at h,λ_=>c ..⟩
 |cons x rest ih =>
  intro pre a c;subst a;have d:pre.length+1+rest.length<2^40:=by simp at b;omega
  have k:=sJ pre t
  have g:=dh pre x (by omega)
  have j:IntKind.i64.wrap (fe pre t+1)=fe pre t+1:=IntWalk.i64_in _ (by omega);refine ar λR f=>?_;simp only[NH,It.awa,VV,seval];refine⟨λ_=>⟨by simp;omega,?_⟩,λh=>by simp at h;omega⟩;refine aw (CO x t _) rfl ?_;simp only[g,j,VV,seval];refine⟨λh=>?_,λh=>?_⟩
  .have e:fe (pre++[x]) t=fe pre t+1:=by simp[Il,fe,h]
   exact f _ (aK (by rw[<- e];repeat' constructor) (ih (pre++[x]) (by simp) c))
  .have e:fe (pre++[x]) t=fe pre t:=by simp[Il,fe,h]
   exact f _ (aK (by rw[<- e];repeat' constructor) (ih (pre++[x]) (by simp) c))
def rj(l:List It)(t:It)(a:l.length<2^40)(J:ak):bM prog 221 [.sl 3 (l.map It.awa),.agg t.awa] J (.I (fe l t)):=by
 refine aZ func221 alb.2 λb c=>au ?_;simp only[alb,It.awa,SS,seval];simp only[ag,VV,seval];refine bZ.aK (fr':=(.sl 3 (l.map It.awa)::uu 2 (.ptr J.length 0::uu 1 (.I (fe [] t)::uu 2 (.I l.length::.I ([]:List It).length::uu 12 []))))) (by repeat' constructor) (l.length+1) (adK t l b a l [] rfl ?_);simp only[JE];intros;simp only[VV,seval];exact gq b (by simp only[RS,seval]) (by simp only[LW])

set_option maxRecDepth 4000
set_option maxHeartbeats 0
def Xw{J S:ak}{K:bl}(a b:List It)(i O:Nat)(cs:aB)(hT:Tb J S a b i O cs)(ha:a.length<2^30)(hb:b.length<2^30)(hi:i<=a.length):∀(j:Nat),j<=b.length+1 ->
  ((fh (.sl 3 (a.map It.awa)) (fh (.sl 3 (b.map It.awa)) (fj 3 (fh (.Af J.length (a.length+1)) (fh (.I i) (fj 124 fo)))))) λZZ=>K (.exit 2) ⟨ZZ,S.set O (lF (kH a b i 0))⟩) ->
  fm J.length prog CP K (j+1) ⟨(.sl 3 (a.map It.awa)::.sl 3 (b.map It.awa)::uu 3 (.Af J.length (a.length+1)::.I i::.I ((j:Int) - 1)::uu 123 [])),S.set O (lF (kH a b i j))⟩:=by
 intro j
 induction j with
 |zero =>
  intro hj h1;refine ar λR hR=>?_;simp only[CP,VV,seval];exact⟨λh=>by simp at h,λ_=>h1 ..⟩
 |succ j ih =>
  intro hj h1;have e1:((j+1:Nat):Int) - 1=(j:Int):=by omega
  refine ar λR hR=>?_;rw[e1];have g:((List.map It.awa b).length:Int)=(b.length:Int):=by simp
  have l:((List.map It.awa a).length:Int)=(a.length:Int):=by simp
  have p:IntKind.i64.wrap ((i:Int)+1)=((i+1:Nat):Int):=cm (by omega);have z:IntKind.i64.wrap ((j:Int)+1)=((j+1:Nat):Int):=cm (by omega);have d:IntKind.i64.wrap ((j:Int) - 1)=(j:Int) - 1:=IntWalk.i64_in _ (by omega)
  have B:∀x,(S.set O x)[J.length]?=some (.box 25 cs):=λx=>by
   rw[bz (by have:=hT.hri;omega)];exact hT.box
  have t:∀x,(S.set O x)[O]?=some x:=λx=>aL hT.hri.2;have r:∀x y,(S.set O x).set O y=S.set O y:=λx y=>YF ..;have k:decide ((0:Int)<=j)=true:=by simp
  have b1:=Zl a b (i+1) (j+1);have b2:=Zl a b (i+1) j;have b3:=Zl a b i (j+1);have w:=hT.own;have s:((kH a b i (j+1)).map bV).length=b.length+1:=by rw[ag,FC _ _ _ _ (by omega)]
  have q:∀v,((kH a b i (j+1)).map bV).set j [.I v]=((kH a b i (j+1)).set j v).map bV:=λv=>by rw[List.map_set];rfl
  have A:((kH a b i (j+1)).map bV).getD j []=[.I 0]:=Tj (by omega)
  have o:∀(v:Int) {fr:aB},ru a b i j=v->oJ fr (.sl 3 (a.map It.awa)::.sl 3 (b.map It.awa)::uu 3 (.Af J.length (a.length+1)::.I i::.I ((j:Int) - 1)::uu 123 [])) ->
    R ⟨fr,S.set O (.row 3 1 8 0 false (((kH a b i (j+1)).set j v).map bV))⟩:=λv fr n Q=>by
   rw[<- n,Xa (by omega)];exact hR _ (aK Q (ih (by omega) h1))
  by_cases ku:i<a.length
  .obtain⟨H,iR,Y⟩:=hT.below ku
   have F:∀x,(S.set O x)[O - 1]?=some (lF (kH a b (i+1) 0)):=λx=>by
    rw[bz (by have:=hT.hri;omega)];exact Y
   obtain⟨x,Z⟩:∃x,a[i]?=some x:=⟨_,ax ku⟩;have C:(a.map It.awa).getD i []=x.awa:=by simp[aq,Z]
   have f:decide ((i:Int)<a.length)=true:=by simp;omega
   have G:((kH a b (i+1) 0).map bV).length=b.length+1:=by rw[ag,FC _ _ _ _ (by omega)]
   have E:gj ((kH a b (i+1) 0).map bV) j 0=some (.I (ru a b (i+1) j)):=AF (by omega) (by omega);have sx:=iB x;have L:IntKind.i64.wrap (single x+ru a b (i+1) j)=single x+ru a b (i+1) j:=IntWalk.i64_in _ (by omega)
   by_cases U:j<b.length
   .obtain⟨u,W⟩:∃u,b[j]?=some u:=⟨_,ax U⟩;have D:(b.map It.awa).getD j []=u.awa:=by simp[aq,W]
    have e:decide ((j:Int)<b.length)=true:=by simp;omega
    have V:=ag3 Z W;have q1:gj ((kH a b (i+1) 0).map bV) (j+1) 0=some (.I (ru a b (i+1) (j+1))):=AF (by omega) (by omega);have M:gj ((kH a b i (j+1)).map bV) (j+1) 0=some (.I (ru a b i (j+1))):=AF (by omega) (by omega);have su:=iB u;have N:IntKind.i64.wrap (single u+ru a b i (j+1))=single u+ru a b i (j+1):=IntWalk.i64_in _ (by omega);simp only[g,l,k,f,e,C,D,It.awa,CP,VV,seval];refine⟨by omega,by omega,?_⟩;refine aw (Te x u _) rfl ?_;cases Q:gh x u with
    |none =>
     simp only[g,l,p,z,d,k,f,e,It.awa,ao,B,t,r,w,s,q,A,lF,C,F,H,G,E,L,Option.isSome,Option.getD,VV,seval];refine⟨by omega,by omega,by omega,?_⟩;refine aw (oW x _) rfl ?_;simp only[g,l,p,z,d,k,f,e,It.awa,ao,B,t,r,w,s,q,A,lF,C,F,H,G,E,L,D,M,N,VV,seval];refine⟨by omega,by omega,by omega,by omega,?_⟩;refine aw (oW u _) rfl ?_;cases m:decide (single u+ru a b i (j+1)<single x+ru a b (i+1) j)with
     |true =>
      simp only[g,l,p,z,d,k,f,e,It.awa,ao,B,t,r,w,s,q,A,lF,C,F,H,G,E,L,D,M,N,m,VV,seval]
      have n:ru a b i j=single u+ru a b i (j+1):=by
       simp only[aV,dB]at m;simp only[V,Q,cL,lJ,rq,m,aT,aS]
      exact⟨by omega,by omega,by omega,by omega,o _ n (by repeat' constructor)⟩
     |false =>
      simp only[g,l,p,z,d,k,f,e,It.awa,ao,B,t,r,w,s,q,A,lF,C,F,H,G,E,L,D,M,N,m,VV,seval]
      have n:ru a b i j=single x+ru a b (i+1) j:=by
       simp only[aV,dB]at m;simp only[V,Q,cL,lJ,rq,m,aT,aS]
      exact⟨by omega,by omega,by omega,by omega,o _ n (by repeat' constructor)⟩
    |some c =>
     have aa:=yH Q;have w1:IntKind.i64.wrap (c+ru a b (i+1) (j+1))=c+ru a b (i+1) (j+1):=IntWalk.i64_in _ (by omega);simp only[g,l,p,z,d,k,f,e,It.awa,ao,B,t,r,w,s,q,A,lF,C,F,H,G,E,L,q1,w1,Option.isSome,Option.getD,VV,seval];refine⟨by omega,by omega,by omega,by omega,by omega,?_⟩;refine aw (oW x _) rfl ?_;cases P:decide (single x+ru a b (i+1) j<c+ru a b (i+1) (j+1))with
     |true =>
      simp only[g,l,p,z,d,k,f,e,It.awa,ao,B,t,r,w,s,q,A,lF,C,F,H,G,E,L,D,M,N,P,VV,seval];refine⟨by omega,by omega,by omega,by omega,?_⟩;refine aw (oW u _) rfl ?_;cases m:decide (single u+ru a b i (j+1)<single x+ru a b (i+1) j)with
      |true =>
       simp only[g,l,p,z,d,k,f,e,It.awa,ao,B,t,r,w,s,q,A,lF,C,F,H,G,E,L,D,M,N,m,VV,seval]
       have n:ru a b i j=single u+ru a b i (j+1):=by
        simp only[aV,dB]at P m;simp only[V,Q,cL,lJ,rq,P,m,aT,aS]
       exact⟨by omega,by omega,by omega,by omega,o _ n (by repeat' constructor)⟩
      |false =>
       simp only[g,l,p,z,d,k,f,e,It.awa,ao,B,t,r,w,s,q,A,lF,C,F,H,G,E,L,D,M,N,m,VV,seval]
       have n:ru a b i j=single x+ru a b (i+1) j:=by
        simp only[aV,dB]at P m;simp only[V,Q,cL,lJ,rq,P,m,aT,aS]
       exact⟨by omega,by omega,by omega,by omega,o _ n (by repeat' constructor)⟩
     |false =>
      simp only[g,l,p,z,d,k,f,e,It.awa,ao,B,t,r,w,s,q,A,lF,C,F,H,G,E,L,D,M,N,P,VV,seval];refine⟨by omega,by omega,by omega,by omega,?_⟩;refine aw (oW u _) rfl ?_;cases m:decide (single u+ru a b i (j+1)<c+ru a b (i+1) (j+1))with
      |true =>
       simp only[g,l,p,z,d,k,f,e,It.awa,ao,B,t,r,w,s,q,A,lF,C,F,H,G,E,L,D,M,N,m,VV,seval]
       have n:ru a b i j=single u+ru a b i (j+1):=by
        simp only[aV,dB]at P m;simp only[V,Q,cL,lJ,rq,P,m,aT,aS]
       exact⟨by omega,by omega,by omega,by omega,o _ n (by repeat' constructor)⟩
      |false =>
       simp only[g,l,p,z,d,k,f,e,It.awa,ao,B,t,r,w,s,q,A,lF,C,F,H,G,E,L,D,M,N,m,VV,seval]
       have n:ru a b i j=c+ru a b (i+1) (j+1):=by
        simp only[aV,dB]at P m;simp only[V,Q,cL,lJ,rq,P,m,aT,aS]
       exact⟨by omega,by omega,by omega,by omega,o _ n (by repeat' constructor)⟩
   .have T:j=b.length:=by omega
    have e:decide ((j:Int)<b.length)=false:=by simp;omega
    simp only[g,l,k,f,e,C,It.awa,CP,VV,seval];have n:ru a b i j=single x+ru a b (i+1) j:=by rw[T];exact ac7 Z
    simp only[g,l,p,z,d,k,f,e,It.awa,ao,B,t,r,w,s,q,A,lF,C,F,H,G,E,L,VV,seval];refine⟨by omega,by omega,by omega,?_⟩;refine aw (oW x _) rfl ?_;simp only[g,l,p,z,d,k,f,e,It.awa,ao,B,t,r,w,s,q,A,lF,C,F,H,G,E,L,VV,seval];exact⟨by omega,by omega,by omega,by omega,o _ n (by repeat' constructor)⟩
  .have X:i=a.length:=by omega
   have f:decide ((i:Int)<a.length)=false:=by simp;omega
   by_cases U:j<b.length
   .obtain⟨u,W⟩:∃u,b[j]?=some u:=⟨_,ax U⟩;have D:(b.map It.awa).getD j []=u.awa:=by simp[aq,W]
    have e:decide ((j:Int)<b.length)=true:=by simp;omega
    have M:gj ((kH a b i (j+1)).map bV) (j+1) 0=some (.I (ru a b i (j+1))):=AF (by omega) (by omega);have su:=iB u;have N:IntKind.i64.wrap (single u+ru a b i (j+1))=single u+ru a b i (j+1):=IntWalk.i64_in _ (by omega);have n:ru a b i j=single u+ru a b i (j+1):=by rw[X];exact ag4 W
    simp only[g,l,k,f,e,D,It.awa,CP,VV,seval];simp only[g,l,p,z,d,k,f,e,It.awa,ao,B,t,r,w,s,q,A,lF,D,M,N,VV,seval];refine⟨by omega,by omega,by omega,?_⟩;refine aw (oW u _) rfl ?_;simp only[g,l,p,z,d,k,f,e,It.awa,ao,B,t,r,w,s,q,A,lF,D,M,N,VV,seval];exact⟨by omega,by omega,by omega,by omega,o _ n (by repeat' constructor)⟩
   .have T:j=b.length:=by omega
    have e:decide ((j:Int)<b.length)=false:=by simp;omega
    have n:ru a b i j=0:=by rw[X,T];exact ag5 a b
    simp only[g,l,k,f,e,It.awa,CP,VV,seval];simp only[g,l,p,z,d,k,f,e,It.awa,ao,B,t,r,w,s,q,A,lF,VV,seval];exact⟨by omega,by omega,by omega,o _ n (by repeat' constructor)⟩

set_option maxRecDepth 4000
set_option maxHeartbeats 0
def pY(a:Nat):Nat->aB
 |0=>[]
 |d+1=>.own (a+d) 0::pY a d
def vh(a b:List It)(d:Nat):ak:=(List.range d).map λq=>lF (kH a b (a.length - q) 0)
def Xd(a d:Nat):(pY a d).length=d:=by
 induction d with
 |zero=>rfl
 |succ d ih=>simp[pY,ih]
def re(a b:List It)(d:Nat):(vh a b d).length=d:=by simp[vh]
def CL(a b:List It)(d:Nat):vh a b (d+1)=vh a b d++[lF (kH a b (a.length - d) 0)]:=by
 simp[vh,La]
def P1{J:ak}(B:Ob)(l:ak)(y z:Ob):(J++B::(l++[z])).set (J.length+1+l.length) y=J++B::(l++[y]):=by
 rw[dA _ _ (by omega)];have:J.length+1+l.length - J.length=l.length+1:=by omega
 rw[this,iE,dA _ _ (aD _)];simp
def Xv{J:ak}{K:bl}(a b:List It)(P:a.length<2^30)(w:b.length<2^30):∀(s:Nat),s<=a.length+1 ->
  ((fj 5 (fh (.Af J.length (a.length+1)) (fj 125 fo))) λz=>K (.exit 0) ⟨z,J++(.box 25 (pY (J.length+1) (a.length+1))::vh a b (a.length+1))⟩) ->
  fm J.length prog NU K (s+1) ⟨(.sl 3 (a.map It.awa)::.sl 3 (b.map It.awa)::uu 3 (.Af J.length (a.length+1)::.I ((s:Int) - 1)::uu 124 [])),J++(.box 25 (List.replicate s .nil++pY (J.length+1) (a.length+1 - s))::vh a b (a.length+1 - s))⟩:=by
 intro s
 induction s with
 |zero =>
  intro D m;refine ar λR q=>?_;simp only[NU,Su,xG,VV,seval];exact⟨λh=>by simp at h,λ_=>m ..⟩
 |succ i ih =>
  intro D m;have F:((i+1:Nat):Int) - 1=(i:Int):=by omega
  have o:((List.map It.awa b).length:Int)=(b.length:Int):=by simp
  have x:IntKind.i64.wrap ((b.length:Int)+1)=((b.length+1:Nat):Int):=cm (by omega);have f:IntKind.i64.wrap ((i:Int) - 1)=(i:Int) - 1:=IntWalk.i64_in _ (by omega);have B:decide ((0:Int)<=i)=true:=by simp
  obtain⟨d,Q⟩:∃d,d=a.length - i:=⟨_,rfl⟩;have H:a.length+1 - (i+1)=d:=by omega
  refine ar λR q=>?_;rw[F,H];simp only[NU,o,x,B,f,ao,VV,seval];have u:((b.length+1:Nat):Int)<=maxLen:=gF (show _<=(2^62:Int)by omega) (by decide);refine⟨⟨by omega,Or.inl trivial,by omega,by omega,u⟩,by omega,by simp[Xd],?_⟩
  have E:List.take i (List.replicate (i+1) V.nil++pY (J.length+1) d)++V.own (J.length+((vh a b d).length+1)) 0::List.drop (i+1) (List.replicate (i+1) V.nil++pY (J.length+1) d)=List.replicate i V.nil++pY (J.length+1) (d+1):=by
   rw[dL (by simp),List.take_replicate,List.drop_append,List.drop_replicate,re];have A:min i (i+1)=i:=by omega
   have G:J.length+(d+1)=J.length+1+d:=by omega
   simp[pY,A,G]
  have n:List.replicate (b.length+1) [V.i .i64 0]=(kH a b i (b.length+1)).map bV:=by rw[Qy];simp[bV]
  rw[E,n]
  have M:J++Ob.box 25 (List.replicate i V.nil++pY (J.length+1) (d+1))::(vh a b d++[lF (kH a b i (b.length+1))]) =
    (J++Ob.box 25 (List.replicate i V.nil++pY (J.length+1) (d+1))::(vh a b d++[lF []])).set (J.length+1+d) (lF (kH a b i (b.length+1))):=by
   have:=P1 (J:=J) (Ob.box 25 (List.replicate i V.nil++pY (J.length+1) (d+1))) (vh a b d) (lF (kH a b i (b.length+1))) (lF []);rw[re]at this;exact this.symm
  have hT:Tb J (J++Ob.box 25 (List.replicate i V.nil++pY (J.length+1) (d+1))::(vh a b d++[lF []])) a b i (J.length+1+d) (List.replicate i V.nil++pY (J.length+1) (d+1)):=by
   refine⟨by simp,by simp[re];omega,by simp,?_,λS=>⟨?_,by omega,?_⟩⟩
   .rw[aU (by simp)];simp[pY]
   .obtain⟨e,rfl⟩:∃e,d=e+1:=⟨d - 1,by omega⟩;rw[aU (by simp)];simp[pY]
   .obtain⟨e,rfl⟩:∃e,d=e+1:=⟨d - 1,by omega⟩;have N:J.length+1+(e+1) - 1=J.length+(e+1):=by omega
    have r:a.length - e=i+1:=by omega
    rw[N,aU (by omega)];have y:J.length+(e+1) - J.length=e+1:=by omega
    rw[y,bX,ay (by simp[re]),CL,aU (by simp[re])];simp[re,r]
  have j:=Xw (K:=B8 2 (B8 1 (Lh (Fm J.length prog (bK.dv [] [{ d:=some 22,g:=[],i:=I.gm (O.t 6) },{ d:=some 23,g:=[],i:=I.bin BinOp.sub (O.t 22) (O.c (V.i IntKind.i64 1)) },{ d:=some 6,g:=[],i:=I.gm (O.t 23) }]) (Lj R K)) (Lj R K)))) a b i (J.length+1+d) _ hT P w (by omega) (b.length+1) (aD _) ?_
  .have L:((b.length+1:Nat):Int) - 1=(b.length:Int):=by omega
   rw[<- M,L]at j;refine bZ.aK (by repeat' constructor) (b.length+1+1) j
  .simp only[JE];intros;simp only[f,VV,seval];have l:=P1 (J:=J) (Ob.box 25 (List.replicate i V.nil++pY (J.length+1) (d+1))) (vh a b d) (lF (kH a b i 0)) (lF []);have v:a.length - d=i:=by omega
   have p:=CL a b d;rw[v]at p;rw[re]at l;rw[l,<- p];have C:a.length+1 - i=d+1:=by omega
   have k:=ih (by omega) m;rw[C]at k;exact q _ (aK (by repeat' constructor) k)
def Me(a b:List It)(n:Nat):ak:=.box 25 (pY (n+1) (a.length+1))::vh a b (a.length+1)
def Qe(a b:List It)(e:a.length<2^30)(j:b.length<2^30)(J:ak):PC prog 173 [.sl 3 (a.map It.awa),.sl 3 (b.map It.awa)] J (λr J'=>r=.Af J.length (a.length+1)/\J'=J++Me a b J.length):=by
 refine aZ func173 art λn m=>au ?_;simp only[alL,SS,seval];have l:IntKind.i64.wrap ((a.length:Int)+1)=((a.length+1:Nat):Int):=cm (by omega);have f:((a.length+1:Nat):Int)<=maxLen:=gF (show _<=(2^62:Int)by omega) (by decide);simp only[ag,l,ao,VV,seval];refine⟨⟨by omega,by omega,f⟩,?_⟩;have k:=Xv (J:=J) (K:=B8 0 (Lh (Fm J.length prog ((bK.dv [] [{ d:=some 130,g:=[],i:=I.gm (O.t 5) },{ d:=some 4,g:=[],i:=I.gm (O.t 130) }]).seq bK.ret) (rG prog J.length [Rs.t 4] λr J'=>r=V.Af J.length (a.length+1)/\J'=J++Me a b J.length)) (rG prog J.length [Rs.t 4] λr J'=>r=V.Af J.length (a.length+1)/\J'=J++Me a b J.length))) a b e j (a.length+1) (aD _) ?_
 .have c:((a.length+1:Nat):Int) - 1=(a.length:Int):=by omega
  have h:a.length+1 - (a.length+1)=0:=by omega
  rw[c,h]at k;simp only[pY,bL,vh,List.range_zero,bR]at k;exact bZ.aK (by repeat' constructor) (a.length+1+1) k
 .simp only[JE];intros;simp only[VV,seval];exact fH (.inr rfl) rfl (Wk.refl _ _) rfl ⟨rfl,rfl⟩

set_option maxRecDepth 4000
def Xu{J:ak}{K:bl}(a b:List It)(l:cn J)(u:a.length<2^27)(w:b.length<2^27):∀(rest pre:List It) (n:Int),a=pre++rest->0<=n/\n+xp a b pre rest<=2^60 ->
  ((fh (.sl 3 (a.map It.awa)) (fh (.sl 3 (b.map It.awa)) (fj 3 (fh (.I (n+xp a b pre rest)) (fj 66 fo))))) λr=>K (.exit 0) ⟨r,J⟩) ->
  fm J.length prog NT K (rest.length+1) ⟨(.sl 3 (a.map It.awa)::.sl 3 (b.map It.awa)::uu 3 (.I n::uu 5 (.sl 3 (a.map It.awa)::.I a.length::.I pre.length::uu 58 []))),J⟩:=by
 intro rest
 induction rest with
 |nil =>
  intro pre n e f c;have e:=cN e
  subst e;simp only[xp,Cb]at c;refine ar λR k=>?_;simp only[NT,VV,seval];exact⟨λh=>by simp at h,λ_=>c ..⟩
 |cons t rest ih =>
  intro pre n e f c;subst e;have g:pre.length+1+rest.length<2^27:=by simp at u;omega
  have m:=dh pre t (by omega)
  have s:(((pre++t::rest).map It.awa).take pre.length)=pre.map It.awa:=by rw[<- List.map_take];simp
  refine ar λR k=>?_;simp only[NT,It.awa,VV,seval];refine⟨λ_=>⟨by simp;omega,?_⟩,λh=>by simp at h;omega⟩;refine aw (AA t _) rfl ?_;simp only[s,VV,seval];refine⟨λ_=>⟨by omega,by simp;omega⟩,?_⟩;refine bB (by simp only[VV,seval]<;>rfl) (λ_=>rj pre t (by omega) _) rfl ?_;simp only[VV,seval];refine⟨λh=>?_,λh=>?_⟩
  .have y:=sJ (pre++t::rest) t;have z:=sJ b t
   have j:xp (pre++t::rest) b pre (t::rest)=qS (fe (pre++t::rest) t - fe b t)+xp (pre++t::rest) b (pre++[t]) rest:=by
    simp only[xp,h,aT]
   have q:=HP (pre++t::rest) b rest (pre++[t]);have x:=We (d:=fe (pre++t::rest) t - fe b t) (n:=(((pre++t::rest).length:Nat):Int)+b.length) (by omega);rw[j]at c f;refine aw (rj _ t (by omega) _) rfl ?_;simp only[VV,seval];refine aw (rj b t (by omega) _) rfl ?_;have o:IntKind.i64.wrap (fe (pre++t::rest) t - fe b t)=fe (pre++t::rest) t - fe b t:=IntWalk.i64_in _ (by omega);have v:IntKind.i64.wrap (0 - (fe (pre++t::rest) t - fe b t)) = -(fe (pre++t::rest) t - fe b t):=by rw[IntWalk.i64_in _ (by omega)];omega
   have p:IntKind.i64.wrap (n+qS (fe (pre++t::rest) t - fe b t))=n+qS (fe (pre++t::rest) t - fe b t):=IntWalk.i64_in _ (by omega);simp only[o,v,VV,seval];simp only[m];change R ⟨_::_::_::_::_::V.i .i64 (IntKind.i64.wrap (n+qS (fe (pre++t::rest) t - fe b t)))::_,_⟩;rw[p];exact k _ (uT [_] l (by repeat' constructor) (by simp[LW]) (ih (pre++[t]) (n+qS (fe (pre++t::rest) t - fe b t)) (by simp) (by omega) (by rw[SF];exact c)))
  .have j:xp (pre++t::rest) b pre (t::rest)=xp (pre++t::rest) b (pre++[t]) rest:=by
    simp only[xp,h,aI,aS,iK]
   rw[j]at c f;simp only[m];exact k _ (uT [_] l (by repeat' constructor) (by simp[LW]) (ih (pre++[t]) n (by simp) f c))
def Xt{J:ak}{K:bl}(a b:List It)(j:cn J)(r:a.length<2^27)(m:b.length<2^27):∀(rest pre:List It) (n:Int),b=pre++rest->0<=n/\n+y9 a b pre rest<=2^60 ->
  ((fj 5 (fh (.I (n+y9 a b pre rest)) (fj 66 fo))) λp=>K (.exit 2) ⟨p,J⟩) ->
  fm J.length prog NS K (rest.length+1) ⟨(.sl 3 (a.map It.awa)::.sl 3 (b.map It.awa)::uu 3 (.I n::uu 36 (.sl 3 (b.map It.awa)::.I b.length::.I pre.length::uu 27 []))),J⟩:=by
 intro rest
 induction rest with
 |nil =>
  intro pre n d e c;have d:=cN d
  subst d;simp only[y9,Cb]at c;refine ar λR i=>?_;simp only[NS,VV,seval];exact⟨λh=>by simp at h,λ_=>c ..⟩
 |cons t rest ih =>
  intro pre n d e c;subst d;have f:pre.length+1+rest.length<2^27:=by simp at m;omega
  have k:=dh pre t (by omega)
  have q:(((pre++t::rest).map It.awa).take pre.length)=pre.map It.awa:=by rw[<- List.map_take];simp
  refine ar λR i=>?_;simp only[NS,It.awa,VV,seval];refine⟨λ_=>⟨by simp;omega,?_⟩,λh=>by simp at h;omega⟩;refine aw (AA t _) rfl ?_;simp only[q,VV,seval];refine⟨λ_=>⟨by omega,by simp;omega⟩,?_⟩;refine bB (by simp only[VV,seval]<;>rfl) (λ_=>rj pre t (by omega) _) rfl ?_;simp only[VV,seval];refine bB (by simp only[VV,seval]<;>rfl) (λ_=>rj a t (by omega) _) rfl ?_;simp only[VV,seval];refine⟨λh=>?_,λh=>?_⟩
  .have s:=sJ (pre++t::rest) t
   have g:y9 a (pre++t::rest) pre (t::rest)=fe (pre++t::rest) t+y9 a (pre++t::rest) (pre++[t]) rest:=by
    simp only[y9,h,aT]
   have o:=HO a (pre++t::rest) rest (pre++[t]);rw[g]at c e;refine aw (rj _ t (by omega) _) rfl ?_;have l:IntKind.i64.wrap (n+fe (pre++t::rest) t)=n+fe (pre++t::rest) t:=IntWalk.i64_in _ (by omega);simp only[l,k,VV,seval];exact i _ (uT [_] j (by repeat' constructor) (by simp[LW]) (ih (pre++[t]) (n+fe (pre++t::rest) t) (by simp) (by omega) (by rw[SF];exact c)))
  .have g:y9 a (pre++t::rest) pre (t::rest)=y9 a (pre++t::rest) (pre++[t]) rest:=by
    simp only[y9,h,aI,aS,iK]
   rw[g]at c e;simp only[k];exact i _ (uT [_] j (by repeat' constructor) (by simp[LW]) (ih (pre++[t]) n (by simp) e c))
def UU(a b:List It)(f:a.length<2^27)(e:b.length<2^27):0<=xp a b [] a/\xp a b [] a<=2^58/\0<=y9 a b [] b/\y9 a b [] b<=2^58:=by
 have c:=HP a b a [];have g:=HO a b b [];have d:(a.length:Int)*((a.length:Int)+b.length)<=2^28*2^28:=Df (by omega) (by omega) (by omega) (by omega);have h:(b.length:Int)*((a.length:Int)+b.length)<=2^28*2^28:=Df (by omega) (by omega) (by omega) (by omega);omega
def Ln(a b:List It)(c:a.length<2^27)(d:b.length<2^27)(J:ak):bM prog 174 [.sl 3 (a.map It.awa),.sl 3 (b.map It.awa)] J (.I (u3 a b)):=by
 refine aZ func174 ars λe f=>au ?_;simp only[alK,SS,seval];simp only[ag,VV,seval];have g:=UU a b c d;refine bZ.aK (fr':=(.sl 3 (a.map It.awa)::.sl 3 (b.map It.awa)::uu 3 (.I 0::uu 5 (.sl 3 (a.map It.awa)::.I a.length::.I ([]:List It).length::uu 58 [])))) (by repeat' constructor) (a.length+1) (Xu a b e c d a [] 0 rfl (by omega) ?_);simp only[JE];intros;simp only[ag,VV,seval];refine bZ.aK (fr':=(.sl 3 (a.map It.awa)::.sl 3 (b.map It.awa)::uu 3 (.I (0+xp a b [] a)::uu 36 (.sl 3 (b.map It.awa)::.I b.length::.I ([]:List It).length::uu 27 [])))) (by repeat' constructor) (b.length+1) (Xt a b e c d b [] (0+xp a b [] a) rfl (by omega) ?_);simp only[JE];intros;simp only[ag,VV,seval];exact aO (.inr rfl) (by simp only[RS,seval];rfl) ⟨by simp[u3,Pm.one],rfl⟩
def agD(a b:List It):Int:=tv a b+2*u3 a b
def IQ(a b:List It)(j:a.length<2^27)(f:b.length<2^27)(J:ak):bM prog 111 [.sl 3 (a.map It.awa),.sl 3 (b.map It.awa)] J (.I (agD a b)):=by
 refine aZ func111 amp.2 λm q=>au ?_;simp only[amp,SS,seval];simp only[VV,seval];refine cD (Qe a b (by omega) (by omega) _) rfl ?_;rintro _ _ ⟨rfl,rfl⟩;have k:(Me a b J.length)[0]?=some (.box 25 (pY (J.length+1) (a.length+1))):=rfl;have h:(pY (J.length+1) (a.length+1))[0]?=some (.own (J.length+1+a.length) 0):=rfl
 have c:(J++Me a b J.length)[J.length+1+a.length]?=some (lF (kH a b 0 0)):=by
  rw[aU (by omega)];have e:J.length+1+a.length - J.length=a.length+1:=by omega
  rw[e];simp[Me,CL,re,aU]
 have d:gj ((kH a b 0 0).map bV) 0 0=some (.I (tv a b)):=by
  have:=AF (a:=a) (b:=b) (i:=0) (fA 0) (fA _);simpa[ru]using this
 have g:((kH a b 0 0).map bV).length=b.length+1:=by rw[ag,FC _ _ _ _ (by omega)]
 have o:=Dk a b;have n:=UU a b j f;have l:IntKind.i64.wrap (2*u3 a b)=2*u3 a b:=IntWalk.i64_in _ (by unfold u3;omega);have p:IntKind.i64.wrap (tv a b+2*u3 a b)=tv a b+2*u3 a b:=IntWalk.i64_in _ (by unfold u3;omega);simp only[k,h,c,d,g,lF,VV,seval];refine⟨by omega,by omega,?_⟩;refine aw (Ln a b j f _) rfl ?_;simp only[k,h,c,d,g,l,p,lF,VV,seval];refine⟨⟨by omega,by omega⟩,?_⟩;exact gq m (by simp only[RS,seval];rfl) (by simp only[LW])
def Tf(a b:List It)(e:a.length<2^27)(c:b.length<2^27)(J:ak):bM prog 110 [.sl 3 (a.map It.awa),.sl 3 (b.map It.awa)] J (.I (kJ a b)):=by
 refine aZ func110 amq.2 λf d=>au ?_;simp only[amq,SS,seval];simp only[VV,seval];refine aw (GG a (by omega) _) rfl ?_;simp only[VV,seval];refine aw (GG b (by omega) _) rfl ?_;simp only[VV,seval];exact aO (.inr rfl) rfl ⟨rfl,rfl⟩
def Wt{t z:Int}(g:0<t):(-(100*max z (-z))<=(100*z).tdiv t/\(100*z).tdiv t<=100*max z (-z))/\(if 0<(100*z).tdiv t then(100*z).tdiv t else 0)=(100*mx z 0).tdiv t:=by
 by_cases c:z<0
 .have d:(100*z) = -(100 * -z):=by omega
  have b:(100*z).tdiv t = -((100 * -z) / t):=by
   rw[d,Int.neg_tdiv,eY (by omega)]
  have e:0<=(100 * -z) / t:=Bl (by omega) (by omega);have f:(100 * -z) / t<=100 * -z:=HL _ (by omega);have a:mx z 0=0:=by unfold mx;rw[az c]
  rw[a,b];refine⟨by omega,?_⟩;rw[an (by omega)];simp
 .have a:mx z 0=z:=by unfold mx;rw[an c]
  have b:(100*z).tdiv t=(100*z) / t:=eY (by omega);have e:0<=(100*z) / t:=Bl (by omega) (by omega);have f:(100*z) / t<=100*z:=HL _ (by omega);rw[a,b];refine⟨by omega,?_⟩;split<;>omega
def Lp(a b:List It)(e:a.length<2^27)(f:b.length<2^27)(J:ak):bM prog 52 [.sl 3 (a.map It.awa),.sl 3 (b.map It.awa)] J (.I (eX a b)):=by
 refine aZ func52 p52.2 λn m=>au ?_;simp only[p52,SS,seval];simp only[VV,seval];refine aw (Tf a b e f _) rfl ?_;simp only[VV,seval];have l:=Bc a b;have d:agD a b=lI a b:=(EP a b).symm;have k:=Km a b;refine⟨λh=>?_,λh=>?_⟩
 .have c:kJ a b=0:=by simpa using h
  exact aO (.inr rfl) rfl ⟨by simp[eX,c,Pm.one],rfl⟩
 .have c:kJ a b≠0:=by simpa using h
  refine aw (IQ a b e f _) rfl ?_;rw[d];have g:IntKind.i64.wrap (kJ a b - lI a b)=kJ a b - lI a b:=IntWalk.i64_in _ (by omega);have j:IntKind.i64.wrap (100*(kJ a b - lI a b))=100*(kJ a b - lI a b):=IntWalk.i64_in _ (by omega);simp only[g,j,VV,seval];have i:=Wt (t:=kJ a b) (z:=kJ a b - lI a b) (by omega);refine⟨c,?_⟩;rw[IntWalk.i64_in ((100*(kJ a b - lI a b)).tdiv (kJ a b)) (by omega),i.2];exact aO (.inr rfl) (by simp only[RS,seval];rfl) ⟨by simp only[Pm.one,eX,c,aS],rfl⟩
def Lq(e:En)(q:Qr)(J:ak):bM prog 55 [.agg e.awa,.agg q.awa] J (.I (kf e q)):=by
 refine aZ func55 p55.2 λf g=>au ?_;simp only[p55,SS,seval];simp only[En.awa,Qr.awa,VV,seval];have c:IntKind.i64.wrap 1=1:=by decide
 have d:IntKind.i64.wrap (1+1)=2:=by decide
 simp only[c,d]
 refine⟨λb=>⟨λa=>?_,λa=>?_⟩,λb=>⟨λa=>?_,λa=>?_⟩⟩ <;>
  exact bg f (.inr rfl) (by simp only[RS,seval];rfl) (by simp only[LW]) ⟨by have b:=(show Kj _ _=_ from b);have a:=(show Kj _ _=_ from a);simp[kf,b,a,Pm.one],rfl⟩
def W1(d c a:Int)(j : -9223372036854775808<=d/\d<=9223372036854775807)(k : -9223372036854775808<=c/\c<=9223372036854775807)(g : -9223372036854775808<=a/\a<=9223372036854775807)(J:ak):
  bM prog 178 [.I d,.I c,.I a] J (.b (decide (a<=0)||decide (a<=d - c))):=by
 refine aZ func178 alG.2 λl i=>au ?_;simp only[alG,SS,seval];simp only[VV,seval];refine aO (.inr rfl) (by simp only[RS,seval];rfl) ⟨?_,rfl⟩;simp only[Pm.one,V.b.injEq]
 by_cases h:a<=0
 .simp[h]
 .have f:IntKind.i64.wrap (-9223372036854775808+a) = -9223372036854775808+a:=IntWalk.i64_in _ (by omega);have e:decide (a<=0)=false:=by simpa using h
  rw[cB];simp only[e,f,iY,aJ,aV,IntKind.wrap_i64];omega
def aco(a b c d e f g:Bool):((a||b)&&(c||d)&&(e||f)&&g)=if(!a&&!b)=true then false else if((!c&&!d)||(!e&&!f))=true then false else g:=by
 cases a<;>cases b<;>cases c<;>cases d<;>cases e<;>cases f<;>cases g<;>rfl
def Lm(p:Pn)(e:En)(a:Int)(g : -9223372036854775808<=a/\a<=9223372036854775807)(f : -9223372036854775808<=e.awh/\e.awh<=9223372036854775807)(c : -9223372036854775808<=p.iN/\p.iN<=9223372036854775807)(J:ak):
  bM prog 113 [.agg p.awa,.agg e.awa,.I a] J (.b (qx p e a)):=by
 refine aZ func113 amn.2 λd h=>au ?_;simp only[amn,SS,seval];simp only[Pn.awa,En.awa,VV,seval];refine bB (by simp only[VV,seval]<;>rfl) (λ_=>W1 a e.awh p.iN g f c _) rfl ?_;simp only[VV,seval];refine bg d (.inr rfl) (by simp only[RS,seval];rfl) (by simp only[LW]) ⟨?_,rfl⟩;simp only[Pm.one,V.b.injEq];exact aco _ _ _ _ _ _ _
def ahD{J:ak}{K:bl}(e:En)(a:Int)(q:cn J)(v : -9223372036854775808<=a/\a<=9223372036854775807)(x : -9223372036854775808<=e.awh/\e.awh<=9223372036854775807)
  (l:List Pn) (b:l.length<2^40) (u:∀p∈l,-9223372036854775808<=p.iN/\p.iN<=9223372036854775807):∀(rest pre:List Pn) (s:Int),l=pre++rest->0<=s/\s<=100 ->
  ((fj 7 (fh (.I (pF e a s rest)) (fj 21 fo))) λr=>K (.exit 0) ⟨r,J++[.box 37 e.awa]⟩) ->
  fm J.length prog Vf K (rest.length+1) ⟨(uu 2 (.I a::uu 1 (.ptr J.length 0::uu 2 (.I s::uu 2 (.sl 5 (l.map Pn.awa)::.I l.length::.I pre.length::uu 16 []))))),J++[.box 37 e.awa]⟩:=by
 intro rest
 induction rest with
 |nil =>
  intro pre s c n d;have c:=cN c
  subst c;refine ar λR j=>?_;simp only[Vf,VV,seval];exact⟨λh=>by simp at h,λ_=>d ..⟩
 |cons p rest ih =>
  intro pre s c n d;subst c;have i:pre.length+1+rest.length<2^40:=by simp at b;omega
  have t:=dh pre p (by omega)
  have k:cn (J++[.box 37 e.awa]):=cC q (by simp[En.awa,LW]);refine ar λR j=>?_;simp only[Vf,Pn.awa,En.awa,VV,seval];refine⟨λ_=>⟨by simp;omega,?_⟩,λh=>by simp at h;omega⟩;refine aw (Lm p e a v x (u p (by simp)) _) (by simp only[Pn.awa,En.awa,VV,seval]) ?_;simp only[t,VV,seval];have y:0<=(if(if 0<p.points then p.points else 0)<100 then(if 0<p.points then p.points else 0)else 100)/\(if(if 0<p.points then p.points else 0)<100 then(if 0<p.points then p.points else 0)else 100)<=100:=by(repeat' split)<;>omega
  refine⟨λg=>?_,λg=>?_⟩
  .have w:IntKind.i64.wrap (s+if(if 0<p.points then p.points else 0)<100 then(if 0<p.points then p.points else 0)else 100)=s+if(if 0<p.points then p.points else 0)<100 then(if 0<p.points then p.points else 0)else 100:=IntWalk.i64_in _ (by omega)
   have f:(if(s+if(if 0<p.points then p.points else 0)<100 then(if 0<p.points then p.points else 0)else 100)<100 then(s+if(if 0<p.points then p.points else 0)<100 then(if 0<p.points then p.points else 0)else 100)else 100) =
     if(decide (0<p.points)&&qx p e a)=true then mn (s+mn p.points 100) 100 else s:=by
    rw[g,df]
    by_cases m:0<p.points
    .simp only[m,aT,fW,mn];(repeat' split)<;>omega
    .simp only[m,aS,xF,aI];(repeat' split)<;>omega
   have o:0<=(if(decide (0<p.points)&&qx p e a)=true then mn (s+mn p.points 100) 100 else s)/\(if(decide (0<p.points)&&qx p e a)=true then mn (s+mn p.points 100) 100 else s)<=100:=by
    rw[<- f];(repeat' split)<;>omega
   rw[w,f];exact j _ (cG [_] [_] k (by repeat' constructor) (by simp[LW]) (ih (pre++[p]) _ (by simp) o (by simpa only[pF]using d)))
  .have f:(if(decide (0<p.points)&&qx p e a)=true then mn (s+mn p.points 100) 100 else s)=s:=by rw[g,gB];simp
   exact j _ (cG [_] [_] k (by repeat' constructor) (by simp[LW]) (ih (pre++[p]) s (by simp) n (by simpa only[pF,f]using d)))
def Nw(l:List Pn)(e:En)(a:Int)(g : -9223372036854775808<=a/\a<=9223372036854775807)(f : -9223372036854775808<=e.awh/\e.awh<=9223372036854775807)
  (b:l.length<2^40) (d:∀p∈l,-9223372036854775808<=p.iN/\p.iN<=9223372036854775807) (J:ak):bM prog 54 [.sl 5 (l.map Pn.awa),.agg e.awa,.I a] J (.I (lL l e a)):=by
 refine aZ func54 p54.2 λc h=>au ?_;simp only[p54,SS,seval];simp only[En.awa,ag,VV,seval];refine bZ.aK (fr':=(uu 2 (.I a::uu 1 (.ptr J.length 0::uu 2 (.I 0::uu 2 (.sl 5 (l.map Pn.awa)::.I l.length::.I ([]:List Pn).length::uu 16 [])))))) (by repeat' constructor) (l.length+1) (ahD e a c g f l b d l [] 0 rfl (by omega) ?_);simp only[JE];intros;simp only[VV,seval];exact gq c (by simp only[RS,seval];rfl) (by simp only[LW])
def ahy{J:ak}{K:bl}(q:cn J)(l:List Pn)(c:l.length<2^40):∀(rest pre:List Pn),l=pre++rest ->
  (lM rest≠0->∀loc,((fj 2 (fh (.I (lM rest)) (fj 50 fo))) λi=>K .ret ⟨i,J++loc⟩))->(lM rest=0->((fj 53 fo) λi=>K (.exit 0) ⟨i,J⟩)) ->
  fm J.length prog U8 K (rest.length+1) ⟨(uu 8 (.sl 5 (l.map Pn.awa)::.I l.length::.I pre.length::uu 42 [])),J⟩:=by
 intro rest
 induction rest with
 |nil =>
  intro pre b a e;have b:=cN b
  subst b;refine ar λR n=>?_;simp only[U8,VV,seval];exact⟨λh=>by simp at h,λ_=>e rfl ..⟩
 |cons p rest ih =>
  intro pre b a e;subst b;have j:pre.length+1+rest.length<2^40:=by simp at c;omega
  have r:=dh pre p (by omega)
  refine ar λR n=>?_;simp only[U8,Pn.awa,VV,seval];refine⟨λ_=>⟨by simp;omega,?_⟩,λh=>by simp at h;omega⟩;refine⟨λf=>?_,λf=>?_⟩
  .have b:oX p=1:=by
    simp only[eD,aV]at f;unfold oX;rw[az (by omega)]
   have d:lM (p::rest)=1:=by simp[lM,b]
   rw[d]at a;exact a (by decide) _ ..
  .have m:¬(p.awq<0\/3<p.awq\/p.iN<0\/1073741824<p.iN\/p.points<0\/100<p.points):=by
    simp only[iv,dB]at f;omega
   refine aw (qc p.c8 _) rfl ?_;simp only[VV,seval];refine bB (by simp only[VV,seval]<;>rfl) (λ_=>qc p.cA _) rfl ?_;simp only[r,VV,seval]
   have o:((!named p.c8)||(!named p.cA))=!(named p.c8&&named p.cA):=by
    cases named p.c8<;>cases named p.cA<;>rfl
   rw[o];refine⟨λk=>?_,λk=>?_⟩
   .have d:lM (p::rest)=4:=by
     have:oX p=4:=by
      unfold oX;rw[an m,az (by cases g:named p.c8&&named p.cA<;>simp[g]at k |-)]
     simp[lM,this]
    rw[d]at a;exact a (by decide) _ ..
   .have d:lM (p::rest)=lM rest:=by
     have:oX p=0:=by
      unfold oX;rw[an m,an (by cases g:named p.c8&&named p.cA<;>simp[g]at k |-)]
     simp[lM,this]
    rw[d]at a e;exact n _ (uT [_] q (by repeat' constructor) (by simp[LW]) (ih (pre++[p]) (by simp) a e))
def x6(l:List Pn)(a:l.length<2^40)(J:ak):bM prog 77 [.sl 5 (l.map Pn.awa)] J (.I (rk l)):=by
 refine aZ func77 p77.2 λc f=>au ?_;simp only[p77,SS,seval];simp only[ag,VV,seval];refine⟨λh=>?_,λh=>?_⟩
 .exact aO (.inr rfl) rfl ⟨by simp only[aV]at h;simp[rk,h,Pm.one],rfl⟩
 .have b:¬((16:Int)<l.length):=by simpa using h
  refine bZ.aK (fr':=(uu 8 (.sl 5 (l.map Pn.awa)::.I l.length::.I ([]:List Pn).length::uu 42 []))) (by repeat' constructor) (l.length+1) (ahy c l a l [] rfl (λg e=>?_) (λd=>?_))
  .simp only[JE];intros;simp only[VV,seval];exact gq c (by simp only[RS,seval,rk,b,aS]) (by simp only[LW])
  .simp only[JE];intros;simp only[VV,seval];exact aO (.inr rfl) (by simp only[RS,seval];rfl) ⟨by simp only[rk,b,aS,d,Pm.one],rfl⟩
def BY(q:Qr)(h1:q.bU.length<2^30)(g:q.next.length<2^30)(J:ak):bM prog 16 [.agg q.awa] J (.I (fi q)):=by
 refine aZ func16 p16.2 λc i=>au ?_;simp only[p16,SS,seval];simp only[Qr.awa,VV,seval];refine aw (jo q.awc _) rfl ?_;simp only[VV,seval];refine⟨λh=>?_,λh=>?_⟩
 .have a:cd q.awc≠0:=by simpa using h
  exact bg c (.inr rfl) (by simp only[RS,seval];rfl) (by simp only[LW]) ⟨by simp[fi,a,Pm.one],rfl⟩
 have a:cd q.awc=0:=by simpa using h
 refine⟨λh=>?_,λh=>?_⟩
 .have b:q.awc=[]:=by simpa using h
  exact bg c (.inr rfl) (by simp only[RS,seval];rfl) (by simp only[LW]) ⟨by rw[b]at a;simp[fi,a,b,Pm.one],rfl⟩
 have b:¬q.awc.length=0:=by simpa using h
 refine aw (mY q.bU h1 _) rfl ?_;simp only[VV,seval];refine⟨λh=>?_,λh=>?_⟩
 .have d:(parse q.bU).2.2≠0:=by simpa using h
  exact bg c (.inr rfl) (by simp only[RS,seval];rfl) (by simp only[LW]) ⟨by simp only[fi,a,b,d,Pm.one,fc,eN,cP,aT,aS],rfl⟩
 have d:(parse q.bU).2.2=0:=by simpa using h
 refine aw (mY q.next g _) rfl ?_;simp only[VV,seval];refine⟨λh=>?_,λh=>?_⟩
 .have e:(parse q.next).2.2≠0:=by simpa using h
  exact bg c (.inr rfl) (by simp only[RS,seval];rfl) (by simp only[LW]) ⟨by simp only[fi,a,b,d,e,Pm.one,fc,eN,cP,aT,aS],rfl⟩
 have e:(parse q.next).2.2=0:=by simpa using h
 refine⟨λh=>?_,λh=>?_⟩
 .have f:q.now<0\/1073741824<q.now\/q.threshold<1\/102<q.threshold\/q.gJ<1\/100<q.gJ:=by
   simp only[eD,aV]at h;omega
  exact bg c (.inr rfl) (by simp only[RS,seval];rfl) (by simp only[LW]) ⟨by simp only[fi,a,b,d,e,f,Pm.one,fc,eN,cP,aT,aS],rfl⟩
 .have f:¬(q.now<0\/1073741824<q.now\/q.threshold<1\/102<q.threshold\/q.gJ<1\/100<q.gJ):=by
   simp only[iv,dB]at h;omega
  exact bg c (.inr rfl) (by simp only[RS,seval];rfl) (by simp only[LW]) ⟨by simp only[fi,a,b,d,e,f,Pm.one,fc,eN,cP,aT,aS],rfl⟩
def Qd(e:En)(l:List Pn)(q:Qr)(h:UB e l q)(h1:e.awc.length<2^38)(j:bd e.awc<2^38)(k:q.awc.length<2^38)(m:bd q.awc<2^38)(i:(dz e.awc).length<2^27)(f:(dz q.awc).length<2^27)(J:ak):
  bM prog 21 [.agg e.awa,.sl 5 (l.map Pn.awa),.agg q.awa] J (.agg (qL e l q).awa):=by
 refine aZ func21 p21.2 λg p=>au ?_;simp only[p21,SS,seval];simp only[Qr.awa,En.awa,VV,seval];intro t;refine aw (DM e.awc h1 j _) rfl ?_;simp only[VV,seval];intro u;refine aw (DM q.awc k m _) rfl ?_;simp only[VV,seval];intro o;refine aw (Lp _ _ i f _) rfl ?_;simp only[VV,seval];intro r;refine aw (Nw l e q.now h.now h.awh h.len h.iN _) (by simp only[En.awa,VV,seval]) ?_;have n:=wL (dz e.awc) (dz q.awc) (Kn _ _ i f).1;have s:0<=lL l e q.now/\lL l e q.now<=100:=zk e q.now l 0 (by omega);have v:=xi e q;have d:∀x:Int,(if 0<x then x else 0)=mx x 0:=λx=>by unfold mx;(repeat' split)<;>omega
 simp only[VV,seval];refine⟨λb=>?_,λb=>?_⟩
 .have h1:eX (dz e.awc) (dz q.awc)=100:=by simpa using b
  refine aw (Lq e q _) (by simp only[En.awa,Qr.awa,VV,seval]) ?_;have a:IntKind.i64.wrap (eX (dz e.awc) (dz q.awc)+kf e q)=eX (dz e.awc) (dz q.awc)+kf e q:=IntWalk.i64_in _ (by omega);have c:IntKind.i64.wrap (eX (dz e.awc) (dz q.awc)+kf e q - lL l e q.now)=eX (dz e.awc) (dz q.awc)+kf e q - lL l e q.now:=IntWalk.i64_in _ (by omega);simp only[a,c,d,VV,seval];exact bg g (.inr rfl) (by simp only[RS,seval];rfl) (by simp only[LW]) ⟨by simp only[qL,jB,Mt.awa,h1,Pm.one,aT],rfl⟩
 .have h1:¬eX (dz e.awc) (dz q.awc)=100:=by simpa using b
  have a:IntKind.i64.wrap (eX (dz e.awc) (dz q.awc)+0)=eX (dz e.awc) (dz q.awc)+0:=IntWalk.i64_in _ (by omega);have c:IntKind.i64.wrap (eX (dz e.awc) (dz q.awc)+0 - lL l e q.now)=eX (dz e.awc) (dz q.awc)+0 - lL l e q.now:=IntWalk.i64_in _ (by omega);simp only[a,c,d,VV,seval];exact bg g (.inr rfl) (by simp only[RS,seval];rfl) (by simp only[LW]) ⟨by simp only[qL,jB,Mt.awa,h1,Pm.one,aS],rfl⟩
end Go.Proofs.Tryz

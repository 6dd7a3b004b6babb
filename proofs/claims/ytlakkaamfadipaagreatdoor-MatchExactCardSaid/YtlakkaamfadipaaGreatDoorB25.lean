/- A part of a proof; the claim's last text says of what. -/
import Derived.Test.YtlakkaamfadipaaGreatDoorB18
import Derived.Test.YtlakkaamfadipaaGreatDoorB24
set_option linter.all false

namespace Go.Proofs.Tryz
open Go Go.Pm Go.Bt
def Im:Ti prog 150 3 32:=qJ (by kernel_rfl)
def aau{J:ak}{K:bl}(o m F10 F11:V)(l:Ob):∀(N:Nat) (s:aG) (b:dF) (g:Nat),s.length<=N->s.length<2^61->b.length+s.length<2^40 ->
  (∀g,((fh (o) (fj 2 (fh (.own J.length g) (fj 5 (fh (m) (fh (F10) (fh (F11) (fj 38 fo)))))))) λt=>K (.exit 3) ⟨t,J++[.row 150 3 32 g false (b++(nJ s).map It.awa),l]⟩)) ->
  fm J.length prog Mz K (N+1) ⟨(o::uu 2 (.own J.length g::uu 2 (.s s::uu 2 (m::F10::F11::uu 38 [])))),J++[.row 150 3 32 g false b,l]⟩:=by
 intro N
 induction N with
 |zero =>
  intro s b g d f n a;have d:s=[]:=aW (by omega);subst d;have e:(nJ []).map It.awa=[]:=rfl;rw[e,bL]at a;refine ar λR j=>?_;simp only[Mz,VV,seval];exact a g ..
 |succ N ih =>
  intro s b g d f n a;cases s with
  |nil =>
   have e:(nJ []).map It.awa=[]:=rfl;rw[e,bL]at a;refine ar λR j=>?_;simp only[Mz,VV,seval];exact a g ..
  |cons c r =>
   have p:c::r≠[]:=by simp
   have u:=tO (c::r);have k:=Ji p;rw[G8 p]at a;refine ar λR j=>?_;simp only[Mz,VV,seval];refine⟨λ_=>?_,λh=>by simp at h⟩;refine aw (SL c r (by simp at f;omega) _) rfl ?_;simp only[VV,seval];simp only[ai]at k n f d;have q:List.take (r.length+1 - (gP (c::r)).2) (List.drop (gP (c::r)).2 (c::r))=(c::r).drop (gP (c::r)).2:=bW (by simp);rw[q];refine⟨⟨by omega,by omega⟩,⟨by omega,by simp only[maxLen];omega⟩,⟨by omega,by omega,by omega⟩,?_⟩;refine j _ (aK ?_ (ih ((c::r).drop (gP (c::r)).2) (b++[[V.i .i64 (gP (c::r)).1,V.s (List.take (gP (c::r)).2 (c::r)),V.i .i64 0]]) (g+1) (by simp;omega) (by simp;omega) (by simp;omega) (by simpa[It.awa]using a)))
   repeat' constructor
def aat{J:ak}{K:bl}(b:List It)(z:cn J)(c:b.length<2^38)(N:bd b<2^38):∀(rest pre:List It) (out:List It) (g:Nat),b=pre++rest->out.length<=pre.length+(bd b - bd rest) ->
  (∀g,((fj 3 (fh (.own J.length g) (fj 46 fo))) λH=>K (.exit 0) ⟨H,J++[.row 150 3 32 g false ((out++dz rest).map It.awa)]⟩)) ->
  fm J.length prog I1 K (rest.length+1) ⟨(.sl 3 (b.map It.awa)::uu 2 (.own J.length g::uu 5 (.sl 3 (b.map It.awa)::.I b.length::.I pre.length::uu 38 []))),J++[.row 150 3 32 g false (out.map It.awa)]⟩:=by
 intro rest
 induction rest with
 |nil =>
  intro pre out g i B l;have i:=cN i
  subst i;have e:out++dz []=out:=by simp[dz]
  rw[e]at l;refine ar λR f=>?_;simp only[I1,VV,seval];exact⟨λh=>by simp at h,λ_=>l g ..⟩
 |cons x rest ih =>
  intro pre out g i B l;subst i
  have p:=dh pre x (by simp at c;omega)
  have C:bd (x::rest)=x.awd.length+bd rest:=rfl;have q:=Am pre (x::rest);have u:pre.length+1+rest.length<2^38:=by simp at c;omega
  have e:out++dz (x::rest)=(out++pM x)++dz rest:=by simp[dz]
  rw[e]at l;have F:∀g o,cn (J++[.row 150 3 32 g false o]):=λg o=>cC z (by simp)
  have a:∀{v:aB} {R:ca} (g:Nat),(∀m,fm J.length prog I1 K (rest.length+1) m->R m)->oJ v (.sl 3 ((pre++x::rest).map It.awa)::uu 2 (.own J.length g::uu 5 (.sl 3 ((pre++x::rest).map It.awa)::.I (pre++x::rest).length::.I (pre++[x]).length::uu 38 []))) ->
    R ⟨v,J++[.row 150 3 32 g false ((out++pM x).map It.awa),.box 61 x.awa]⟩:=λg f E=>by
   have j:=Fq x;refine f _ (cG [_] [_] (F _ _) E ?_ (ih (pre++[x]) (out++pM x) g (by simp) (by simp;omega) l));simp only[LW,ai,al,aY];omega
  have G:(out.length+1)*32<=140737488355328/\out.length+1<=maxLen:=by simp only[maxLen];omega
  obtain⟨k,t,d⟩:=x;have L:out.map It.awa++[[.I k,.s t,.I d]]=(out++[(⟨k,t,d⟩:It)]).map It.awa:=by simp[It.awa]
  refine ar λR f=>?_;have Pm.one:(k=2\/k=3\/k=4\/k=5)->pM ⟨k,t,d⟩=[⟨k,t,d⟩]:=λh=>by simp only[pM,h,aT]
  rcases xJ (k=2\/k=3\/k=4\/k=5)with j|j
  .rw[Pm.one j]at a;rcases j with rfl|rfl|rfl|rfl
   all_goals
    simp only[I1,It.awa,↓IT,VV,seval];simp only[p,ag,L,It.awa];refine⟨λ_=>⟨by simp;omega,G,a _ f ?_⟩,λh=>by simp at h;omega⟩
    repeat' constructor
  .have A:(k==2)=false:=by simp;omega
   have M:(k==3)=false:=by simp;omega
   have D:(k==4)=false:=by simp;omega
   have y:(k==5)=false:=by simp;omega
   rcases xJ (k=1)with n|n
   .subst n;have r:pM ⟨1,t,d⟩=nJ t:=by simp[pM]
    simp only[I1,It.awa,↓IT,VV,seval];refine⟨λ_=>⟨by simp;omega,?_⟩,λh=>by simp at h;omega⟩;simp only[bd]at C q;refine bZ.aK (fr':=(.sl 3 ((pre++⟨1,t,d⟩::rest).map It.awa)::uu 2 (.own J.length g::uu 2 (.s t::uu 2 (.sl 3 ((pre++⟨1,t,d⟩::rest).map It.awa)::.I (pre++⟨1,t,d⟩::rest).length::.I pre.length::uu 38 []))))) (by repeat' constructor) (t.length+1) (aau (J:=J) _ _ _ _ _ t.length t _ g (aD _) (by omega) (by simp;omega) ?_);intro O;simp only[JE];intros;simp only[VV,seval];simp only[p];rw[<- List.map_append,<- r];refine a _ f ?_
    repeat' constructor
   .have r:pM ⟨k,t,d⟩=[]:=by simp[pM,j,n]
    have w:(k==1)=false:=by simpa using n
    rw[r,bL]at a;simp only[I1,It.awa,A,M,D,y,w,↓IT,VV,seval];simp only[p];refine⟨λ_=>⟨by simp;omega,a _ f ?_⟩,λh=>by simp at h;omega⟩
    repeat' constructor
def SK(a:List It)(b:a.length<2^38)(d:bd a<2^38)(J:ak):PC prog 51 [.sl 3 (a.map It.awa)] J (λr J'=>r=.own J.length 0/\J'=J++[.row 150 3 32 0 false ((dz a).map It.awa)]):=by
 refine aZ func51 p51.2 λc e=>au ?_;simp only[p51,SS,seval];simp only[ag,VV,seval];refine bZ.wk ((Wk.ij (J:=J) (k:=3) Im rfl).trans (Wk.fg ?_)) (bZ.uh (a.length+1) (aat a c b d a [] [] 0 rfl (by simp) ?_))
 .simp only[VV,seval]
  repeat' constructor
 .intro g;simp only[JE];intros;simp only[VV,seval];exact zh 0 c (.inr rfl) rfl rfl rfl (by simp[Hn,Ob.gen]) (by simp[Pm.one,mv1,Ob.fresh])
def xO(a:List It)(b:a.length<2^38)(c:bd a<2^38)(J:ak):bM prog 51 [.sl 3 (a.map It.awa)] J (.sl 3 ((dz a).map It.awa)) :=
 PC.closed λd=>PC.fz d (SK a b c J)
def qZ(x:It)(J:ak):bM prog 184 [.agg x.awa] J (.I (weight x)):=by
 refine aZ func184 alz.2 λj m=>au ?_;obtain⟨k,t,d⟩:=x;simp only[alz,It.awa,SS,seval]
 have a:∀(w:Int) {f:aB} {c:ak},weight ⟨k,t,d⟩=w->f.getD 2 .u=.I w->rG prog J.length [.t 2] (λr l=>r=.I (weight ⟨k,t,d⟩)/\l=J) .ret ⟨f,J++c⟩:=λw _ _ g i =>
  bg (xs:=[.I w]) j (.inr rfl) (by simp only[ni,xr,i]) (by simp only[LW]) ⟨by rw[g];rfl,rfl⟩
 rcases xJ (k=6\/k=5\/k=7\/k=2\/k=3\/k=4\/k=9\/k=8)with b|b
 .rcases b with rfl|rfl|rfl|rfl|rfl|rfl|rfl|rfl
  all_goals
   simp only[↓IT,VV,seval];exact a _ rfl rfl
 .have e:∀n:Int,(n=6\/n=5\/n=7\/n=2\/n=3\/n=4\/n=9\/n=8)->(k==n)=false:=λn h=>by
   simp only[di];rintro rfl;exact b h
  simp only[e 6 (by simp),e 5 (by simp),e 7 (by simp),e 2 (by simp),e 3 (by simp),e 4 (by simp),e 9 (by simp),e 8 (by simp),↓IT,VV,seval];exact a 0 (by simp only[weight];rw[an (by omega),an (by omega),an (by omega),an (by omega)]) rfl
def adP{J:ak}{K:bl}(l:List It)(i:cn J)(b:l.length<2^40):∀(rest pre:List It),l=pre++rest ->
  ((fj 3 (fh (.I (lq l)) (fj 14 fo))) λj=>K (.exit 0) ⟨j,J⟩) ->
  fm J.length prog NO K (rest.length+1) ⟨(uu 3 (.I (lq pre)::uu 2 (.sl 3 (l.map It.awa)::.I l.length::.I pre.length::uu 9 []))),J⟩:=by
 intro rest
 induction rest with
 |nil =>
  intro pre a e;have a:=cN a
  subst a;refine ar λR f=>?_;simp only[NO,VV,seval];exact⟨λh=>by simp at h,λ_=>e ..⟩
 |cons x rest ih =>
  intro pre a e;subst a;have c:pre.length+1+rest.length<2^40:=by simp at b;omega
  have k:=Dl pre;have m:=sH x
  have g:=dh pre x (by omega)
  have d:IntKind.i64.wrap (lq pre+weight x)=lq (pre++[x]):=by
   rw[IntWalk.i64_in _ (by omega)];simp[lq]
  refine ar λR f=>?_;simp only[NO,It.awa,VV,seval];refine⟨λ_=>⟨by simp;omega,?_⟩,λh=>by simp at h;omega⟩;refine aw (qZ x _) rfl ?_;simp only[VV,seval];simp only[g,d];refine f _ (ny (aD _) i ?_ ?_ (ih (pre++[x]) (by simp) e))
  .repeat' constructor
  .simp only[LW]
def Ij(l:List It)(a:l.length<2^40)(J:ak):bM prog 181 [.sl 3 (l.map It.awa)] J (.I (lq l)):=by
 refine aZ func181 alC.2 λb c=>au ?_;simp only[alC,SS,seval];simp only[ag,VV,seval];refine bZ.aK (fr':=(uu 3 (.I (lq [])::uu 2 (.sl 3 (l.map It.awa)::.I l.length::.I ([]:List It).length::uu 9 [])))) (by repeat' constructor) (l.length+1) (adP l b a l [] rfl ?_);simp only[JE];intros;simp only[VV,seval];exact aO (.inr rfl) rfl ⟨rfl,rfl⟩
def u5(a b:It)(J:ak):bM prog 251 [.agg a.awa,.agg b.awa] J (.b (qz a b)):=by
 refine aZ func251 akZ.2 λc d=>au ?_;simp only[akZ,It.awa,SS,seval];simp only[VV,seval];exact gq c (by simp only[RS,seval];rfl) (by simp only[LW])
def Bq(x:It)(J:ak):bM prog 224 [.agg x.awa] J (.s (im x)):=by
 refine aZ func224 ak9.2 λa b=>au ?_;simp only[ak9,It.awa,SS,seval];simp only[VV,seval];refine⟨λh=>?_,λh=>?_⟩
 .refine aw (aaj x.awd _) rfl ?_;simp only[VV,seval];simp only[cE]at h;exact bg a (.inr rfl) (by simp only[RS,seval];rfl) (by simp only[LW]) ⟨by simp only[Pm.one,im,h,aT],rfl⟩
 .simp only[di,fc]at h;exact bg a (.inr rfl) (by simp only[RS,seval];rfl) (by simp only[LW]) ⟨by simp only[Pm.one,im,h,aS],rfl⟩
def Gd(x:It)(J:ak):bM prog 250 [.agg x.awa] J (.b (b9 x)):=by
 refine aZ func250 ak0.2 λa c=>au ?_;simp only[ak0,It.awa,SS,seval];simp only[VV,seval];exact gq a (by simp only[RS,seval];rfl) (by simp only[LW])
def Bu(x:It)(J:ak):bM prog 213 [.agg x.awa] J (.I (single x)):=by
 refine aZ func213 alj.2 λa b=>au ?_;simp only[alj,It.awa,SS,seval];simp only[VV,seval];refine aw (Gd x _) rfl ?_;simp only[VV,seval];refine⟨λh=>?_,λh=>?_⟩
 .exact bg a (.inr rfl) (by simp only[RS,seval];rfl) (by simp only[LW]) ⟨by simp only[Pm.one,single,h,aT],rfl⟩
 .refine aw (qZ x _) rfl ?_;simp only[VV,seval];exact bg a (.inr rfl) (by simp only[RS,seval];rfl) (by simp only[LW]) ⟨by simp only[Pm.one,single,h,aS,aI],rfl⟩
def afx(a b:It)(J:ak):bM prog 214 [.agg a.awa,.agg b.awa] J (.iQ [.I ((gh a b).getD 0),.b (gh a b).isSome]):=by
 refine aZ func214 ali.2 λy v=>au ?_
 have d:∀(w:Int) (q:Bool) {o:aB} {p:ak},(gh a b).getD 0=w->(gh a b).isSome=q->o.getD 4 .u=.I w->o.getD 5 .u=.b q->rG prog J.length [.t 4,.t 5] (λr z=>r=.iQ [.I ((gh a b).getD 0),.b (gh a b).isSome]/\z=J) .ret ⟨o,J++p⟩:=λw q _ _ B A C x =>
  bg (xs:=[.I w,.b q]) y (.inr rfl) (by simp only[ni,xr,C,x]) (by simp only[LW]) ⟨by rw[B,A];rfl,rfl⟩
 clear v;simp only[ali,It.awa,SS,seval];cases c:qz a b with
 |true =>
  simp only[↓IT,VV,seval];refine aw (u5 a b _) rfl ?_;simp only[c,↓IT,VV,seval];exact d 0 true (by simp[gh,c]) (by simp[gh,c]) rfl rfl
 |false =>
  by_cases e:a.awb=b.awb
  .have m:(a.awb != b.awb)=false:=by simpa using e
   by_cases f:a.awb=6
   .have n:(a.awb==6)=true:=by simpa using f
    simp only[↓IT,VV,seval];refine aw (u5 a b _) rfl ?_;simp only[c,m,n,↓IT,VV,seval];refine aw (Bq a _) rfl ?_;simp only[↓IT,VV,seval];refine aw (Bq b _) rfl ?_;simp only[VV,seval];refine⟨λh=>?_,λh=>?_⟩
    .exact d 1 true (by simp[gh,c,<- e,f,h]) (by simp[gh,c,<- e,f,h]) rfl rfl
    .refine aw (qZ a _) rfl ?_;simp only[VV,seval];exact d (weight a) true (by simp[gh,c,<- e,f,h]) (by simp[gh,c,<- e,f,h]) rfl rfl
   .have n:(a.awb==6)=false:=by simpa using f
    by_cases s:a.awb=7\/a.awb=8\/a.awb=9\/a.awb=5
    .have l:gh a b=some (weight a):=by simp[gh,c,<- e,f,s]
     have i:(a.awb==7)=false\/(a.awb==7)=true:=by cases(a.awb==7)<;>simp
     have k:(a.awb==8)=false\/(a.awb==8)=true:=by cases(a.awb==8)<;>simp
     have j:(a.awb==9)=false\/(a.awb==9)=true:=by cases(a.awb==9)<;>simp
     have g:(a.awb==5)=false\/(a.awb==5)=true:=by cases(a.awb==5)<;>simp
     simp only[↓IT,VV,seval];refine aw (u5 a b _) rfl ?_;rcases i with i|i<;>rcases k with k|k<;>rcases j with j|j<;>rcases g with g|g<;>first|(exfalso;simp at i k j g;omega)|skip
     all_goals
      simp only[c,m,n,i,k,j,g,↓IT,VV,seval];refine aw (qZ a _) rfl ?_;simp only[VV,seval];exact d (weight a) true (by rw[l];rfl) (by rw[l];rfl) rfl rfl
    .have l:gh a b=none:=by simp[gh,c,<- e,f,s]
     have i:(a.awb==7)=false:=by simp;omega
     have k:(a.awb==8)=false:=by simp;omega
     have j:(a.awb==9)=false:=by simp;omega
     have g:(a.awb==5)=false:=by simp;omega
     simp only[↓IT,VV,seval];refine aw (u5 a b _) rfl ?_;simp only[c,m,n,i,k,j,g,↓IT,VV,seval];exact d 0 false (by rw[l];rfl) (by rw[l];rfl) rfl rfl
  .have m:(a.awb != b.awb)=true:=by simpa using e
   simp only[↓IT,VV,seval];refine aw (u5 a b _) rfl ?_;simp only[c,m,↓IT,VV,seval];exact d 0 false (by simp[gh,c,e]) (by simp[gh,c,e]) rfl rfl
def l3{α:Type}{ke:α->V}(n:Nat)(C:List (α×Int)):jP n ((emap ke fZ C).map (·.2)):=vX λx a=>by
 obtain⟨k,_,rfl⟩:=bF.1 a;exact .i _ _
def vO{α a:Type}{ke:α->V}{ve:a->V}(C:List (α×a)):(emap ke ve C).length=C.length:=by simp[emap]
def Xp{J:ak}{K:bl}(y l:List It)(D:cn J)(c:l.length<2^38):∀(rest pre:List It) (C:List (TK×Int)) (n:Nat),l=pre++rest->CB n C->n+rest.length<2^39 ->
  ((fj 1 (fh (.sl 3 (y.map It.awa)) (fj 3 (fh (.mp J.length) (fj 60 fo))))) λF=>K (.exit 0) ⟨F,J++[.map 150 3 (emap lD fZ (jS 1 C rest))]⟩) ->
  fm J.length prog NK K (rest.length+1) ⟨(uu 1 (.sl 3 (y.map It.awa)::uu 3 (.mp J.length::uu 8 (.sl 3 (l.map It.awa)::.I l.length::.I pre.length::uu 49 [])))),J++[.map 150 3 (emap lD fZ C)]⟩:=by
 intro rest
 induction rest with
 |nil =>
  intro pre C n g m z a;have g:=cN g
  subst g;refine ar λR p=>?_;simp only[NK,VV,seval];exact⟨λh=>by simp at h,λ_=>a ..⟩
 |cons x rest ih =>
  intro pre C n g m z a;subst g;have w:pre.length+1+rest.length<2^38:=by simp at c;omega
  have s:=dh pre x (by omega)
  simp only[ai]at z;have v:=m.getD (gd x);have E:∀b,(cX (gd x) C).getD 0=b->IntKind.i64.wrap (b+1)=b+1:=λb B=>IntWalk.i64_in _ (by rw[B]at v;have:=v.1;have:=v.2;omega);have u:∀C,cn (J++[.map 150 3 (emap lD fZ C)]):=λC=>cC D (by simp[l3]);refine ar λR p=>?_;simp only[NK,It.awa,VV,seval];refine⟨λ_=>⟨by simp;omega,?_⟩,λh=>by simp at h;omega⟩;refine aw (Gd x _) rfl ?_;simp only[s,VV,seval];refine⟨λr=>?_,λr=>?_⟩
  .have e:jS 1 C (x::rest)=jS 1 (bump C (gd x) 1) rest:=by simp only[jS,r,aT]
   rw[e]at a;have q:=m.bump (gd x) 1 (by omega);rcases r9 CF C (gd x)with⟨o,j,k,f,A⟩|⟨i,b,o,j,k,f⟩
   .have d:IntKind.i64.wrap 1=1:=by decide
    have t:bump C (gd x) 1=iZ C (gd x) 1:=by simp[bump,o]
    rw[t]at q a;simp only[lD,gd]at j k f A;simp only[ek,j,k,f,A,d,eS,V.lO,V.cell,VV,seval];simp only[s,d];refine p _ (cG [_] [_,_] (u _) ?_ ?_ (ih (pre++[x]) _ (n+1) (by simp) q (by omega) a))
    .repeat' constructor
    .simp only[LW,ai,al,aY];omega
   .have d:=E b (by rw[o];rfl);have t:bump C (gd x) 1=iZ C (gd x) (b+1):=by simp[bump,o]
    rw[t]at q a;simp only[lD,gd]at j k f;simp only[ek,j,k,f,d,eS,V.lO,V.cell,VV,seval];simp only[s,d];refine p _ (cG [_] [_,_] (u _) ?_ ?_ (ih (pre++[x]) _ (n+1) (by simp) q (by omega) a))
    .repeat' constructor
    .simp only[LW,ai,al,aY];omega
  .have e:jS 1 C (x::rest)=jS 1 C rest:=by simp only[jS,r,aS,aI]
   rw[e]at a;refine p _ (cG [_] [_] (u _) ?_ ?_ (ih (pre++[x]) C n (by simp) m (by omega) a))
   .repeat' constructor
   .simp only[LW,ai,al,aY];omega
def Xo{J:ak}{K:bl}(l:List It)(B:cn J)(c:l.length<2^38):∀(rest pre:List It) (C:List (TK×Int)) (n:Nat),l=pre++rest->CB n C->n+rest.length<2^39 ->
  ((fj 5 (fh (.mp J.length) (fj 60 fo))) λE=>K (.exit 2) ⟨E,J++[.map 150 3 (emap lD fZ (jS (-1) C rest))]⟩) ->
  fm J.length prog NJ K (rest.length+1) ⟨(uu 5 (.mp J.length::uu 27 (.sl 3 (l.map It.awa)::.I l.length::.I pre.length::uu 30 []))),J++[.map 150 3 (emap lD fZ C)]⟩:=by
 intro rest
 induction rest with
 |nil =>
  intro pre C n g m y a;have g:=cN g
  subst g;refine ar λR p=>?_;simp only[NJ,VV,seval];exact⟨λh=>by simp at h,λ_=>a ..⟩
 |cons x rest ih =>
  intro pre C n g m y a;subst g;have w:pre.length+1+rest.length<2^38:=by simp at c;omega
  have s:=dh pre x (by omega)
  simp only[ai]at y;have v:=m.getD (gd x);have D:∀b,(cX (gd x) C).getD 0=b->IntKind.i64.wrap (b - 1)=b - 1:=λb A=>IntWalk.i64_in _ (by rw[A]at v;have:=v.1;have:=v.2;omega);have u:∀C,cn (J++[.map 150 3 (emap lD fZ C)]):=λC=>cC B (by simp[l3]);refine ar λR p=>?_;simp only[NJ,It.awa,VV,seval];refine⟨λ_=>⟨by simp;omega,?_⟩,λh=>by simp at h;omega⟩;refine aw (Gd x _) rfl ?_;simp only[s,VV,seval];refine⟨λr=>?_,λr=>?_⟩
  .have e:jS (-1) C (x::rest)=jS (-1) (bump C (gd x) (-1)) rest:=by simp only[jS,r,aT]
   rw[e]at a;have q:=m.bump (gd x) (-1) (by omega);rcases r9 CF C (gd x)with⟨o,j,k,f,z⟩|⟨i,b,o,j,k,f⟩
   .have d:IntKind.i64.wrap (-1) = -1:=by decide
    have t:bump C (gd x) (-1)=iZ C (gd x) (-1):=by simp[bump,o]
    rw[t]at q a;simp only[lD,gd]at j k f z;simp only[ek,j,k,f,z,d,eS,V.lO,V.cell,VV,seval];simp only[s,d];refine p _ (cG [_] [_,_] (u _) ?_ ?_ (ih (pre++[x]) _ (n+1) (by simp) q (by omega) a))
    .repeat' constructor
    .simp only[LW,ai,al,aY];omega
   .have d:=D b (by rw[o];rfl);have t:bump C (gd x) (-1)=iZ C (gd x) (b - 1):=by simp[bump,o];rfl
    rw[t]at q a;simp only[lD,gd]at j k f;simp only[ek,j,k,f,d,eS,V.lO,V.cell,VV,seval];simp only[s,d];refine p _ (cG [_] [_,_] (u _) ?_ ?_ (ih (pre++[x]) _ (n+1) (by simp) q (by omega) a))
    .repeat' constructor
    .simp only[LW,ai,al,aY];omega
  .have e:jS (-1) C (x::rest)=jS (-1) C rest:=by simp only[jS,r,aS,aI]
   rw[e]at a;refine p _ (cG [_] [_] (u _) ?_ ?_ (ih (pre++[x]) C n (by simp) m (by omega) a))
   .repeat' constructor
   .simp only[LW,ai,al,aY];omega
def Xn{J:ak}{K:bl}(C:List (TK×Int))(m:Nat)(r:CB m C)(u:kC C)(E:m<2^39)(S:Int)(F:S<=2^60):∀(N:Nat) (a:dK) (b:cU) (acc:Int),a.length<=N->a.Nodup->(∀p∈a,p<C.length)->0<=acc ->
  acc+zY (λi=>2*max (C.getD i ((0,[]),0)).2 (-(C.getD i ((0,[]),0)).2)) a=S ->
  (∀a b,((fj 10 (fh (.I S) (fj 55 fo))) λt=>K (.exit 4) ⟨t,J++[.map 150 3 (emap lD fZ C),.iter false J.length 3 (emap lD fZ C).length a b]⟩)) ->
  fm J.length prog NI K (N+1) ⟨(uu 5 (.mp J.length::uu 4 (.I acc::uu 42 (.it (J.length+1)::uu 12 [])))),J++[.map 150 3 (emap lD fZ C),.iter false J.length 3 (emap lD fZ C).length a b]⟩:=by
 intro N
 induction N with
 |zero =>
  intro a b acc x j g A c e;have k:a=[]:=aW (by omega);subst k;have:acc=S:=by simpa[zY]using c
  subst this;refine ar λR n=>?_;simp only[NI,VV,seval];exact e _ _ ..
 |succ N ih =>
  intro a b acc x j g A c e;refine ar λR n=>?_;simp only[NI,VV,seval];refine⟨λk=>?_,λq f=>?_⟩
  .subst k;have:acc=S:=by simpa[zY]using c
   subst this;exact e _ _ ..
  .have o:=g q f;rw[No _ j f]at c;have B:=Nn (λi=>2*max (C.getD i ((0,[]),0)).2 (-(C.getD i ((0,[]),0)).2)) (λi=>by omega) (a.filter λi=>i != q);have l:=xg (ke:=lD) (ve:=fZ) C ((0,[]),0) o;have s:=r.2 _ _ (oA u (yx (d:=((0,[]),0)) o));generalize G:(C.getD q ((0,[]),0)).2=v at c l s;have y:IntKind.i64.wrap (0 - v) = -v:=by rw[IntWalk.i64_in _ (by omega)];omega
   have w:(if v < -v then -v else v)=max v (-v):=by split<;>omega
   have z:IntKind.i64.wrap (2*max v (-v))=2*max v (-v):=IntWalk.i64_in _ (by omega);have D:IntKind.i64.wrap (acc+2*max v (-v))=acc+2*max v (-v):=IntWalk.i64_in _ (by omega);simp only[l,fZ,y,w,z,D,VV,seval];refine n _ (aK ?_ (ih (a.filter λi=>i != q) (some q) (acc+2*max v (-v)) (by have:=pv f;omega) (j.filter _) (λp h=>g p (cZ.1 h).1) (by omega) (by omega) e))
   repeat' constructor
def SR(a b:List It)(n:a.length<2^27)(l:b.length<2^27)(J:ak):bM prog 215 [.sl 3 (a.map It.awa),.sl 3 (b.map It.awa)] J (.I (nT a b)):=by
 refine aZ func215 alh.2 λe k=>au ?_;simp only[alh,SS,seval];simp only[ag,VV,seval];have c:=CB.nil.count 1 (by omega) a;have d:=c.count (-1) (by omega) b;have g:kC (y8 a b):=kC.count (-1) b (kC.count 1 a (by simp[kC]));have i:=Na (C:=y8 a b) d g
 have f:((0+a.length+b.length:Nat):Int)*((y8 a b).length:Int)<=2^28*2^28:=by
  have j:((y8 a b).length:Int)<=2^28:=by have:=d.1;unfold y8;omega
  exact Df (by omega) j (by omega) (by omega)
 refine bZ.aK (fr':=(uu 1 (.sl 3 (b.map It.awa)::uu 3 (.mp J.length::uu 8 (.sl 3 (a.map It.awa)::.I a.length::.I ([]:List It).length::uu 49 []))))) (by repeat' constructor) (a.length+1) (Xp b a e (by omega) a [] [] 0 rfl CB.nil (by omega) ?_);simp only[JE];intros;simp only[ag,VV,seval];refine bZ.aK (fr':=(uu 5 (.mp J.length::uu 27 (.sl 3 (b.map It.awa)::.I b.length::.I ([]:List It).length::uu 30 [])))) (by repeat' constructor) (b.length+1) (Xo b e (by omega) b [] _ _ rfl c (by omega) ?_);simp only[JE];intros;simp only[ag,VV,seval];refine bZ.aK (fr':=(uu 5 (.mp J.length::uu 4 (.I 0::uu 42 (.it (J.length+1)::uu 12 []))))) (by repeat' constructor) ((emap lD fZ (y8 a b)).length+1) (Xn (y8 a b) _ d g (by omega) (nT a b) (by have:=gF i.2 f;unfold nT;omega) _ (List.range (emap lD fZ (y8 a b)).length) none 0 (by simp) pT (by simp[emap]) (dJ _) ?_ ?_)
 .rw[vO,PQ (λp:TK×Int=>2*max p.2 (-p.2)),PL,iK];rfl
 .intro m h;simp only[JE];intros;simp only[VV,seval];exact gq e (by simp only[RS,seval]) (by simp only[LW])

set_option maxRecDepth 4000
def Xy{J:ak}{K:bl}(a b:List It)(t:It)(i:Nat)(M:Int)(hM:M<2^50)(T:cn J)(p:b.length<2^38):∀(rest pre:List It) (j f:bH) (d left:Int),b=pre++rest->j.length=pre.length->f.length=rest.length->BR M f->0<=d/\d<=M->0<=left/\left<=M+4 ->
  ((fh (.sl 3 (a.map It.awa)) (fh (.sl 3 (b.map It.awa)) (fj 3 (fh (.own J.length 0) (fj 33 (fh (.sl 3 (a.map It.awa)) (fh (.I a.length) (fh (.I i) (fj 69 fo))))))))) λY=>K (.exit 4) ⟨Y,J++[.row 3 1 8 0 false ((j++left::nq t d left rest f).map bV),.box 150 t.awa]⟩) ->
  fm J.length prog NX K (rest.length+1) ⟨(.sl 3 (a.map It.awa)::.sl 3 (b.map It.awa)::uu 3 (.own J.length 0::uu 3 (.ptr (J.length+1) 0::.I d::uu 28 (.sl 3 (a.map It.awa)::.I a.length::.I i::uu 13 (.sl 3 (b.map It.awa)::.I b.length::.I pre.length::uu 53 []))))),J++[.row 3 1 8 0 false ((j++left::f).map bV),.box 150 t.awa]⟩:=by
 intro rest
 induction rest with
 |nil =>
  intro pre j f d left r o y G N L z;have r:=cN r
  subst r;have V:f=[]:=aW (by simpa using y);subst V;have e:nq t d left [] []=[]:=rfl;rw[e]at z;refine ar λR F=>?_;simp only[NX,VV,seval];exact⟨λh=>by simp at h,λ_=>z ..⟩
 |cons u rest ih =>
  intro pre j f d left r o y G N L z;subst r;cases f with
  |nil=>simp at y
  |cons g f =>
   have D:pre.length+1+rest.length<2^38:=by simp at p;omega
   have A:=dh pre u (by omega)
   have Q:=G g (by simp);have st:=iB t;have su:=iB u;have W:IntKind.i64.wrap (g+single t)=g+single t:=IntWalk.i64_in _ (by omega);have U:IntKind.i64.wrap (left+single u)=left+single u:=IntWalk.i64_in _ (by omega);have q:j++left::g::f=(j++[left])++g::f:=by simp
   have m:(((pre++[u]).length:Nat):Int)=(((j++[left]).length:Nat):Int):=by simp[o]
   have Z:((pre.length:Nat):Int)=((j.length:Nat):Int):=by rw[o]
   have w:gj ((j++left::g::f).map bV) (j++[left]).length 0=some (.I g):=by rw[q];exact HT _ _ _
   have E:gj ((j++left::g::f).map bV) pre.length 0=some (.I left):=by rw[<- o];exact HT _ _ _
   have H:∀v,((j++left::g::f).map bV).set (j++[left]).length [.I v]=(j++left::v::f).map bV:=λv=>by rw[q,JG];simp
   have P:((j++left::g::f).map bV).getD (j++[left]).length []=[.I g]:=by rw[q];exact F1 _ _ _
   refine ar λR F=>?_;simp only[NX,It.awa,VV,seval];refine⟨λ_=>⟨by simp;omega,?_⟩,λh=>by simp at h;omega⟩;simp only[A,m,ao,w,VV,seval];refine⟨by simp[y];omega,?_⟩;refine⟨by simp[o];omega,?_⟩;simp only[ao,E,VV,seval];refine aw (Bu t _) rfl ?_;simp only[W,VV,seval];have n:(0:Int)<=((j++[left]).length:Nat)/\(((j++[left]).length:Nat):Int)<(((j++left::g::f).map bV).length:Nat):=⟨by omega,by simp;omega⟩;have S:(0:Int)<=(pre.length:Nat)/\((pre.length:Nat):Int)<(((j++left::g::f).map bV).length:Nat):=⟨by omega,by simp[o];omega⟩;simp only[w,E];refine⟨⟨n,⟨True,rfl,trivial⟩,S,⟨True,rfl,trivial⟩⟩,?_⟩;refine aw (Bu u _) rfl ?_;simp only[U,w,E,VV,seval];refine⟨⟨n,S⟩,?_⟩;have X:=Hd (t:=t) (u:=u) N L Q;have O:∀l,cn (J++[.row 3 1 8 0 false (List.map bV l),.box 150 t.awa]):=λl=>cC T (by simp[It.awa,LW]);have k:=ih (pre++[u]) (j++[left]) f g (vV t u d left g) (by simp) (by simp[o]) (by simpa using y) (λx q=>G x (by simp[q])) Q X (by simpa only[bk,bJ,bc,nq,It.awa]using z);simp only[bk,bJ,bc,It.awa,m]at k;have C:∀c,gh t u=some c->IntKind.i64.wrap (d+c)=d+c:=λc s=>IntWalk.i64_in _ (by have:=yH s;omega);refine aw (afx t u _) rfl ?_;cases s:gh t u with
   |none =>
    simp only[A,m,ao,w,H,P,Option.isSome,Option.getD,VV,seval];have B:vV t u d left g=if left+single u<g+single t then left+single u else g+single t:=by unfold vV;rw[s];rfl
    refine⟨n,n,by have:=n.2;omega,?_⟩;rw[<- B];exact F _ (cG [_,_] [_] (O _) (by repeat' constructor) (by simp[LW]) k)
   |some c =>
    simp only[A,m,ao,C c s,w,H,P,Option.isSome,Option.getD,VV,seval];have B:vV t u d left g=(if d+c<(if left+single u<g+single t then left+single u else g+single t)then d+c else(if left+single u<g+single t then left+single u else g+single t)):=by unfold vV;rw[s];rfl
    refine⟨n,n,by have:=n.2;omega,?_⟩;rw[<- B];exact F _ (cG [_,_] [_] (O _) (by repeat' constructor) (by simp[LW]) k)
def Xx{J:ak}{K:bl}(a b:List It)(p:cn J)(e:b.length<2^38)(B:a.length<2^38):∀(rest pre:List It) (row:bH) (M:Int),a=pre++rest->row.length=b.length+1->BR M row->M+4*rest.length<2^50 ->
  ((fh (.sl 3 (a.map It.awa)) (fh (.sl 3 (b.map It.awa)) (fj 3 (fh (.own J.length 0) (fj 105 fo))))) λz=>K (.exit 2) ⟨z,J++[.row 3 1 8 0 false ((rest.foldl (λrow t=>lN t b row) row).map bV)]⟩) ->
  fm J.length prog NW K (rest.length+1) ⟨(.sl 3 (a.map It.awa)::.sl 3 (b.map It.awa)::uu 3 (.own J.length 0::uu 33 (.sl 3 (a.map It.awa)::.I a.length::.I pre.length::uu 69 []))),J++[.row 3 1 8 0 false (row.map bV)]⟩:=by
 intro rest
 induction rest with
 |nil =>
  intro pre row M f g i n j;have f:=cN f
  subst f;refine ar λR q=>?_;simp only[NW,VV,seval];exact⟨λh=>by simp at h,λ_=>j ..⟩
 |cons x rest ih =>
  intro pre row M f g i n j;subst f
  obtain⟨d,c,rfl⟩:∃d c,row=d::c:=by cases row with
   |nil=>simp at g
   |cons d c=>exact⟨_,_,rfl⟩
  have m:pre.length+1+rest.length<2^38:=by simp at B;omega
  have A:=dh pre x (by omega)
  have u:=i d (by simp);have F:=iB x;have E:IntKind.i64.wrap (d+single x)=d+single x:=IntWalk.i64_in _ (by omega);have o:gj (bV d::c.map bV) 0 0=some (.I d):=HT [] _ _;have r:∀v,(bV d::c.map bV).set 0 [.I v]=bV v::c.map bV:=λv=>JG [] _ _ _;have w:(bV d::c.map bV).getD 0 []=[.I d]:=F1 [] _ _;refine ar λR q=>?_;simp only[NW,It.awa,VV,seval];refine⟨λ_=>⟨by simp;omega,?_⟩,λh=>by simp at h;omega⟩;refine⟨by omega,?_⟩;simp only[o,VV,seval];refine⟨by omega,?_⟩;refine aw (Bu x _) rfl ?_;simp only[E,o,r,w,ag,VV,seval];have k:BR (M+4) (lN x b (d::c)):=i.new b;have C:(lN x b (d::c)).length=b.length+1:=by rw[GO,g]
  simp only[ai]at n;have s:∀l,cn (J++[.row 3 1 8 0 false (List.map bV l)]):=λl=>cC p (by simp);refine⟨by omega,by omega,by omega,?_⟩;refine bZ.aK (fr':=(.sl 3 ((pre++x::rest).map It.awa)::.sl 3 (b.map It.awa)::uu 3 (.own J.length 0::uu 3 (.ptr (J.length+1) 0::.I d::uu 28 (.sl 3 ((pre++x::rest).map It.awa)::.I (pre++x::rest).length::.I pre.length::uu 13 (.sl 3 (b.map It.awa)::.I b.length::.I (([]:List It).length:Nat)::uu 53 [])))))) (by repeat' constructor) (b.length+1) (Xy (pre++x::rest) b x pre.length M (by omega) p e b [] [] c d (d+single x) rfl rfl (by simpa using g) (λy D=>i y (by simp[D])) u (by omega) ?_);simp only[JE];intros;simp only[VV,seval];simp only[A];refine q _ (cG [_] [_] (s (lN x b (d::c))) (by repeat' constructor) (by simp[LW]) (ih (pre++[x]) _ (M+4) (by simp) C k (by omega) j))
def Xz{J:ak}{K:bl}(a b:List It)(t:cn J)(f:b.length<2^38):∀(rest pre:List It) (xs:bH) (s:Int) (c:bH),b=pre++rest->xs.length=pre.length->c.length=rest.length->0<=s/\s<=4*(pre.length:Int) ->
  ((fh (.sl 3 (a.map It.awa)) (fh (.sl 3 (b.map It.awa)) (fj 3 (fh (.own J.length 0) (fj 105 fo))))) λy=>K (.exit 0) ⟨y,J++[.row 3 1 8 0 false ((xs++s::qC s rest).map bV)]⟩) ->
  fm J.length prog NY K (rest.length+1) ⟨(.sl 3 (a.map It.awa)::.sl 3 (b.map It.awa)::uu 3 (.own J.length 0::uu 14 (.sl 3 (b.map It.awa)::.I b.length::.I pre.length::uu 88 []))),J++[.row 3 1 8 0 false ((xs++s::c).map bV)]⟩:=by
 intro rest
 induction rest with
 |nil =>
  intro pre xs s c g d i B j;have g:=cN g
  subst g;have A:c=[]:=aW (by simpa using i);subst A;refine ar λR p=>?_;simp only[NY,VV,seval];exact⟨λh=>by simp at h,λ_=>j ..⟩
 |cons u rest ih =>
  intro pre xs s c g d i B j;subst g;cases c with
  |nil=>simp at i
  |cons w c =>
   have l:pre.length+1+rest.length<2^38:=by simp at f;omega
   have z:=dh pre u (by omega)
   have D:=iB u;have C:IntKind.i64.wrap (s+single u)=s+single u:=IntWalk.i64_in _ (by omega);have o:gj ((xs++s::w::c).map bV) pre.length 0=some (.I s):=by rw[<- d];exact HT _ _ _
   have e:xs++s::w::c=(xs++[s])++w::c:=by simp
   have q:∀v,((xs++s::w::c).map bV).set (pre++[u]).length [.I v]=(xs++s::v::c).map bV:=λv=>by
    have:(pre++[u]).length=(xs++[s]).length:=by simp[d]
    rw[this,e,JG];simp
   have x:((xs++s::w::c).map bV).getD (pre++[u]).length []=[.I w]:=by
    have:(pre++[u]).length=(xs++[s]).length:=by simp[d]
    rw[this,e];exact F1 _ _ _
   have m:(0:Int)<=((pre++[u]).length:Nat)/\(((pre++[u]).length:Nat):Int)<(((xs++s::w::c).map bV).length:Nat):=⟨by omega,by simp[d];omega⟩;have k:=ih (pre++[u]) (xs++[s]) (s+single u) c (by simp) (by simp[d]) (by simpa using i) (by simp;omega) (by simpa only[bk,bJ,bc,qC]using j);simp only[bk,bJ,bc]at k;refine ar λR p=>?_;simp only[NY,It.awa,VV,seval];refine⟨λ_=>⟨by simp;omega,?_⟩,λh=>by simp at h;omega⟩;simp only[ao,o,VV,seval];have n:(0:Int)<=(pre.length:Nat)/\((pre.length:Nat):Int)<(((xs++s::w::c).map bV).length:Nat):=⟨by omega,by simp[d];omega⟩;refine⟨n,?_⟩;refine aw (Bu u _) rfl ?_;simp only[C,z,ao,o,q,x,VV,seval];have r:cn (J++[.row 3 1 8 0 false (List.map bV (xs++s::(s+single u)::c))]):=cC t (by simp);exact⟨n,m,by have:=m.2;omega,p _ (cG [_] [_] r (by repeat' constructor) (by simp[LW]) k)⟩
def Iv(a b:List It)(i:a.length<2^27)(j:b.length<2^27):0<=nT a b/\nT a b<=2^60:=by
 have d:=CB.nil.count 1 (by omega) a;have e:=d.count (-1) (by omega) b;have g:kC (y8 a b):=kC.count (-1) b (kC.count 1 a (by simp[kC]));have f:=Na (C:=y8 a b) e g
 have c:((0+a.length+b.length:Nat):Int)*((y8 a b).length:Int)<=2^28*2^28:=by
  have h:((y8 a b).length:Int)<=2^28:=by have:=e.1;unfold y8;omega
  exact Df (by omega) h (by omega) (by omega)
 have:=gF f.2 c;have:=f.1;unfold nT;omega
def RX(a b:List It)(k:a.length<2^27)(j:b.length<2^27)(J:ak):bM prog 166 [.sl 3 (a.map It.awa),.sl 3 (b.map It.awa)] J (.I (lI a b)):=by
 refine aZ func166 aru λd p=>au ?_;simp only[alS,SS,seval];have o:IntKind.i64.wrap ((b.length:Int)+1)=((b.length+1:Nat):Int):=cm (by omega);have m:((b.length+1:Nat):Int)<=maxLen:=gF (show _<=(2^62:Int)by omega) (by decide);have f:List.replicate (b.length+1) [V.i .i64 0]=(([]:bH)++0::List.replicate b.length 0).map bV:=by simp[BU,bV]
 simp only[ag,o,ao,f,VV,seval];have g:=P4 a b;refine⟨⟨by omega,Or.inl trivial,by omega,by omega,m⟩,?_⟩;refine bZ.aK (fr':=(.sl 3 (a.map It.awa)::.sl 3 (b.map It.awa)::uu 3 (.own J.length 0::uu 14 (.sl 3 (b.map It.awa)::.I b.length::.I (([]:List It).length:Nat)::uu 88 [])))) (by repeat' constructor) (b.length+1) (Xz a b d (by omega) b [] [] 0 _ rfl rfl (by simp) (by simp) ?_);simp only[JE];intros;simp only[ag,VV,seval];refine bZ.aK (fr':=(.sl 3 (a.map It.awa)::.sl 3 (b.map It.awa)::uu 3 (.own J.length 0::uu 33 (.sl 3 (a.map It.awa)::.I a.length::.I (([]:List It).length:Nat)::uu 69 [])))) (by repeat' constructor) (a.length+1) (Xx a b d (by omega) (by omega) a [] (DD b) (4*b.length) rfl (P6 b) (BR.DD b) (by omega) ?_);simp only[JE];intros;simp only[ag,VV,seval];have c:(List.foldl (λrow t=>lN t b row) (DD b) a).length=b.length+1:=g.2;obtain⟨x,e⟩:∃x,(IL a b)[b.length]?=some x:=⟨_,ax (by rw[g.2];omega)⟩;have q:=g.1 x (bE e);have r:=Iv a b k j;have l:lI a b=x+nT a b:=by simp only[lI,aq,e,Option.getD]
 have n:IntKind.i64.wrap (x+nT a b)=x+nT a b:=IntWalk.i64_in _ (by omega)
 have h:gj (List.map bV (List.foldl (λrow t=>lN t b row) (DD b) a)) b.length 0=some (.I x):=by
  have:(List.foldl (λrow t=>lN t b row) (DD b) a)[b.length]?=some x:=e;simp[gj,this,bV]
 refine⟨by omega,?_⟩;simp only[ao,h,VV,seval];refine aw (SR a b k j _) rfl ?_;simp only[n,h,c,ao,VV,seval];refine⟨⟨by rw[ag],by omega,by rw[ag];omega⟩,?_⟩;exact gq d (by rw[l];simp only[RS,seval]) (by simp only[LW])
end Go.Proofs.Tryz
namespace Go.Pm
def uT{P:bo}{c:bK}{K:bl}{N:Nat}{fr fr':aB}{J:ak}(loc:ak)(a:cn J)(d:oJ fr fr')(b:jP J.length fr')(k:fm J.length P c K N ⟨fr',J⟩):fm J.length P c K N ⟨fr,J++loc⟩ :=
 rF ((Wk.fg d).trans (Wk.A2 (aD _) a (gZ.1 b))) k
end Go.Pm
namespace Go.Proofs.Tryz
open Go Go.Pm Go.Bt
def Kn(a b:List It)(e:a.length<2^27)(f:b.length<2^27):0<=lI a b/\lI a b<=2^61:=by
 have c:=P4 a b;obtain⟨x,d⟩:∃x,(IL a b)[b.length]?=some x:=⟨_,ax (by rw[c.2];omega)⟩;have h:=c.1 x (bE d);have g:=Iv a b e f;have i:lI a b=x+nT a b:=by simp only[lI,aq,d,Option.getD]
 omega
def afE(a b:List It)(e:a.length<2^27)(c:b.length<2^27)(J:ak):bM prog 165 [.sl 3 (a.map It.awa),.sl 3 (b.map It.awa)] J (.I (kJ a b)):=by
 refine aZ func165 alT.2 λf d=>au ?_;simp only[alT,SS,seval];simp only[VV,seval];refine aw (Ij a (by omega) _) rfl ?_;simp only[VV,seval];refine aw (Ij b (by omega) _) rfl ?_;simp only[VV,seval];exact aO (.inr rfl) rfl ⟨rfl,rfl⟩
def Tg(a b:List It)(d:a.length<2^27)(e:b.length<2^27)(J:ak):bM prog 106 [.sl 3 (a.map It.awa),.sl 3 (b.map It.awa)] J (.I (eX a b)):=by
 refine aZ func106 amu.2 λn m=>au ?_;simp only[amu,SS,seval];simp only[VV,seval];refine aw (afE a b d e _) rfl ?_;simp only[VV,seval];have l:=Bc a b;have g:=Kn a b d e;refine⟨λh=>?_,λh=>?_⟩
 .have c:kJ a b=0:=by simpa using h
  exact aO (.inr rfl) rfl ⟨by simp[eX,c,Pm.one],rfl⟩
 .have c:kJ a b≠0:=by simpa using h
  have i:IntKind.i64.wrap (kJ a b - lI a b)=kJ a b - lI a b:=IntWalk.i64_in _ (by omega);have j:IntKind.i64.wrap (100*if kJ a b - lI a b<0 then 0 else kJ a b - lI a b)=100*if kJ a b - lI a b<0 then 0 else kJ a b - lI a b:=IntWalk.i64_in _ (by split<;>omega)
  refine aw (RX a b d e _) rfl ?_;simp only[i,j,VV,seval];have k:=wL a b g.1;have f:eX a b=(100*if kJ a b - lI a b<0 then 0 else kJ a b - lI a b).tdiv (kJ a b):=by simp only[eX,c,aS,mx]
  refine⟨c,?_⟩;rw[<- f,IntWalk.i64_in _ (by omega)];exact aO (.inr rfl) rfl ⟨rfl,rfl⟩
def Ur(e:En)(q:Qr)(J:ak):bM prog 108 [.agg e.awa,.agg q.awa] J (.I (kf e q)):=by
 refine aZ func108 ams.2 λf g=>au ?_;simp only[ams,SS,seval];simp only[En.awa,Qr.awa,VV,seval];have c:IntKind.i64.wrap 1=1:=by decide
 have d:IntKind.i64.wrap (1+1)=2:=by decide
 simp only[c,d]
 refine⟨λb=>⟨λa=>?_,λa=>?_⟩,λb=>⟨λa=>?_,λa=>?_⟩⟩ <;>
  exact bg f (.inr rfl) (by simp only[RS,seval];rfl) (by simp only[LW]) ⟨by have b:=(show Kj _ _=_ from b);have a:=(show Kj _ _=_ from a);simp[kf,b,a,Pm.one],rfl⟩
def MM(a:aG)(J:ak):bM prog 200 [.s a] J (.b false):=by
 refine aZ func200 als.2 λd c=>au ?_;simp only[als,SS,seval];simp only[VV,seval];exact aO (.inr rfl) rfl ⟨by simp[Pm.one],rfl⟩
def O2(a b:aG)(J:ak):bM prog 133 [.s a,.s b] J (.I (fS a b)):=by
 refine aZ func133 al8.2 λj f=>au ?_;simp only[al8,SS,seval];simp only[VV,seval];refine aw (MM a _) rfl ?_;simp only[VV,seval];refine aw (MM b _) rfl ?_;simp only[VV,seval];have g:=V5 a b;rw[fU];refine⟨λh=>?_,λh=>⟨λc=>?_,λc=>?_⟩⟩
 .have e:fS a b = -1:=by simp only[aV]at h;omega
  exact aO (.inr rfl) rfl ⟨by rw[e];rfl,rfl⟩
 .have e:fS a b=1:=by
   simp only[dB]at h;have i:¬fS a b=0:=λd=>by rw[kh]at d;subst d;simp at c
   omega
  exact aO (.inr rfl) rfl ⟨by rw[e];rfl,rfl⟩
 .have e:fS a b=0:=by
   rw[h,iY]at c;rw[kh];simpa using c
  exact aO (.inr rfl) rfl ⟨by rw[e];rfl,rfl⟩
def adQ{J:ak}{K:bl}(l:List It)(m:cn J)(a:l.length<2^40):∀(rest pre:List It) (g:Nat),l=pre++rest ->
  (∀g,((fj 3 (fh (.own J.length g) (fj 18 fo))) λn=>K (.exit 0) ⟨n,J++[.row 9 1 16 g false ((bS l).map ix)]⟩)) ->
  fm J.length prog NP K (rest.length+1) ⟨(uu 3 (.own J.length g::uu 2 (.sl 3 (l.map It.awa)::.I l.length::.I pre.length::uu 13 []))),J++[.row 9 1 16 g false ((bS pre).map ix)]⟩:=by
 intro rest
 induction rest with
 |nil =>
  intro pre g b c;have b:=cN b
  subst b;refine ar λR f=>?_;simp only[NP,VV,seval];exact⟨λh=>by simp at h,λ_=>c g ..⟩
 |cons x rest ih =>
  intro pre g b c;subst b;have d:pre.length+1+rest.length<2^40:=by simp at a;omega
  have j:=dh pre x (by omega)
  have i:∀g o,cn (J++[.row 9 1 16 g false o]):=λg o=>cC m (by simp);have p:(bS pre).length<=pre.length:=by unfold bS;rw[ag];exact eB _ _
  refine ar λR f=>?_;simp only[NP,It.awa,VV,seval];refine⟨λ_=>⟨by simp;omega,?_⟩,λh=>by simp at h;omega⟩;refine⟨λh=>?_,λh=>?_⟩
  .refine aw (Bq x _) rfl ?_;simp only[j,VV,seval];have e:(bS pre).map ix++[[.s (im x)]]=(bS (pre++[x])).map ix:=by simp[bS,kG,h,ix]
   rw[e];refine⟨by simp only[ag,maxLen];omega,f _ (cG [_] [_] (i _ _) (by repeat' constructor) (by simp[LW]) (ih (pre++[x]) (g+1) (by simp) c))⟩
  .have e:bS (pre++[x])=bS pre:=by simp[bS,kG,h]
   simp only[j];have k:=ih (pre++[x]) g (by simp) c;rw[e]at k;exact f _ (cG [_] [_] (i _ _) (by repeat' constructor) (by simp[LW]) k)
def agZ:Ti prog 9 1 16:=qJ (by kernel_rfl)
def Y7(l:List It)(b:l.length<2^38)(J:ak):bM prog 180 [.sl 3 (l.map It.awa)] J (.sl 1 ((bS l).map ix)):=by
 refine PC.closed λa=>PC.fz a (g:=0) (E:=9) (by':=16) (sh:=false) ?_;refine aZ func180 alD.2 λa c=>au ?_;simp only[alD,SS,seval];simp only[ag,VV,seval];refine bZ.wk ((Wk.ij (J:=J) (k:=3) agZ rfl).trans (Wk.fg ?_)) (bZ.uh (l.length+1) (adQ l a (by omega) l [] 0 rfl ?_))
 .simp only[VV,seval]
  repeat' constructor
 .intro g;simp only[JE];intros;simp only[VV,seval];exact zh 0 a (.inr rfl) rfl rfl rfl (by simp[Hn,Ob.gen]) (by simp[Pm.one,mv1,Ob.fresh])

set_option maxRecDepth 4000
set_option maxHeartbeats 1000000
def agw(n:Nat)(c:n<2^60):IntKind.i64.wrap ((IntKind.u64.wrap (n:Int)).fdiv (2^min 1 IntKind.u64.bits))=((n / 2:Nat):Int):=by
 have a:IntKind.u64.wrap (n:Int)=n:=by
  simp only[IntKind.wrap,IntKind.bits,IntKind.signed];simp only[dR,aI,aS];omega
 have b:(2:Int)^min 1 IntKind.u64.bits=2:=by decide
 rw[a,b,ajq _ (by decide)];rw[show(n:Int) / 2=((n / 2:Nat):Int)by omega,Ic (by omega)]
def jK(g:Nat)(M:List dM):Ob:=.row 108 11 176 g false (M.map dM.awa)
def RQ(s:dM)(k:aG)(J:ak):bM prog 132 [.agg s.awa,.s k] J (.I (fS s.key k)):=by
 refine aZ func132 al9.2 λa b=>au ?_;simp only[al9,SS,seval];simp only[dM.awa,VV,seval];refine aw (O2 s.key k _) rfl ?_;simp only[VV,seval];exact bg a (.inr rfl) rfl (by simp[LW]) ⟨rfl,rfl⟩
def ad0{J:ak}{K:bl}(l:List dM)(B:kK l)(p:aG)(c g:Nat)(H:l.length<2^30)(n:J[c]?=some (jK g l)):∀(N i j:Nat),j - i<=N->i<=fN l p->fN l p<=j->j<=l.length ->
  ((fh (.own c g) (fh (.s p) (fh (.fn 132 []) (fj 5 (fh (.I l.length) (fh (.I (fN l p)) (fj 39 fo))))))) λw=>K (.exit 0) ⟨w,J⟩) ->
  fm J.length prog Jb K (N+1) ⟨(.own c g::.s p::.fn 132 []::uu 5 (.I l.length::.I i::.I j::uu 38 [])),J⟩:=by
 intro N
 induction N with
 |zero =>
  intro i j y k q o b;obtain rfl:i=fN l p:=by omega
  have a:decide ((fN l p:Int)<(j:Int))=false:=by simp;omega
  refine ar λR d=>?_;simp only[Jb,a,VV,seval];exact b ..
 |succ N ih =>
  intro i j y k q o b
  by_cases F:i<j
  .have a:decide ((i:Int)<(j:Int))=true:=by simp;omega
   have D:IntKind.i64.wrap ((i:Int)+(j:Int))=((i+j:Nat):Int):=by
    rw[show(i:Int)+(j:Int)=((i+j:Nat):Int)by omega,Ic (by omega)]
   have z:=agw (i+j) (by omega);have C:(i+j) / 2<l.length:=by omega
   have e:l[(i+j) / 2]?=some l[(i+j) / 2]:=ax C;generalize A:l[(i+j) / 2]=x at e;have f:(l.map dM.awa).getD ((i+j) / 2) []=x.awa:=by simp[aq,e]
   have r:=sV B p _ x e;clear A;generalize G:(i+j) / 2=m at *;have v:(0:Int)<=(m:Int):=by omega
   have u:(m:Int)<(l.length:Int):=by omega
   have t:IntKind.i64.wrap ((m:Int)+1)=((m+1:Nat):Int):=by rw[cm (by omega)]
   simp only[dM.awa]at f;simp only[jK]at n;refine ar λR d=>?_;simp only[Jb,n,a,D,z,t,f,v,u,ag,VV,Int.reduceBEq,Int.reduceBNe,Nat.reduceAdd,Nat.reduceSub,Nat.reduceLeDiff,Nat.reduceEqDiff,Int.reduceToNat,reduceIte,reduceCtorEq];refine⟨by decide,?_⟩;refine E6 rfl (by kernel_rfl) (RQ x p _) (by simp only[dM.awa,VV,seval]) ?_;simp only[t,VV,seval];refine⟨λh=>?_,λh=>?_⟩
   .have h:fS x.key p<0:=by simpa using h
    have:=r.1 h;refine d _ (aK ?_ (ih (m+1) j (by omega) (by omega) q o b))
    repeat' constructor
   .have h:¬fS x.key p<0:=by simp at h;omega
    have:¬m<fN l p:=λE=>h (r.2 E);refine d _ (aK ?_ (ih i m (by omega) k (by omega) (by omega) b))
    repeat' constructor
  .obtain rfl:i=fN l p:=by omega
   have a:decide ((fN l p:Int)<(j:Int))=false:=by simp;omega
   refine ar λR d=>?_;simp only[Jb,a,VV,seval];exact b ..
def ajf(l:List dM)(o:kK l)(p:aG)(c g:Nat)(w:l.length<2^30)(J:ak)(a:J[c]?=some (jK g l)):bM prog 131 [.own c g,.s p,.fn 132 []] J (.iQ [.I (fN l p),.b (decide (p∈l.map dM.key))]):=by
 refine aZ func131 ama.2 λC B=>au ?_;have k:=Em l p;have A:=λK=>ad0 (K:=K) l o p c g w a l.length 0 l.length (by omega) (fA _) k (aD _);have n:=mJ o p;simp only[ama,SS,seval];simp only[jK]at a;simp only[a,ag,VV,seval];refine bZ.wk (Wk.fg ?_) (bZ.uh (l.length+1) (A _ ?_))
 .repeat' constructor
 simp only[JE];intros;generalize fN l p=m at *;have f:(true==true)=true:=rfl;have d:(false==true)=false:=rfl
 by_cases z:m<l.length
 .have j:l[m]?=some l[m]:=ax z;generalize l[m]=x at j;have q:(l.map dM.awa).getD m []=x.awa:=by simp[aq,j]
  have i:decide ((m:Int)<(l.length:Int))=true:=by simp;omega
  have y:(0:Int)<=(m:Int):=by omega
  have r:(m:Int)<(l.length:Int):=by omega
  simp only[dM.awa]at q;simp only[a,i,y,r,q,f,d,fW,ag,VV,seval];refine⟨_,rfl,?_⟩;refine BO (c:=true) (by simp only[f,VV,seval]<;>rfl) (λ_=>⟨_,_,rfl,by kernel_rfl,RQ x p _⟩) ?_;simp only[f,d,VV,seval];refine aO (.inr rfl) rfl ⟨?_,rfl⟩
  have e:(fS x.key p==0)=decide (p∈l.map dM.key):=by
   rw[cB,cE,kh,decide_eq_true_iff,n,j];simp
  rw[e];rfl
 .have i:decide ((m:Int)<(l.length:Int))=false:=by simp;omega
  have t:decide (p∈l.map dM.key)=false:=nf (by rw[n,cI (by omega)];simp);simp only[a,i,t,f,d,xF,ag,VV,seval];refine⟨.u,BO (c:=false) (v:=.I 0) (by simp only[d,VV,seval]<;>rfl) (λh=>by cases h) ?_⟩;simp only[d,VV,seval];exact aO (.inr rfl) rfl ⟨rfl,rfl⟩

set_option maxRecDepth 4000
set_option maxHeartbeats 1000000
def ade(a:Int)(J:ak):bM prog 124 [.I a] J (.b false):=by
 refine aZ func124 amg.2 λd c=>au ?_;simp only[amg,SS,seval];simp only[VV,seval];exact aO (.inr rfl) rfl ⟨by simp[Pm.one],rfl⟩
def ad8(a b:Int)(J:ak):bM prog 123 [.I a,.I b] J (.b (decide (a<b))):=by
 refine aZ func123 amh.2 λe d=>au ?_;simp only[amh,SS,seval];simp only[VV,seval];refine aw (aaM a _) rfl ?_;simp only[VV,seval];refine bB (c:=false) (by simp only[VV,seval]<;>rfl) (nofun) rfl (v:=.b false) ?_;simp only[VV,seval];exact aO (.inr rfl) rfl ⟨rfl,rfl⟩
def ahA{J:ak}{K:bl}(l:bH)(z:l.Pairwise λa b=>a<b)(t:Int)(F:l.length<2^30):∀(N i j:Nat),j - i<=N->i<=Et l t->Et l t<=j->j<=l.length ->
  ((fh (.sl 1 (l.map bV)) (fh (.I t) (fj 4 (fh (.I l.length) (fh (.I (Et l t)) (fj 46 fo)))))) λu=>K (.exit 0) ⟨u,J⟩) ->
  fm J.length prog QD K (N+1) ⟨(.sl 1 (l.map bV)::.I t::uu 4 (.I l.length::.I i::.I j::uu 45 [])),J⟩:=by
 intro N
 induction N with
 |zero =>
  intro i j v g n k d;obtain rfl:i=Et l t:=by omega
  have c:decide ((Et l t:Int)<(j:Int))=false:=by simp;omega
  refine ar λR e=>?_;simp only[QD,c,VV,seval];exact d ..
 |succ N ih =>
  intro i j v g n k d
  by_cases D:i<j
  .have c:decide ((i:Int)<(j:Int))=true:=by simp;omega
   have B:IntKind.i64.wrap ((i:Int)+(j:Int))=((i+j:Nat):Int):=by
    rw[show(i:Int)+(j:Int)=((i+j:Nat):Int)by omega,Ic (by omega)]
   have w:=agw (i+j) (by omega);have A:(i+j) / 2<l.length:=by omega
   have f:l[(i+j) / 2]?=some l[(i+j) / 2]:=ax A;generalize y:l[(i+j) / 2]=x at f;have r:gj (l.map bV) ((i+j) / 2) 0=some (.I x):=by simp[gj,f,bV]
   have o:=XP z t _ x f;clear y;generalize E:(i+j) / 2=m at *;have s:(0:Int)<=(m:Int):=by omega
   have q:(m:Int)<(l.length:Int):=by omega
   have p:IntKind.i64.wrap ((m:Int)+1)=((m+1:Nat):Int):=by rw[cm (by omega)]
   refine ar λR e=>?_;simp only[QD,c,B,w,p,r,s,q,ag,ao,VV,Int.reduceBEq,Int.reduceBNe,Nat.reduceAdd,Nat.reduceSub,Nat.reduceLeDiff,Nat.reduceEqDiff,Int.reduceToNat,reduceIte,reduceCtorEq];refine⟨by decide,?_⟩;refine aw (ad8 x t _) rfl ?_;simp only[p,VV,seval];refine⟨λh=>?_,λh=>?_⟩
   .have h:x<t:=by simpa using h
    have:=o.1 h;refine e _ (aK ?_ (ih (m+1) j (by omega) (by omega) n k d))
    repeat' constructor
   .have h:¬x<t:=by simpa using h
    have:¬m<Et l t:=λC=>h (o.2 C);refine e _ (aK ?_ (ih i m (by omega) g (by omega) (by omega) d))
    repeat' constructor
  .obtain rfl:i=Et l t:=by omega
   have c:decide ((Et l t:Int)<(j:Int))=false:=by simp;omega
   refine ar λR e=>?_;simp only[QD,c,VV,seval];exact d ..
def ajg(l:bH)(q:l.Pairwise λa b=>a<b)(t:Int)(u:l.length<2^30)(J:ak):bM prog 59 [.sl 1 (l.map bV),.I t] J (.iQ [.I (Et l t),.b (decide (t∈l))]):=by
 refine aZ func59 p59.2 λA z=>au ?_;have n:Et l t<=l.length:=UZ _ _;have y:=λK=>ahA (J:=J) (K:=K) l q t u l.length 0 l.length (by omega) (fA _) n (aD _);have i:=aen q t;simp only[p59,SS,seval];simp only[ag,VV,seval];refine bZ.wk (Wk.fg ?_) (bZ.uh (l.length+1) (y _ ?_))
 .repeat' constructor
 simp only[JE];intros;generalize Et l t=m at *;have d:(true==true)=true:=rfl;have f:(false==true)=false:=rfl
 by_cases w:m<l.length
 .have h:l[m]?=some l[m]:=ax w;generalize l[m]=x at h;have k:gj (l.map bV) m 0=some (.I x):=by simp[gj,h,bV]
  have g:decide ((m:Int)<(l.length:Int))=true:=by simp;omega
  have p:(0:Int)<=(m:Int):=by omega
  have o:(m:Int)<(l.length:Int):=by omega
  by_cases j:x=t
  .subst j;have e:decide (x∈l)=true:=lz (i.2 h);simp only[g,p,o,k,e,d,f,fW,kO,ag,ao,VV,seval];refine⟨_,rfl,?_⟩;simp only[e,d,f,kO,VV,seval];refine⟨nofun,.I 0,nofun,?_⟩;refine bB (c:=false) (by simp only[d,VV,seval]<;>rfl) (nofun) rfl (v:=.b false) ?_;simp only[d,f,VV,seval];refine bB (c:=false) (by simp only[d,VV,seval]<;>rfl) (nofun) rfl (v:=.b false) ?_;simp only[d,f,VV,seval];exact aO (.inr rfl) rfl ⟨rfl,rfl⟩
  .have e:decide (t∈l)=false:=nf (by rw[i,h];simpa using j);have r:(x==t)=false:=by simpa using j
   simp only[g,p,o,k,e,r,d,f,fW,ag,ao,VV,seval];refine⟨_,rfl,?_⟩;simp only[e,r,d,f,VV,seval];refine⟨⟨by omega,by rw[ag];omega⟩,.I x,⟨True,by rw[k],trivial⟩,?_⟩;refine bB (c:=true) (by simp only[d,VV,seval]<;>rfl) (λ_=>ade x _) rfl ?_;simp only[d,f,VV,seval];refine bB (c:=false) (by simp only[d,VV,seval]<;>rfl) (nofun) rfl (v:=.b false) ?_;simp only[d,f,VV,seval];exact aO (.inr rfl) rfl ⟨rfl,rfl⟩
 .have g:decide ((m:Int)<(l.length:Int))=false:=by simp;omega
  have s:decide (t∈l)=false:=nf (by rw[i,cI (by omega)];simp);simp only[g,s,d,f,xF,ag,VV,seval];refine⟨.I 0,?_⟩;simp only[d,f,VV,seval];refine⟨.I 0,?_⟩;refine bB (c:=false) (by simp only[d,f,VV,seval]<;>rfl) (nofun) rfl (v:=.b false) ?_;simp only[d,f,VV,seval];refine bB (c:=false) (by simp only[d,f,VV,seval]<;>rfl) (nofun) rfl (v:=.b false) ?_;simp only[d,f,VV,seval];exact aO (.inr rfl) rfl ⟨rfl,rfl⟩

set_option maxRecDepth 4000
set_option maxHeartbeats 0
abbrev lF(xs:bH):Ob:=.row 3 1 8 0 false (xs.map bV)
structure Tb (J S:ak) (a b:List It) (i ri:Nat) (cs:aB):Prop where
 len:J.length<=S.length
 hri:J.length<ri/\ri<S.length
 box:S[J.length]?=some (.box 25 cs)
 own:cs[i]?=some (.own ri 0)
 below:i<a.length->cs[i+1]?=some (.own (ri - 1) 0)/\ri - 1≠J.length/\S[ri - 1]?=some (lF (kH a b (i+1) 0))
def Ig(n:Int)(d : -9223372036854775808<=n/\n<=9223372036854775807)(J:ak):bM prog 252 [.I n] J (.agg [.I (if n<0 then -1 else 0),.i .u64 (if n<0 then n+18446744073709551616 else n)]):=by
 refine aZ func252 akY.2 λc e=>au ?_;simp only[akY,SS,seval];simp only[VV,seval]
 have a:n.fdiv (2^min 63 IntKind.i64.bits)=if n<0 then -1 else 0:=by
  have:(2:Int)^min 63 IntKind.i64.bits=9223372036854775808:=by decide
  rw[this,ajq _ (by omega)];split<;>omega
 have b:IntKind.u64.wrap n=if n<0 then n+18446744073709551616 else n:=by
  rw[IntKind.wrap_u64];split<;>omega
 simp only[a,b];exact gq c (by simp only[RS,seval]) (by simp only[LW])
def afH(c a d:Int)(h : -9223372036854775808<=c/\c<=9223372036854775807)(j : -9223372036854775808<=a/\a<=9223372036854775807)(e : -9223372036854775808<=d/\d<=9223372036854775807)(J:ak):
  bM prog 216 [.I c,.I a,.I d] J (.b (decide (d<=c - a))):=by
 refine aZ func216 alg.2 λk l=>au ?_;simp only[alg,SS,seval];simp only[VV,seval];refine aw (Ig c h _) rfl ?_;simp only[VV,seval];refine aw (Ig a j _) rfl ?_;simp only[VV,seval];refine aw (Ig d e _) rfl ?_;simp only[VV,seval];refine⟨⟨by split<;>omega,by split<;>omega,by split<;>omega⟩,?_⟩;refine bg k (.inr rfl) (by simp only[RS,seval];rfl) (by simp only[LW]) ⟨?_,rfl⟩;simp only[Pm.one,V.b.injEq];rw[cB];simp only[eD,aJ,aV,cE,IntKind.wrap_i64]
 by_cases g:c<0<;>by_cases f:a<0<;>by_cases i:d<0<;>simp only[g,f,i,aT,aS]<;>split<;>omega
def NB(p:Pn)(e:En)(a:Int)(h : -9223372036854775808<=a/\a<=9223372036854775807)(i : -9223372036854775808<=e.awh/\e.awh<=9223372036854775807)(g : -9223372036854775808<=p.iN/\p.iN<=9223372036854775807)(J:ak):bM prog 167 [.agg p.awa,.agg e.awa,.I a] J (.b (qx p e a)):=by
 refine aZ func167 alR.2 λf j=>au ?_;simp only[alR,SS,seval];simp only[Pn.awa,En.awa,VV,seval];refine⟨λd=>?_,λd=>⟨λc=>?_,λc=>?_⟩⟩
 .exact bg f (.inr rfl) (by simp only[RS,seval];rfl) (by simp only[LW]) ⟨by simp only[qx,d,Pm.one,aT],rfl⟩
 .have c:=(show((p.c8 != []&&p.c8 != e.c8)||(p.cA != []&&p.cA != e.cA))=true from c);exact bg f (.inr rfl) (by simp only[RS,seval];rfl) (by simp only[LW]) ⟨by simp only[qx,d,c,Pm.one];rfl,rfl⟩
 .have c:=(show((p.c8 != []&&p.c8 != e.c8)||(p.cA != []&&p.cA != e.cA))=false from c);refine bB (by simp only[VV,seval]<;>rfl) (λ_=>afH a e.awh p.iN h i g _) rfl ?_;simp only[VV,seval];exact bg f (.inr rfl) (by simp only[RS,seval];rfl) (by simp only[LW]) ⟨by simp only[qx,d,c,Pm.one];rfl,rfl⟩
def ad5{J:ak}{K:bl}(e:En)(a:Int)(n:cn J)(t : -9223372036854775808<=a/\a<=9223372036854775807)(v : -9223372036854775808<=e.awh/\e.awh<=9223372036854775807)
  (l:List Pn) (c:l.length<2^40) (r:∀p∈l,-9223372036854775808<=p.iN/\p.iN<=9223372036854775807):∀(rest pre:List Pn) (s:Int),l=pre++rest->0<=s/\s<=100 ->
  ((fj 7 (fh (.I (pF e a s rest)) (fj 25 fo))) λo=>K (.exit 0) ⟨o,J++[.box 37 e.awa]⟩) ->
  fm J.length prog N8 K (rest.length+1) ⟨(uu 2 (.I a::uu 1 (.ptr J.length 0::uu 2 (.I s::uu 2 (.sl 5 (l.map Pn.awa)::.I l.length::.I pre.length::uu 20 []))))),J++[.box 37 e.awa]⟩:=by
 intro rest
 induction rest with
 |nil =>
  intro pre s d k f;have d:=cN d
  subst d;refine ar λR i=>?_;simp only[N8,VV,seval];exact⟨λh=>by simp at h,λ_=>f ..⟩
 |cons p rest ih =>
  intro pre s d k f;subst d;have g:pre.length+1+rest.length<2^40:=by simp at c;omega
  have q:=dh pre p (by omega)
  have j:cn (J++[.box 37 e.awa]):=cC n (by simp[En.awa,LW]);refine ar λR i=>?_;simp only[N8,Pn.awa,En.awa,VV,seval];refine⟨λ_=>⟨by simp;omega,?_⟩,λh=>by simp at h;omega⟩;refine bB (by simp only[VV,seval]<;>rfl) (λ_=>NB p e a t v (r p (by simp)) _) rfl ?_;simp only[q,VV,seval];refine⟨λb=>?_,λb=>?_⟩
  .have w:0<p.points:=by simp only[aJ,aV]at b;exact b.1
   have u:IntKind.i64.wrap (s+if 100<p.points then 100 else p.points)=s+mn p.points 100:=IntWalk.i64_in _ (by split<;>omega);have m:0<=mn (s+mn p.points 100) 100/\mn (s+mn p.points 100) 100<=100:=by unfold mn;(repeat' split)<;>omega
   rw[u];exact i _ (cG [_] [_] j (by repeat' constructor) (by simp[LW]) (ih (pre++[p]) (mn (s+mn p.points 100) 100) (by simp) m (by simpa only[pF,b,aT]using f)))
  .exact i _ (cG [_] [_] j (by repeat' constructor) (by simp[LW]) (ih (pre++[p]) s (by simp) k (by simpa only[pF,b,aI,aS]using f)))
def W9(l:List Pn)(e:En)(a:Int)(g : -9223372036854775808<=a/\a<=9223372036854775807)(f : -9223372036854775808<=e.awh/\e.awh<=9223372036854775807)
  (b:l.length<2^40) (d:∀p∈l,-9223372036854775808<=p.iN/\p.iN<=9223372036854775807) (J:ak):bM prog 107 [.sl 5 (l.map Pn.awa),.agg e.awa,.I a] J (.I (lL l e a)):=by
 refine aZ func107 amt.2 λc h=>au ?_;simp only[amt,SS,seval];simp only[En.awa,ag,VV,seval];refine bZ.aK (fr':=(uu 2 (.I a::uu 1 (.ptr J.length 0::uu 2 (.I 0::uu 2 (.sl 5 (l.map Pn.awa)::.I l.length::.I ([]:List Pn).length::uu 20 [])))))) (by repeat' constructor) (l.length+1) (ad5 e a c g f l b d l [] 0 rfl (by omega) ?_);simp only[JE];intros;simp only[VV,seval];exact gq c (by simp only[RS,seval];rfl) (by simp only[LW])
def ahC{J:ak}{K:bl}(q:cn J)(l:List Pn)(c:l.length<2^40):∀(rest pre:List Pn),l=pre++rest ->
  (lM rest≠0->∀loc,((fj 2 (fh (.I (lM rest)) (fj 60 fo))) λi=>K .ret ⟨i,J++loc⟩))->(lM rest=0->((fj 63 fo) λi=>K (.exit 0) ⟨i,J⟩)) ->
  fm J.length prog Ve K (rest.length+1) ⟨(uu 8 (.sl 5 (l.map Pn.awa)::.I l.length::.I pre.length::uu 52 [])),J⟩:=by
 intro rest
 induction rest with
 |nil =>
  intro pre b a e;have b:=cN b
  subst b;refine ar λR n=>?_;simp only[Ve,VV,seval];exact⟨λh=>by simp at h,λ_=>e rfl ..⟩
 |cons p rest ih =>
  intro pre b a e;subst b;have j:pre.length+1+rest.length<2^40:=by simp at c;omega
  have r:=dh pre p (by omega)
  refine ar λR n=>?_;simp only[Ve,Pn.awa,VV,seval];refine⟨λ_=>⟨by simp;omega,?_⟩,λh=>by simp at h;omega⟩;refine⟨λf=>?_,λf=>?_⟩
  .have b:oX p=1:=by
    simp only[eD,aV]at f;unfold oX;rw[az (by omega)]
   have d:lM (p::rest)=1:=by simp[lM,b]
   rw[d]at a;exact a (by decide) _ ..
  .have m:¬(p.awq<0\/3<p.awq\/p.iN<0\/1073741824<p.iN\/p.points<0\/100<p.points):=by
    simp only[iv,dB]at f;omega
   refine bB (by simp only[VV,seval]<;>rfl) (λ_=>pH p.c8 _) rfl ?_;simp only[VV,seval];refine bB (by simp only[VV,seval]<;>rfl) (λ_=>pH p.cA _) rfl ?_;simp only[r,VV,seval]
   have o:((!p.c8==[]&&!awj p.c8)||(!p.cA==[]&&!awj p.cA))=!(named p.c8&&named p.cA):=by
    simp only[named];cases p.c8==[]<;>cases awj p.c8<;>cases p.cA==[]<;>cases awj p.cA<;>rfl
   rw[o];refine⟨λk=>?_,λk=>?_⟩
   .have d:lM (p::rest)=4:=by
     have:oX p=4:=by
      unfold oX;rw[an m,az (by cases g:named p.c8&&named p.cA<;>simp[g]at k |-)]
     simp[lM,this]
    rw[d]at a;exact a (by decide) _ ..
   .have d:lM (p::rest)=lM rest:=by
     have:oX p=0:=by
      unfold oX;rw[an m,an (by cases g:named p.c8&&named p.cA<;>simp[g]at k |-)]
     simp[lM,this]
    rw[d]at a e;exact n _ (uT [_] q (by repeat' constructor) (by simp[LW]) (ih (pre++[p]) (by simp) a e))
def Lu(l:List Pn)(a:l.length<2^40)(J:ak):bM prog 57 [.sl 5 (l.map Pn.awa)] J (.I (rk l)):=by
 refine aZ func57 p57.2 λc f=>au ?_;simp only[p57,SS,seval];simp only[ag,VV,seval];refine⟨λh=>?_,λh=>?_⟩
 .exact aO (.inr rfl) rfl ⟨by simp only[aV]at h;simp[rk,h,Pm.one],rfl⟩
 .have b:¬((16:Int)<l.length):=by simpa using h
  refine bZ.aK (fr':=(uu 8 (.sl 5 (l.map Pn.awa)::.I l.length::.I ([]:List Pn).length::uu 52 []))) (by repeat' constructor) (l.length+1) (ahC c l a l [] rfl (λg e=>?_) (λd=>?_))
  .simp only[JE];intros;simp only[VV,seval];exact gq c (by simp only[RS,seval,rk,b,aS]) (by simp only[LW])
  .simp only[JE];intros;simp only[VV,seval];exact aO (.inr rfl) (by simp only[RS,seval];rfl) ⟨by simp only[rk,b,aS,d,Pm.one],rfl⟩
def Qg(q:Qr)(h1:q.bU.length<2^39)(g:q.next.length<2^39)(J:ak):bM prog 15 [.agg q.awa] J (.I (fi q)):=by
 refine aZ func15 p15.2 λc i=>au ?_;simp only[p15,SS,seval];simp only[Qr.awa,VV,seval];refine aw (qE q.awc _) rfl ?_;simp only[VV,seval];refine⟨λh=>?_,λh=>?_⟩
 .have a:cd q.awc≠0:=by simpa using h
  exact bg c (.inr rfl) (by simp only[RS,seval];rfl) (by simp only[LW]) ⟨by simp[fi,a,Pm.one],rfl⟩
 have a:cd q.awc=0:=by simpa using h
 refine⟨λh=>?_,λh=>?_⟩
 .have b:q.awc=[]:=by simpa using h
  exact bg c (.inr rfl) (by simp only[RS,seval];rfl) (by simp only[LW]) ⟨by rw[b]at a;simp[fi,a,b,Pm.one],rfl⟩
 have b:¬q.awc.length=0:=by simpa using h
 refine aw (pG q.bU h1 _) rfl ?_;simp only[VV,seval];refine⟨λh=>?_,λh=>?_⟩
 .have d:(parse q.bU).2.2≠0:=by simpa using h
  exact bg c (.inr rfl) (by simp only[RS,seval];rfl) (by simp only[LW]) ⟨by simp only[fi,a,b,d,Pm.one,fc,eN,cP,aT,aS],rfl⟩
 have d:(parse q.bU).2.2=0:=by simpa using h
 refine aw (pG q.next g _) rfl ?_;simp only[VV,seval];refine⟨λh=>?_,λh=>?_⟩
 .have e:(parse q.next).2.2≠0:=by simpa using h
  exact bg c (.inr rfl) (by simp only[RS,seval];rfl) (by simp only[LW]) ⟨by simp only[fi,a,b,d,e,Pm.one,fc,eN,cP,aT,aS],rfl⟩
 have e:(parse q.next).2.2=0:=by simpa using h
 refine⟨λh=>?_,λh=>?_⟩
 .have f:q.now<0\/1073741824<q.now\/q.threshold<1\/102<q.threshold\/q.gJ<1\/100<q.gJ:=by
   simp only[eD,aV]at h;omega
  exact bg c (.inr rfl) (by simp only[RS,seval];rfl) (by simp only[LW]) ⟨by simp only[fi,a,b,d,e,f,Pm.one,fc,eN,cP,aT,aS],rfl⟩
 .have f:¬(q.now<0\/1073741824<q.now\/q.threshold<1\/102<q.threshold\/q.gJ<1\/100<q.gJ):=by
   simp only[iv,dB]at h;omega
  exact bg c (.inr rfl) (by simp only[RS,seval];rfl) (by simp only[LW]) ⟨by simp only[fi,a,b,d,e,f,Pm.one,fc,eN,cP,aT,aS],rfl⟩
structure UB (e:En) (l:List Pn) (q:Qr):Prop where
 now : -9223372036854775808<=q.now/\q.now<=9223372036854775807
 awh : -9223372036854775808<=e.awh/\e.awh<=9223372036854775807
 len:l.length<2^40
 iN:∀p∈l,-9223372036854775808<=p.iN/\p.iN<=9223372036854775807
def Ku(e:En)(a b:List It)(l:List Pn)(q:Qr)(m:a.length<2^27)(i:b.length<2^27)(h:UB e l q)(J:ak):
  bM prog 50 [.agg e.awa,.sl 3 (a.map It.awa),.sl 3 (b.map It.awa),.sl 5 (l.map Pn.awa),.agg q.awa] J (.agg (jB e a b l q).awa):=by
 refine aZ func50 p50.2 λk o=>au ?_;simp only[p50,SS,seval];simp only[Qr.awa,En.awa,VV,seval];intro X;refine aw (Tg a b m i _) rfl ?_;simp only[VV,seval];intro Y;refine aw (W9 l e q.now h.now h.awh h.len h.iN _) rfl ?_;have n:=wL a b (Kn a b m i).1;have j:=zk e q.now l 0 (by omega);have j:0<=lL l e q.now/\lL l e q.now<=100:=j;have p:=xi e q;simp only[VV,seval];refine⟨λd=>?_,λd=>?_⟩
 .have f:eX a b=100:=by simpa using d
  refine aw (Ur e q _) (by simp only[En.awa,Qr.awa,VV,seval]) ?_;have c:IntKind.i64.wrap (eX a b+kf e q)=eX a b+kf e q:=IntWalk.i64_in _ (by omega);have g:IntKind.i64.wrap (eX a b+kf e q - lL l e q.now)=eX a b+kf e q - lL l e q.now:=IntWalk.i64_in _ (by omega);simp only[c,g,VV,seval];exact bg k (.inr rfl) (by simp only[RS,seval];rfl) (by simp only[LW]) ⟨by simp only[jB,Mt.awa,f,Pm.one,mx,aT],rfl⟩
 .have f:¬eX a b=100:=by simpa using d
  have c:IntKind.i64.wrap (eX a b+0)=eX a b+0:=IntWalk.i64_in _ (by omega);have g:IntKind.i64.wrap (eX a b+0 - lL l e q.now)=eX a b+0 - lL l e q.now:=IntWalk.i64_in _ (by omega);simp only[c,g,VV,seval];exact bg k (.inr rfl) (by simp only[RS,seval];rfl) (by simp only[LW]) ⟨by simp only[jB,Mt.awa,f,Pm.one,mx,aS],rfl⟩
def Zy(e:En)(l:List Pn)(q:Qr)(h:UB e l q)(h1:e.awc.length<2^38)(b:bd e.awc<2^38)(d:q.awc.length<2^38)(c:bd q.awc<2^38)(a:(dz e.awc).length<2^27)(f:(dz q.awc).length<2^27)(J:ak):
  bM prog 20 [.agg e.awa,.sl 5 (l.map Pn.awa),.agg q.awa] J (.agg (qL e l q).awa):=by
 refine aZ func20 p20.2 λg i=>au ?_;simp only[p20,SS,seval];simp only[Qr.awa,En.awa,VV,seval];refine aw (xO e.awc h1 b _) rfl ?_;simp only[VV,seval];refine aw (xO q.awc d c _) rfl ?_;simp only[VV,seval];refine aw (Ku e _ _ l q a f h _) rfl ?_;simp only[Mt.awa,VV,seval];exact gq g (by simp only[RS,seval];rfl) (by simp only[LW])
end Go.Proofs.Tryz

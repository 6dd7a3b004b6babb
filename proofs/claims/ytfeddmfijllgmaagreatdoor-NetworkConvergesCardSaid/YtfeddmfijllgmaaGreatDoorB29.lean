/- A part of a proof; the claim's last text says of what. -/
import Derived.Test.YtfeddmfijllgmaaGreatDoorB21
import Derived.Test.YtfeddmfijllgmaaGreatDoorB24
import Derived.Test.YtfeddmfijllgmaaGreatDoorB27
set_option linter.all false
set_option maxHeartbeats 2000000
open Bool renaming true->θ,false->G
open Go.Proofs.Tryz renaming prog->κ
open List renaming length->Y

namespace Go.Proofs.Tryz
open Go Go.Pm Go.Bt
variable(b:aR)(X:aj)(q:V)(L:Ob)(n:Int)(N:gW)(a:Nat)(r:Rb)(o:aV)(l:bU)(P:List It){c T:Bool}{t f M k:Int}{m:Nat}{x:Ob}{R:Rb}{U Q F:aR}{J:aj}{K:bL}{H:bU}
def ahi(h0 : -9223372036854775808<=n)(h1:n<=9223372036854775807)(J:aj):bh κ 248 [.I n] J (.s (Lib.itoa n)):=by
 refine PC.acq λB p w o i j a=>?_;have d:=(a.2 0 _ rfl).kK;have f:i=#[.int .i64 n]:=by rw[vs1 a.1,d]
 have l:(prog.globalNamed "internal/strconv.uint64pow10").isSome=θ:=by kernel_rfl
 obtain⟨g,m⟩:=Option.isSome_iff_exists.1 l;have b:=j.tab (t:=("internal/strconv.uint64pow10",.u64,I5)) (by simp[aft]) m;rw[YX]at b;refine⟨_,?_,λh=>ahj n h0 h1⟩;rw[f];refine(Tryz.strconv_Itoa n h0 h1 w b).mono ?_;rintro e h ⟨c,k,os,rfl⟩;exact⟨c,Qd w k os⟩
def agr{J ext:aj}(w:Y b<2^40):∀(d e a:aR) (g:Nat),b=e++d->Y a+4*Y d<2^42 ->((fh (.own J.length (g+Y d)) (fj 59 fo)) λE=>K (.exit 0) ⟨E,J++(.row 5 1 1 (g+Y d) G (aN (a++d.flatMap ig))::ext)⟩) ->gw m κ I8 K (Y d+1) ⟨(.own J.length g::.s b::uu 3 (.I (Y e)::uu 54 [])),J++(.row 5 1 1 g G (aN a)::ext)⟩:=by
 intro d;induction d with
 |nil =>intro e a g u D v;have u:=dL u;subst u;refine az λR l=>?_;simp only[I8,W,seval];simp only[mP,bI,ai,cu]at v;exact⟨λh=>by simp at h,λ_=>v ..⟩
 |cons c d ih =>
 intro e a g u D v;subst u;have r:=dD e c (by simp at w;omega);have z:e++c::d=(e++[c])++d:=by simp
 simp only[ae]at D;have next:∀(t:aR),ig c=t->Y t<=4->∀{R:ck} {y:aB},(∀x,gw m κ I8 K (Y d+1) x->R x) ->
   rk y (.own J.length (g+1)::.s (e++c::d)::uu 3 (.I (Y (e++[c]))::uu 54 []))->R ⟨y,J++(.row 5 1 1 (g+1) G (aN (a++t))::ext)⟩:=by
  intro t F O R y l H;have M:a++(c::d).flatMap ig=(a++t)++d.flatMap ig:=by simp[F]
  have L:g+Y (c::d)=(g+1)+Y d:=by simp;omega
  rw[M,L]at v;refine l _ ?_;exact bX H (ih (e++[c]) (a++t) (g+1) z (by simp;omega) v)
 have f:∀m:Nat,m<=4->(Y (aN a)+m)*1<=2^47/\Y (aN a)+m<=maxLen:=λm N=>by simp only[bM,maxLen];omega
 have q:∀(t:aR),aN a++aN t=aN (a++t):=λt=>gp;refine az λR l=>?_;simp only[I8,VV,seval];refine⟨λ_=>⟨by simp;omega,?_⟩,λh=>by simp at h<;>omega⟩;refine al (Sa c _) rfl ?_;cases p:yB c with
 |true =>simp only[VV,seval];refine⟨f 1 (by omega),?_⟩;rw[show aN a++[[V.i .u8 c.toNat]]=aN (a++[c])from q [c]];refine next [c] (by simp[ig,p]) (by simp) l ?_;rw[r];repeat' constructor
 |false =>
 by_cases j:c=10;.simp only[Yn (k:=10) j rfl,VV,seval];refine⟨f 2 (by omega),?_⟩;rw[show aN a++[[V.i .u8 92],[V.i .u8 110]]=aN (a++[92,110])from q [92,110]];refine next [92,110] (by simp only[ig,p,aQ j];rfl) (by simp) l ?_;rw[r];repeat' constructor
 by_cases n:c=9;.simp only[xx (k:=10) j rfl,Yn (k:=9) n rfl,VV,seval];refine⟨f 2 (by omega),?_⟩;rw[show aN a++[[V.i .u8 92],[V.i .u8 116]]=aN (a++[92,116])from q [92,116]];refine next [92,116] (by simp only[ig,p,aw j,aQ n];rfl) (by simp) l ?_;rw[r];repeat' constructor
 by_cases o:c=92\/c=60\/c=123
 .have A:((((c.toNat:Int)==92)||((c.toNat:Int)==60))||((c.toNat:Int)==123))=θ:=by rcases o with h|h|h<;>rw[h]<;>rfl
  simp only[xx (k:=10) j rfl,xx (k:=9) n rfl,A,VV,seval];refine⟨f 2 (by omega),?_⟩;rw[show aN a++[[V.i .u8 92],[V.i .u8 c.toNat]]=aN (a++[92,c])from q [92,c]];refine next [92,c] (by simp only[ig,p,aw j,aw n,aQ o];rfl) (by simp) l ?_;rw[r];repeat' constructor
 have A:((((c.toNat:Int)==92)||((c.toNat:Int)==60))||((c.toNat:Int)==123))=G:=by rw[xx (k:=92) (λh=>o (.inl h)) rfl,xx (k:=60) (λh=>o (.inr (.inl h))) rfl,xx (k:=123) (λh=>o (.inr (.inr h))) rfl];rfl
 have B:=arq c;have C:=arp c;simp only[xx (k:=10) j rfl,xx (k:=9) n rfl,A,B.2.2,C.2.2,VV,Int.reduceBEq,Int.reduceBNe,Nat.reduceAdd,Nat.reduceSub,Nat.reduceLeDiff,Nat.reduceEqDiff,Int.reduceToNat,reduceIte,reduceCtorEq];refine⟨by simp,by simpa using⟨B.1,B.2.1⟩,by simpa using⟨C.1,C.2.1⟩,f 4 (by omega),?_⟩;rw[show aN a++[[V.i .u8 92],[V.i .u8 120],[V.i .u8 (mM (c.toNat / 16)).toNat],[V.i .u8 (mM (c.toNat % 16)).toNat]]=aN (a++[92,120,mM (c.toNat / 16),mM (c.toNat % 16)])from q [92,120,mM (c.toNat / 16),mM (c.toNat % 16)]];refine next [92,120,mM (c.toNat / 16),mM (c.toNat % 16)] (by simp only[ig,p,aw j,aw n,aw o];rfl) (by simp) l ?_;rw[r];repeat' constructor
def L9(s:aR)(g:Nat)(a:Y b+4*Y s<2^42)(J ext:aj):PC κ 249 [.own J.length g,.s s] (J++(.row 5 1 1 g G (aN b)::ext)) (λr c=>r=.own J.length (g+Y s)/\c=J++(.row 5 1 1 (g+Y s) G (aN (b++s.flatMap ig))::ext)):=by
 refine aW func249 aow.2 λe d=>aq ?_;simp only[aow,SS,seval];simp only[W,seval];refine cB.bX ?_ (Y s+1) (agr s (by omega) s [] b g rfl a ?_);.repeat' constructor
 simp only[JE];intros;simp only[W,seval];exact dS (.inr rfl) rfl (Wk.refl _ _) rfl ⟨rfl,rfl⟩
def agy(A:bT J)(k:Y P<2^40)(s:∀x∈P,-9223372036854775808<=x.id/\x.id<=9223372036854775807)(y:∀x∈P,1<=x.azT/\x.azT<=5): ∀(a c:List It) (b:aR) (g:Nat),P=c++a->Y b+4*bo a+40*Y a<2^42 ->(∀g,((fj 5 (fh (.own J.length g) (fj 69 fo))) λv=>K (.exit 0) ⟨v,J++[.row 5 1 1 g G (aN (b++a.flatMap dP))]⟩)) ->gw (Y J) κ Jd K (Y a+1) ⟨(uu 5 (.own J.length g::uu 8 (.sl 3 (P.map It.azR)::.I (Y P)::.I (Y c)::uu 58 []))),J++[.row 5 1 1 g G (aN b)]⟩:=by
 intro a;induction a with
 |nil =>intro c b g i u j;have i:=dL i;subst i;refine az λR e=>?_;simp only[Jd,W,seval];simp only[mP,bI]at j;exact⟨λh=>by simp at h,λ_=>j g ..⟩
 |cons x a ih =>
 intro c b g i u j;subst i;have f:=dD c x (by simp at k;omega);have r:c++x::a=(c++[x])++a:=by simp
 simp only[bo,ae]at u;have m:=s x (by simp);have D:=y x (by simp);have E:=Lib.itoa_length_le x.id m.1 m.2;have next:∀(t:aR) (p:Nat) {o:Ob},dP x=t->Y t<=4*Y x.azX+30->∀{R:ck} {q:aB},(∀l,gw (Y J) κ Jd K (Y a+1) l->R l) ->
   rk q (uu 5 (.own J.length p::uu 8 (.sl 3 ((c++x::a).map It.azR)::.I (Y (c++x::a))::.I (Y (c++[x]))::uu 58 [])))->R ⟨q,J++[.row 5 1 1 p G (aN (b++t)),o]⟩:=by
  intro t p o w F R q e C;have B:b++(x::a).flatMap dP=(b++t)++a.flatMap dP:=by simp[w]
  rw[B]at j;refine e _ (cn [_] [_] (cj A (by simp)) C ?_ (ih (c++[x]) (b++t) p r (by simp;omega) j));simp only[LW,ae,ai,aG];omega
 have d:∀n:Nat,n<=Y x.azX+30->(Y (aN b)+n)*1<=2^47/\Y (aN b)+n<=maxLen:=λn z=>by simp only[bM,maxLen];omega
 have azU:∀n:Nat,n<=Y x.azX+30->n<=maxLen:=λn z=>by simp only[maxLen];omega
 refine az λR e=>?_;simp only[Jd,It.azR,VV,seval];refine⟨λ_=>⟨by simp;omega,?_⟩,λh=>by simp at h<;>omega⟩;refine al (ahi x.id m.1 m.2 _) rfl ?_;rcases(by omega:x.azT=1\/x.azT=2\/x.azT=3\/x.azT=4\/x.azT=5)with h|h|h|h|h;.simp only[h,VV,seval];refine al (L9 b x.azX g (by omega) J [_]) rfl ?_;simp only[VV,seval];refine next (x.azX.flatMap ig) (g+Y x.azX) (by simp only[dP,h,aU]) (by have:=Np x.azX;omega) e ?_;rw[f];repeat' constructor
 .simp only[h,VV,seval];refine⟨azU _ (by omega),azU _ (by omega),azU _ (by simp;omega),azU _ (by simp;omega),d _ (by simp only[bM,ae,ah,ai];omega),?_⟩;rw[gp];refine next (60::(Lib.itoa x.id++58::(x.azX++[62]))) (g+1) (by simp[dP,h]) (by simp;omega) e ?_;rw[f];repeat' constructor
 .simp only[h,VV,seval];refine⟨azU _ (by omega),azU _ (by simp;omega),azU _ (by simp;omega),azU _ (by simp;omega),d _ (by simp only[bM,ae,ah,ai];omega),?_⟩;rw[gp];refine next (60::47::(Lib.itoa x.id++58::(x.azX++[62]))) (g+1) (by simp[dP,h]) (by simp;omega) e ?_;rw[f];repeat' constructor
 .simp only[h,VV,seval];refine⟨azU _ (by omega),azU _ (by omega),azU _ (by simp;omega),azU _ (by simp;omega),d _ (by simp only[bM,ae,ah,ai];omega),?_⟩;rw[gp];refine next (60::(Lib.itoa x.id++58::(x.azX++[47,62]))) (g+1) (by simp[dP,h]) (by simp;omega) e ?_;rw[f];repeat' constructor
 simp only[h,VV,seval];refine⟨azU _ (by omega),azU _ (by first|omega|(simp;omega)),d _ (by simp only[bM,ae,ah,ai];omega),?_⟩;rw[gp];refine next (123::(x.azX++[125])) (g+1) (by simp[dP,h]) (by simp;omega) e ?_;rw[f];repeat' constructor
def Fy(b:Y P<2^30)(d:bo P<2^30)(a:∀x∈P,-9223372036854775808<=x.id/\x.id<=9223372036854775807)(J:aj):bh κ 207 [.sl 3 (P.map It.azR)] J (.jg [.s (aAh P).1,.I (aAh P).2]):=by
 refine aW func207 aoU.2 λc f=>aq ?_;simp only[aoU,SS,seval];simp only[VV,seval];refine al (ui P _) rfl ?_;simp only[aa,VV,seval];refine⟨λh=>?_,λh=>?_⟩
 .have h:dq P≠0:=by simpa using h
  exact bK (.inr rfl) rfl ⟨by simp only[aAh,h,aU,gA,fi];rfl,rfl⟩
 have h:dq P=0:=by simpa using h
 have e:aAh P=(P.flatMap dP,0):=by simp only[aAh,h,gA,gu,bw]
 rw[e];refine cB.wk ((Wk.k9 (k:=5) aa6 rfl).trans (Wk.fw ?_)) (cB.kT (Y P+1) (agy P c (by omega) a (zh h) P [] [] 0 rfl (by simp only[ai];omega) ?_));.simp only[W,seval];repeat' constructor
 intro g;simp only[JE];intros;simp only[iB,ay,W,seval];exact bA c (.inr rfl) rfl (by simp[LW]) ⟨rfl,rfl⟩
def lQ(e:En)(f:e.azU)(J:aj):bh κ 149 [.agg e.azR] J (.I (dx e)):=by
 refine aW func149 apG.2 λb m=>aq ?_;simp only[apG,SS,seval];simp only[En.azR,VV,seval];refine al (ui e.azZ _) rfl ?_;simp only[VV,seval];refine⟨λh=>?_,λh=>?_⟩
 .have h:dq e.azZ≠0:=by simpa using h
  exact bA b (.inr rfl) rfl (by simp[LW]) ⟨by simp only[dx,h,aU,gA,fi];rfl,rfl⟩
 have i:dq e.azZ=0:=by simpa using h
 refine al (ui e.az0 _) rfl ?_;simp only[VV,seval];refine⟨λh=>?_,λh=>?_⟩
 .have h:dq e.az0≠0:=by simpa using h
  refine bA b (.inr rfl) rfl (by simp[LW]) ⟨?_,rfl⟩;simp only[dx,i,h,aU,gA,fi,gu,bw];rfl
 have j:dq e.az0=0:=by simpa using h
 refine al (Qz e.azZ e.az0 (by have:=f.azZ;omega) (by have:=f.az0;omega) (by have:=f.lC;omega) (by have:=f.td;omega) _) rfl ?_;simp only[aa,VV,seval];refine bV (by simp only[VV,seval]<;>rfl) (λ_=>wL (kc e.azZ e.az0) e.azZ _) rfl ?_;simp only[VV,seval];refine bV (by simp only[VV,seval]<;>rfl) (λ_=>wL (k6 e.azZ e.az0) e.az0 _) rfl ?_;simp only[VV,seval];have a:qx e=!((((Y e.azZ:Int)==0)||!jG (kc e.azZ e.az0) e.azZ)||!jG (k6 e.azZ e.az0) e.az0):=by
  have:((Y e.azZ:Int)==0)=(Y e.azZ==0):=by rw[eD];simp
  simp only[qx,this];cases(Y e.azZ==0)<;>cases jG (kc e.azZ e.az0) e.azZ<;>cases jG (k6 e.azZ e.az0) e.az0<;>rfl
 refine⟨λh=>?_,λh=>?_⟩;.rw[h]at a;refine bA b (.inr rfl) rfl (by simp[LW]) ⟨?_,rfl⟩;simp only[dx,i,j,a,gA,gu,bw];rfl
 rw[h]at a;have d:dx e=if(parse e.cM).2.2≠0 then(parse e.cM).2.2 else if(parse e.next).2.2≠0 then(parse e.next).2.2 else
   if(named e.eu&&named e.dC)=G then 4 else if e.aAb<0\/1073741824<e.aAb\/e.aAc<1\/3<e.aAc then 1 else 0:=by simp only[dx,i,j,a,gA,gu,bw];rfl
 refine al (sV e.cM (by have:=f.cM;omega) _) rfl ?_;simp only[VV,seval];refine⟨λh=>?_,λh=>?_⟩
 .have h:(parse e.cM).2.2≠0:=by simpa using h
  rw[d,aQ h];exact bA b (.inr rfl) rfl (by simp[LW]) ⟨rfl,rfl⟩
 have k:¬(parse e.cM).2.2≠0:=by simpa using h
 refine al (sV e.next (by have:=f.next;omega) _) rfl ?_;simp only[VV,seval];refine⟨λh=>?_,λh=>?_⟩
 .have h:(parse e.next).2.2≠0:=by simpa using h
  rw[d,aw k,aQ h];exact bA b (.inr rfl) rfl (by simp[LW]) ⟨rfl,rfl⟩
 have l:¬(parse e.next).2.2≠0:=by simpa using h
 rw[aw k,aw l]at d;refine bV (by simp only[VV,seval]<;>rfl) (λ_=>sX e.eu _) rfl ?_;simp only[VV,seval];refine bV (by simp only[VV,seval]<;>rfl) (λ_=>sX e.dC _) rfl ?_;simp only[VV,seval];have g:((!e.eu==[]&&!aAa e.eu)||(!e.dC==[]&&!aAa e.dC))=!(named e.eu&&named e.dC):=by simp only[named];cases e.eu==[]<;>cases e.dC==[]<;>cases aAa e.eu<;>cases aAa e.dC<;>rfl
 rw[g];refine⟨λh=>?_,λh=>⟨λc=>?_,λc=>?_⟩⟩
 .have h:(named e.eu&&named e.dC)=G:=by rw[dG]at h;exact h
  rw[d,aQ h];exact bA b (.inr rfl) rfl (by simp[LW]) ⟨rfl,rfl⟩
 .have h:¬(named e.eu&&named e.dC)=G:=by rw[eP]at h;rw[h];simp
  have c:e.aAb<0\/1073741824<e.aAb\/e.aAc<1\/3<e.aAc:=by simp at c;omega
  rw[d,aw h,aQ c];exact bA b (.inr rfl) rfl (by simp[LW]) ⟨rfl,rfl⟩
 have h:¬(named e.eu&&named e.dC)=G:=by rw[eP]at h;rw[h];simp
 have c:¬(e.aAb<0\/1073741824<e.aAb\/e.aAc<1\/3<e.aAc):=by simp at c;omega
 rw[d,aw h,aw c];exact bA b (.inr rfl) rfl (by simp[LW]) ⟨rfl,rfl⟩
def JJ(e:En)(a:e.azU)(J:aj):bh κ 201 [.agg e.azR] J (.s (dO e)):=by refine aW func201 aoY.2 λc d=>aq ?_;simp only[aoY,SS,seval];simp only[En.azR,VV,seval];refine al (Fy e.azZ a.azZ a.lC (λx b=>a.ids x (by simp[b])) _) rfl ?_;simp only[VV,seval];have g:=qH e.azZ a.azZ a.lC (λx b=>a.ids x (by simp[b]));have f:=a.cM;have h:=a.next;refine⟨by simp[maxLen];omega,by simp[maxLen];omega,by simp[maxLen];omega,by simp[maxLen];omega,?_⟩;refine bA c (.inr rfl) rfl (by simp[LW]) ⟨?_,rfl⟩;simp[Pm.one,dO]
def MW(e:En)(a:e.azU)(J:aj):bh κ 152 [.agg e.azR] J (.s (gT e)):=by
 refine aW func152 apE.2 λb c=>aq ?_;simp only[apE,SS,seval];simp only[En.azR,VV,seval];refine al (lQ e a _) rfl ?_;simp only[VV,seval];refine⟨λh=>?_,λh=>?_⟩
 .have h:dx e≠0:=by simpa using h
  exact bA b (.inr rfl) rfl (by simp[LW]) ⟨by simp only[gT,h,aU,gA,fi];rfl,rfl⟩
 have h:¬dx e≠0:=by simpa using h
 refine al (JJ e a _) rfl ?_;simp only[VV,seval];exact bA b (.inr rfl) rfl (by simp[LW]) ⟨by simp only[gT,aw h];rfl,rfl⟩
def Gr(J:aj):bh κ 222 [.agg o.azR] J (.agg (aAi o).azR):=by
 refine aW func222 aoP.2 λa b=>aq ?_;simp only[aoP,SS,seval];simp only[aV.azR,cL.azR,En.azR,VV,seval];refine⟨λh=>?_,λh=>?_⟩
 .have h:o.azT≠2:=by simpa using h
  refine bA a (.inr rfl) (by simp only[RS,seval];rfl) (by simp[LW]) ⟨?_,rfl⟩;simp only[aAi,aQ h];rfl
 have h:¬o.azT≠2:=by simpa using h
 refine bA a (.inr rfl) (by simp only[RS,seval];rfl) (by simp[LW]) ⟨?_,rfl⟩;simp only[aAi,aw h];rfl
def Zc(e:En)(J:aj):bh κ 221 [.agg e.azR] J (.b (pz e)):=by
 refine aW func221 aoQ.2 λa f=>aq ?_;simp only[aoQ,SS,seval];simp only[En.azR,aa,VV,seval];have d:((Y e.az0:Int)==0)=(Y e.az0==0):=by rw[eD];simp
 have c:pz e=((Y e.az0==0)&&(e.eu==[]&&(e.dC==[]&&(e.aAb==0&&e.aAc==0)))):=rfl;rw[d,c];cases (Y e.az0)==0<;>simp only[VV,seval];.exact gm a (by rfl) (by simp[LW])
 cases e.eu==[]<;>simp only[VV,seval];.exact gm a (by rfl) (by simp[LW])
 cases e.dC==[]<;>simp only[VV,seval];.exact gm a (by rfl) (by simp[LW])
 cases e.aAb==0<;>simp only[VV,seval];.exact gm a (by rfl) (by simp[LW])
 exact gm a (by rfl) (by simp[LW])
def agM(f:Y l<2^63):∀(a b:bU),l=b++a ->(a.any (λm=>decide (128<m))=G->((fj 1 (fh (q) (fj 60 fo))) λj=>K (.exit 0) ⟨j,J⟩))->(a.any (λm=>decide (128<m))=θ->((fj 1 (fh (q) (fh (.I 1) (fj 59 fo)))) λj=>K .ret ⟨j,J⟩)) ->gw m κ O2 K (Y a+1) ⟨(uu 1 (q::uu 28 (.sl 1 (l.map cN)::.I (Y l)::.I (Y b)::uu 29 []))),J⟩:=by
 intro a;induction a with
 |nil =>intro b d g i;have d:=dL d;subst d;refine az λR k=>?_;simp only[O2,VV,seval];exact⟨λh=>by simp at h,λ_=>g rfl ..⟩
 |cons c a ih =>
 intro b d g i;subst d;refine az λR k=>?_;simp only[O2,cN,VV,seval];refine⟨λ_=>⟨by simp;omega,λh=>?_,λh=>?_⟩,λh=>by simp at h<;>omega⟩
 .have h:128<c:=by simpa using h
  exact i (by simp[h]) ..
 have h:¬128<c:=by simpa using h
 have e:(c::a).any (λm=>decide (128<m))=a.any (λm=>decide (128<m)):=by simp[h]
 rw[e]at g i;refine k _ (bX ?_ (ih (b++[c]) (by simp) g i));rw[da (by simp at f;omega)];simp only[ah,ae,ai];repeat' constructor
def th(g:o.azU)(J:aj):bh κ 168 [.agg o.azR] J (.I (fc o)):=by
 refine aW func168 apq.2 λa p=>aq ?_;have q:=g.az1;simp only[apq,SS,seval];simp only[aV.azR,cL.azR,En.azR,VV,seval];refine al (EY o.aY _) rfl ?_;simp only[VV,seval];refine⟨λh=>?_,λh=>?_⟩
 .have h:k8 o.aY=G:=by cases c:k8 o.aY with|false=>rfl|true=>rw[c]at h;simp at h
  refine bA a (.inr rfl) (by simp only[RS,seval];rfl) (by simp[LW]) ⟨?_,rfl⟩;simp only[fc,h,aU];rfl
 have f:¬k8 o.aY=G:=by intro c;rw[c]at h;simp at h
 have k:fc o=if(o.azT≠1/\o.azT≠2)\/ko o.az1≠o.az1 then 1 else
   if o.az1.any (λn=>decide (128<n))then 1 else
   if ox o.az1 o.aY.bS≠o.aY.azW - 1 then 11 else
   if o.azT=2/\pz o.azV=G then 1 else dx (aAi o):=by simp only[fc,aw f]
 have l:1<=o.aY.azW/\o.aY.azW<=128:=by
  have:k8 o.aY=θ:=by simpa using f
  simp only[k8,bE]at this;omega
 rw[k];have j:(bif (o.azT != 1)then(o.azT != 2)else G)=decide (o.azT≠1/\o.azT≠2):=by rw[eD];by_cases i:o.azT=1<;>by_cases b:o.azT=2<;>simp[i,b]
 refine bV (by simp only[VV,seval]<;>rfl) (λ_=>QV o.az1 _) rfl ?_;simp only[VV,seval];refine bV (by simp only[VV,seval]<;>rfl) (λ_=>Qj (u9 o.az1 []) o.az1 _) rfl ?_;simp only[VV,seval];have e:o.az1.length<2^63:=by omega
 refine⟨λh=>?_,λh=>cB.bX ?_ (o.az1.length+1) (agM (.ptr J.length 0) o.az1 e o.az1 [] rfl (λd=>?_) (λd=>?_))⟩
 .have h:(o.azT≠1/\o.azT≠2)\/ko o.az1≠o.az1:=by simpa[ko]using h
  refine bA a (.inr rfl) (by simp only[RS,seval];rfl) (by simp[LW]) ⟨?_,rfl⟩;rw[aQ h];rfl
 .simp only[aa,ai,VV,seval];repeat' constructor
 .have h:¬((o.azT≠1/\o.azT≠2)\/ko o.az1≠o.az1):=by
   intro b;have:(o.azT != 1&&o.azT != 2||!u9 o.az1 []==o.az1)=θ:=by simpa[ko]using b
   rw[h]at this;simp at this
  rw[aw h,aw (show ¬(o.az1.any λn=>decide (128<n))=θ by rw[d];simp)];simp only[JE];intros;simp only[VV,seval];refine al (sL o.az1 o.aY.bS _) rfl ?_;simp only[VV,seval];have m:IntKind.i64.wrap (o.aY.azW - 1)=o.aY.azW - 1:=IntWalk.i64_in _ (by omega);rw[m];refine⟨λh=>?_,λh=>?_⟩
  .have h:ox o.az1 o.aY.bS≠o.aY.azW - 1:=by simpa using h
   refine bA a (.inr rfl) (by simp only[RS,seval];rfl) (by simp[LW]) ⟨?_,rfl⟩;rw[aQ h];rfl
  have h:¬ox o.az1 o.aY.bS≠o.aY.azW - 1:=by simpa using h
  rw[aw h];refine bV (by simp only[VV,seval]<;>rfl) (λ_=>Zc o.azV _) rfl ?_;simp only[VV,seval];refine⟨λh=>?_,λh=>?_⟩
  .have h:o.azT=2/\pz o.azV=G:=by simpa using h
   refine bA a (.inr rfl) (by simp only[RS,seval];rfl) (by simp[LW]) ⟨?_,rfl⟩;rw[aQ h];rfl
  have h:¬(o.azT=2/\pz o.azV=G):=by simpa using h
  rw[aw h];refine al (Gr o _) rfl ?_;simp only[VV,seval];refine al (lQ (aAi o) (yD g) _) rfl ?_;simp only[VV,seval];exact gm a (by rfl) (by simp[LW])
 have h:¬((o.azT≠1/\o.azT≠2)\/ko o.az1≠o.az1):=by
  intro b;have:(o.azT != 1&&o.azT != 2||!u9 o.az1 []==o.az1)=θ:=by simpa[ko]using b
  rw[h]at this;simp at this
 rw[aw h,aQ d];simp only[JE];intros;simp only[VV,seval];exact gm a (by rfl) (by simp[LW])
def acj(a:o.azU)(J:aj):bh κ 259 [.agg o.azR] J (.s (cX o)):=by
 refine aW func259 aot.2 λb c=>aq ?_;simp only[aot,SS,seval];simp only[aV.azR,cL.azR,En.azR,VV,seval];refine al (th o a _) rfl ?_;simp only[VV,seval];refine⟨λh=>?_,λh=>?_⟩
 .have h:fc o≠0:=by simpa using h
  exact bA b (.inr rfl) (by simp only[RS,seval];rfl) (by simp[LW]) ⟨by simp only[cX,h,aU,gA,fi];rfl,rfl⟩
 have h:¬fc o≠0:=by simpa using h
 refine al (Gr o _) rfl ?_;simp only[VV,seval];refine al (MW (aAi o) (yD a) _) rfl ?_;simp only[VV,seval];exact bA b (.inr rfl) (by simp only[RS,seval];rfl) (by simp[LW]) ⟨by simp only[cX,aw h];rfl,rfl⟩
def am8:n.fdiv (2^min 8 IntKind.i64.bits)=n / 256:=by
 have:(2:Int)^min 8 IntKind.i64.bits=256:=by decide
 rw[this,jd _ (by decide)]
def aiR:n.fdiv (2^min 16 IntKind.i64.bits)=n / 65536:=by
 have:(2:Int)^min 16 IntKind.i64.bits=65536:=by decide
 rw[this,jd _ (by decide)]
def Mj:IntKind.u8.wrap n=((ll n).toNat:Int):=by
 have a:IntKind.u8.wrap n=n % 256:=by simp[IntKind.wrap,IntKind.bits,IntKind.signed]
 rw[a];have c:0<=n % 256:=aiN _ (by decide);have b:n % 256<256:=Wd _ (by decide);simp only[ll,qN];omega
def aiT:aN b++[[V.i .u8 (ll (n / 256)).toNat],[V.i .u8 (ll n).toNat]]=aN (b++wm n):=by simp[aN,wm]
def Ia(c:Y b<2^46)(J ext:aj):PC κ 206 [.own J.length a,.I n] (J++(.row 5 1 1 a G (aN b)::ext)) (λr d=>r=.own J.length (a+1)/\d=J++(.row 5 1 1 (a+1) G (aN (b++wm n))::ext)):=by refine aW func206 afX.2 λe f=>aq ?_;simp only[afX,SS,seval];simp only[am8,Mj,bM,aiT,maxLen,VV,Int.reduceBEq,Int.reduceBNe,Nat.reduceAdd,Nat.reduceSub,Nat.reduceLeDiff,Nat.reduceEqDiff,Int.reduceToNat,reduceIte,reduceCtorEq];refine⟨by omega,by omega,?_⟩;exact dS (.inr rfl) rfl (Wk.refl _ _) rfl ⟨rfl,rfl⟩
def Yo(a:Y b<2^46)(J:aj):PC κ 206 [.lit 1 (aN b),.I n] J (λr c=>r=.own J.length 0/\c=J++[.row 5 1 1 0 G (aN (b++wm n))]):=by refine aW func206 afX.2 λd e=>aq ?_;simp only[afX,SS,seval];simp only[am8,Mj,bM,aiT,maxLen,gq,aP,VV,Int.reduceBEq,Int.reduceBNe,Nat.reduceAdd,Nat.reduceSub,Nat.reduceLeDiff,Nat.reduceEqDiff,Int.reduceToNat,reduceIte,reduceCtorEq];refine⟨by omega,by omega,?_⟩;exact dS (.inr rfl) rfl (Wk.refl _ _) rfl ⟨rfl,rfl⟩
def X6(c:Y b<2^45)(J ext:aj):PC κ 205 [.own J.length a,.I n] (J++(.row 5 1 1 a G (aN b)::ext)) (λr d=>r=.own J.length (a+2)/\d=J++(.row 5 1 1 (a+2) G (aN (b++G4 n))::ext)):=by refine aW func205 afY.2 λe f=>aq ?_;simp only[afY,SS,seval];simp only[aiR,VV,Int.reduceBEq,Int.reduceBNe,Nat.reduceAdd,Nat.reduceSub,Nat.reduceLeDiff,Nat.reduceEqDiff,Int.reduceToNat,reduceIte,reduceCtorEq];refine⟨by decide,?_⟩;refine al (Ia b (n / 65536) a (by omega) J ext) rfl ?_;simp only[VV,seval];refine al (Ia (b++wm (n / 65536)) n (a+1) (by simp[wm];omega) J ext) rfl ?_;simp only[VV,seval];refine dS (.inr rfl) rfl (Wk.refl _ _) rfl ⟨rfl,?_⟩;simp only[G4,aO]
def VB(a:Y b<2^45)(J:aj):PC κ 205 [.lit 1 (aN b),.I n] J (λr c=>r=.own J.length 1/\c=J++[.row 5 1 1 1 G (aN (b++G4 n))]):=by refine aW func205 afY.2 λd e=>aq ?_;simp only[afY,SS,seval];simp only[aiR,VV,Int.reduceBEq,Int.reduceBNe,Nat.reduceAdd,Nat.reduceSub,Nat.reduceLeDiff,Nat.reduceEqDiff,Int.reduceToNat,reduceIte,reduceCtorEq];refine⟨by decide,?_⟩;refine al (Yo b (n / 65536) (by omega) J) rfl ?_;simp only[VV,seval];refine al (Ia (b++wm (n / 65536)) n 0 (by simp[wm];omega) J []) rfl ?_;simp only[VV,seval];refine dS (.inr rfl) rfl (Wk.refl _ _) rfl ⟨rfl,?_⟩;simp only[G4,aO]
def sq:aB:=[.s b]
def agx{J ext:aj}(i:Y N<2^63)(o:∀s∈N,Y s<2^40):∀(a d:gW) (b:aR) (g:Nat),N=d++a ->Y b+Y a*2^41<2^45 ->((fh (.own J.length (g+3*Y a)) (fj 20 fo)) λl=>K (.exit 0) ⟨l,J++(.row 5 1 1 (g+3*Y a) G (aN (b++a.flatMap fH))::ext)⟩) ->gw m κ OL K (Y a+1) ⟨(.own J.length g::uu 6 (.sl 1 (N.map sq)::.I (Y N)::.I (Y d)::uu 11 [])),J++(.row 5 1 1 g G (aN b)::ext)⟩:=by
 intro a;induction a with
 |nil =>intro d b g e j f;have e:=dL e;subst e;refine az λR k=>?_;simp only[OL,VV,seval];simp only[ai,Nat.mul_zero,cu,mP,bI]at f;exact⟨λh=>by simp at h,λ_=>f ..⟩
 |cons c a ih =>
 intro d b g e j f;subst e;have r:=o c (by simp);simp only[ae]at j f;refine az λR k=>?_;simp only[OL,sq,VV,seval];refine⟨λ_=>⟨by simp;omega,?_⟩,λh=>by simp at h<;>omega⟩;refine al (X6 b c.length g (by omega) J ext) rfl ?_;simp only[bM,maxLen,VV,seval];refine⟨by simp[gz];omega,?_⟩;have q:b++G4 (Y c)++c=b++fH c:=by simp[fH]
 rw[gp,q];refine k _ (bX ?_ (ih (d++[c]) (b++fH c) (g+3) (by simp) (by simp[fH,gz];omega) ?_));.rw[da (by simp at i;omega)];simp only[ah,ae,ai];repeat' constructor
 have p:g+3+3*Y a=g+3*(Y a+1):=by omega
 have n:b++fH c++a.flatMap fH=b++(c::a).flatMap fH:=by simp
 rw[p,n];exact f
def Za(h:Y N<=3)(e:∀s∈N,Y s<2^40)(c:Y b<2^44)(J ext:aj):PC κ 208 [.own J.length a,.sl 1 (N.map sq)] (J++(.row 5 1 1 a G (aN b)::ext)) (λr d=>r=.own J.length (a+3*Y N)/\d=J++(.row 5 1 1 (a+3*Y N) G (aN (b++N.flatMap fH))::ext)):=by
 refine aW func208 aoT.2 λg f=>aq ?_;simp only[aoT,SS,seval];simp only[aa,VV,seval];refine cB.bX ?_ (Y N+1) (agx N (by omega) e N [] b a rfl (by omega) ?_);.repeat' constructor
 simp only[JE];intros;simp only[VV,seval];exact dS (.inr rfl) rfl (Wk.refl _ _) rfl ⟨rfl,rfl⟩
def aby:aN b++[[V.i .u8 (ll n).toNat]]=aN (b++[ll n]):=by simp[aN]
def af6{o:aV}(h:fc o=0):Y o.az1<=8:=by
 have a:ko o.az1=o.az1:=by
  simp only[fc]at h;split at h;.simp at h
  split at h;.simp at h
  rename_i c;by_cases a:ko o.az1=o.az1;.exact a
  exact absurd (.inr a) c
 have b:ko o.az1=(mf o.az1 [] 8).take (jf o.az1 [] 8):=rfl;rw[<- a,b];simp[oO];omega
def A8:(l.map λ_=>2).sum=2*Y l:=by induction l with|nil=>rfl|cons x l ih=>simp only[aI,List.sum_cons,ih,ae];omega
def kb:Y (fH b)=Y b+4:=by simp[fH,gz];omega
def asY(c:Y b<2^46)(J:aj)(o1:Ob)(ext:aj):PC κ 206 [.own (Y J+1) a,.I n] (J++(o1::.row 5 1 1 a G (aN b)::ext))
  (λr d=>r=.own (Y J+1) (a+1)/\d=J++(o1::.row 5 1 1 (a+1) G (aN (b++wm n))::ext)):=by have:=Ia b n a c (J++[o1]) ext;simpa only[ah,ae,ai,aG,aO,aF,ay]using this
def arM(c:Y b<2^45)(J:aj)(o1:Ob)(ext:aj):PC κ 205 [.own (Y J+1) a,.I n] (J++(o1::.row 5 1 1 a G (aN b)::ext))
  (λr d=>r=.own (Y J+1) (a+2)/\d=J++(o1::.row 5 1 1 (a+2) G (aN (b++G4 n))::ext)):=by have:=X6 b n a c (J++[o1]) ext;simpa only[ah,ae,ai,aG,aO,aF,ay]using this
def XB(f:Y N<=3)(e:∀s∈N,Y s<2^40)(c:Y b<2^44)(J:aj)(o1:Ob)(ext:aj):PC κ 208 [.own (Y J+1) a,.sl 1 (N.map sq)] (J++(o1::.row 5 1 1 a G (aN b)::ext))
  (λr d=>r=.own (Y J+1) (a+3*Y N)/\d=J++(o1::.row 5 1 1 (a+3*Y N) G (aN (b++N.flatMap fH))::ext)):=by have:=Za b N a f e c (J++[o1]) ext;simpa only[ah,ae,ai,aG,aO,aF,ay]using this
def agN{o1:Ob}(i:Y l<2^30):∀(a d:bU) (b:aR) (g:Nat),l=d++a ->Y b+2*Y a<2^45 ->((fj 1 (fh (q) (fj 1 (fh (.I 0) (fj 1 (fh (.own (Y J+1) (g+Y a)) (fj 93 fo))))))) λo=>K (.exit 0) ⟨o,J++[o1,.row 5 1 1 (g+Y a) G (aN (b++a.flatMap wm))]⟩) ->gw m κ O3 K (Y a+1) ⟨(uu 1 (q::uu 1 (.I 0::uu 1 (.own (Y J+1) g::uu 40 (.sl 1 (l.map cN)::.I (Y l)::.I (Y d)::uu 50 []))))),J++[o1,.row 5 1 1 g G (aN b)]⟩:=by
 intro a;induction a with
 |nil =>intro d b g e j f;have e:=dL e;subst e;refine az λR k=>?_;simp only[O3,VV,seval];simp only[ai,Nat.mul_zero,cu,mP,bI]at f;exact⟨λh=>by simp at h,λ_=>f ..⟩
 |cons c a ih =>
 intro d b g e j f;subst e;simp only[ae]at j f;refine az λR k=>?_;simp only[O3,cN,VV,seval];refine⟨λ_=>⟨by simp;omega,?_⟩,λh=>by simp at h<;>omega⟩;have n:=Ia b c g (by omega) (J++[o1]) [];simp only[ah,ae,ai,aG,aO,aF,ay]at n;refine al n rfl ?_;simp only[VV,seval];refine k _ (bX ?_ (ih (d++[c]) (b++wm c) (g+1) (by simp) (by simp[iU];omega) ?_));.rw[da (by simp at i;omega)];simp only[ah,ae,ai];repeat' constructor
 have r:g+1+Y a=g+(Y a+1):=by omega
 have p:b++wm c++a.flatMap wm=b++(c::a).flatMap wm:=by simp
 rw[r,p];exact f
def BH(a:o.azU)(J:aj):bh κ 164 [.agg o.azR] J (.jg [.sl 1 (aN (az6 o).1),.I (az6 o).2]):=by
 refine aW func164 aps.2 λd j=>aq ?_;have q:=a.az1;simp only[aps,SS,seval];simp only[aV.azR,cL.azR,En.azR,VV,seval];refine al (th o a _) rfl ?_;simp only[VV,seval];refine⟨λh=>?_,λh=>?_⟩
 .have h:fc o≠0:=by simpa using h
  have e:az6 o=([],fc o):=by simp only[az6,h,aU,gA,fi]
  rw[e];refine gx (ys:=[.sl 1 [],.I (fc o)]) d (.inr rfl) (by simp only[RS,seval];rfl) ?_ (by simp[LW]) ⟨rfl,rfl⟩;exact .cons (.nil _) (.cons (.refl _) .nil)
 have h:fc o=0:=by simpa using h
 have e:az6 o=(dJ o,0):=by simp only[az6,h,gA,gu,bw]
 rw[e];have m:o.az1.length<=8:=(af6 h);have n:=a.azV.cM;have p:=a.azV.next;have l:=a.eu;have k:=a.dC;have i:=qH o.azV.azZ a.azV.azZ a.azV.lC (λx c=>a.azV.ids x (by simp[c]));have g:=qH o.azV.az0 a.azV.az0 a.azV.td (λx c=>a.azV.ids x (by simp[c]));simp only[Mj];have f:=VB [1,ll o.azT] o.aY.time (by simp) (J++[Ob.box 57 (aV.azR o)]);simp only[ah,ae,ai,aG,aO,aF,ay,aV.azR,cL.azR,En.azR]at f;refine al f rfl ?_;simp only[Mj,bM,aby,maxLen,VV,seval];refine⟨by simp[gz],?_⟩;refine al (asY _ o.aY.azW 2 (by simp[gz]) J _ []) rfl ?_;simp only[Mj,bM,aby,maxLen,aa,VV,seval];refine⟨by simp[gz,iU],?_⟩;refine cB.bX ?_ (o.az1.length+1) (agN (.ptr J.length 0) o.az1 (by omega) o.az1 [] _ 4 rfl (by simp[gz,iU];omega) ?_);.repeat' constructor
 simp only[JE];intros;simp only[VV,seval];refine al (Fy o.azV.azZ a.azV.azZ a.azV.lC (λx c=>a.azV.ids x (by simp[c])) _) rfl ?_;simp only[VV,seval];refine iN (zs:=[.own (J.length+1) (4+o.az1.length),.sl 1 ([(aAh o.azV.azZ).1,o.azV.cM,o.azV.next].map sq)]) (.cons (.refl _) (.cons (.lit _ _) .nil)) (XB _ _ _ (by simp) (by simp;omega) (by simp[gz,iU,A8];omega) J _ _) ?_;simp only[VV,seval];refine⟨λb=>?_,λb=>?_⟩
 .have b:o.azT=1:=by simpa using b
  refine al (Fy o.azV.az0 a.azV.az0 a.azV.td (λx c=>a.azV.ids x (by simp[c])) _) rfl ?_;simp only[VV,seval];refine iN (zs:=[.own (J.length+1) _,.sl 1 ([(aAh o.azV.az0).1,o.azV.eu,o.azV.dC].map sq)]) (.cons (.refl _) (.cons (.lit _ _) .nil)) (XB _ _ _ (by simp) (by simp;omega) (by simp[gz,iU,A8,kb];omega) J _ _) ?_;simp only[Mj,VV,seval];refine al (arM _ o.azV.aAb _ (by simp[gz,iU,A8,kb];omega) J _ _) rfl ?_;simp only[bM,aby,maxLen,VV,seval];refine⟨by simp[gz,iU,A8,kb];omega,?_⟩;refine iw 1 d (.inr rfl) (by simp only[RS,seval];rfl) rfl (by simp only[aI,ar,fz,kE,cG,aU,LW]) ⟨?_,rfl⟩;simp only[Pm.one,aI,ar,aX,bB,fz,kE,cG,aU];congr 3;simp[dJ,b]
 have b:¬o.azT=1:=by simpa using b
 refine iw 1 d (.inr rfl) (by simp only[RS,seval];rfl) rfl (by simp only[aI,ar,fz,kE,cG,aU,LW]) ⟨?_,rfl⟩;simp only[Pm.one,aI,ar,aX,bB,fz,kE,cG,aU];congr 3;simp[dJ,b]
def aeJ:(aN (G4 n)).isEmpty=G:=rfl
def amn:(aN (wm n)).isEmpty=G:=rfl
def sZ:(aN (fH b)).isEmpty=G:=rfl
def as7(b:aR):[V.i .u8 1]::[V.i .u8 ((ll n).toNat:Int)]::aN b=aN (1::ll n::b):=by simp[aN]
def ajR(b:aR):aN b++[[V.i .u8 ((ll n).toNat:Int)]]=aN (b++[ll n]):=by simp[aN]
def nP:Y (aN b)=Y b:=by simp[aN]
def ag3{o1:Ob}(f:Y l<2^30):∀(a d:bU) (b:aR) (g:Nat),l=d++a ->Y b+2*Y a<2^45 ->(∀g,((fj 1 (fh (q) (fj 3 (fh (.own (Y J+1) g) (fj 94 fo))))) λo=>K (.exit 0) ⟨o,J++[o1,.row 5 1 1 g G (aN (b++a.flatMap wm))]⟩)) ->gw m κ Pk K (Y a+1) ⟨(uu 1 (q::uu 3 (.own (Y J+1) g::uu 39 (.sl 1 (l.map cN)::.I (Y l)::.I (Y d)::uu 52 [])))),J++[o1,.row 5 1 1 g G (aN b)]⟩:=by
 intro a;induction a with
 |nil =>intro d b g e j i;have e:=dL e;subst e;refine az λR k=>?_;simp only[Pk,VV,seval];simp only[mP,bI]at i;exact⟨λh=>by simp at h,λ_=>i ..⟩
 |cons c a ih =>
 intro d b g e j i;subst e;simp only[ae]at j;have r:gv (List.map cN (d++c::a)) d.length 0=some (.I c):=qK;have n:=dD d c (by simp at f;omega);refine az λR k=>?_;simp only[Pk,ak,r,n,aa,VV,seval];refine⟨λ_=>⟨by simp;omega,?_⟩,λh=>by simp at h<;>omega⟩;refine al (pF c 2 (by decide) _) rfl ?_;simp only[acr,gp,nP,iU,maxLen,n,VV,seval];refine⟨⟨by omega,by omega⟩,?_⟩;refine k _ (bX ?_ (ih (d++[c]) (b++wm c) (g+1) (by simp) (by simp[iU];omega) ?_));.repeat' constructor
 have p:b++wm c++a.flatMap wm=b++(c::a).flatMap wm:=by simp
 rw[p];exact i
set_option maxRecDepth 4000 in
def uC(a:o.azU)(J:aj):bh κ 121 [.agg o.azR] J (.jg [.sl 1 (aN (az6 o).1),.I (az6 o).2]):=by
 refine aW func121 ap4.2 λf k=>aq ?_;have q:=a.az1;simp only[ap4,SS,seval];simp only[aV.azR,cL.azR,En.azR,VV,seval];refine al (od o a _) rfl ?_;simp only[VV,seval];refine⟨λh=>?_,λh=>?_⟩
 .have h:fc o≠0:=by simpa using h
  have e:az6 o=([],fc o):=by simp only[az6,h,aU,gA,fi]
  rw[e];refine gx (ys:=[.sl 1 [],.I (fc o)]) f (.inr rfl) (by simp only[RS,seval];rfl) ?_ (by simp[LW]) ⟨rfl,rfl⟩;exact .cons (.nil _) (.cons (.refl _) .nil)
 have h:fc o=0:=by simpa using h
 have e:az6 o=(dJ o,0):=by simp only[az6,h,gA,gu,bw]
 rw[e];have n:=a.azV.cM;have p:=a.azV.next;have m:=a.eu;have l:=a.dC;have j:=qH o.azV.azZ a.azV.azZ a.azV.lC (λx c=>a.azV.ids x (by simp[c]));have i:=qH o.azV.az0 a.azV.az0 a.azV.td (λx c=>a.azV.ids x (by simp[c]));refine al (pF o.aY.time 4 (by decide) _) rfl ?_;simp only[PE,Ea,aeJ,as7,ajR,gp,nP,gz,aP,maxLen,VV,Int.reduceBEq,Int.reduceBNe,Nat.reduceAdd,Nat.reduceSub,Nat.reduceLeDiff,Nat.reduceEqDiff,Int.reduceToNat,reduceIte,reduceCtorEq];refine⟨⟨by omega,by omega⟩,⟨by omega,by omega⟩,?_⟩;refine al (pF o.aY.azW 2 (by decide) _) rfl ?_;simp only[acr,Ea,amn,ajR,gp,nP,iU,gz,ah,ae,aa,aP,maxLen,VV,Int.reduceBEq,Int.reduceBNe,Nat.reduceAdd,Nat.reduceSub,Nat.reduceLeDiff,Nat.reduceEqDiff,Int.reduceToNat,reduceIte,reduceCtorEq];refine⟨⟨by omega,by omega⟩,⟨by omega,by omega⟩,?_⟩;refine cB.bX ?_ (o.az1.length+1) (ag3 (.ptr J.length 0) o.az1 (by omega) o.az1 [] _ 3 rfl (by simp[gz,iU];omega) ?_);.repeat' constructor
 simp only[JE];intros;generalize d:(_++o.az1.flatMap wm:aR)=B;have g:B.length<2^40:=by rw[<- d];simp[gz,iU,A8];omega
 simp only[VV,seval];refine al (Am o.azV.azZ a.azV.azZ a.azV.lC (λx c=>a.azV.ids x (by simp[c])) _) rfl ?_;simp only[sZ,gp,nP,ah,kb,aP,maxLen,VV,seval];refine⟨⟨by omega,by omega⟩,?_⟩;refine al (vn o.azV.cM (by omega) _) rfl ?_;simp only[sZ,gp,nP,ah,kb,aP,maxLen,VV,seval];refine⟨⟨by omega,by omega⟩,?_⟩;refine al (vn o.azV.next (by omega) _) rfl ?_;simp only[sZ,gp,nP,ah,kb,aP,maxLen,VV,seval];refine⟨⟨by omega,by omega⟩,?_⟩;refine⟨λb=>?_,λb=>?_⟩
 .have b:o.azT=1:=by simpa using b
  refine al (Am o.azV.az0 a.azV.az0 a.azV.td (λx c=>a.azV.ids x (by simp[c])) _) rfl ?_;simp only[sZ,gp,nP,ah,kb,aP,maxLen,VV,seval];refine⟨⟨by omega,by omega⟩,?_⟩;refine al (vn o.azV.eu (by omega) _) rfl ?_;simp only[sZ,gp,nP,ah,kb,aP,maxLen,VV,seval];refine⟨⟨by omega,by omega⟩,?_⟩;refine al (vn o.azV.dC (by omega) _) rfl ?_;simp only[sZ,gp,nP,ah,kb,aP,maxLen,VV,seval];refine⟨⟨by omega,by omega⟩,?_⟩;refine al (pF o.azV.aAb 4 (by decide) _) rfl ?_;simp only[PE,Ea,ajR,aeJ,gz,gp,nP,ah,kb,aP,maxLen,VV,seval];refine⟨⟨by omega,by omega⟩,⟨by omega,by omega⟩,?_⟩;refine iw 1 f (.inr rfl) (by simp only[RS,seval];rfl) rfl (by simp only[aI,ar,fz,kE,cG,aU,LW]) ⟨?_,rfl⟩;simp only[Pm.one,aI,ar,aX,bB,fz,kE,cG,aU];congr 3;simp[dJ,b,<- d]
 have b:¬o.azT=1:=by simpa using b
 refine iw 1 f (.inr rfl) (by simp only[RS,seval];rfl) rfl (by simp only[aI,ar,fz,kE,cG,aU,LW]) ⟨?_,rfl⟩;simp only[Pm.one,aI,ar,aX,bB,fz,kE,cG,aU];congr 3;simp[dJ,b,<- d]
def E3:aj:=X.set a (.box 191 [.sl 1 (aN r.b),.b r.bad])
def afC:Y (E3 X a r)=Y X:=by simp[E3]
def Dy(h:m<Y J):(E3 J m R)[m]?=some (.box 191 [.sl 1 (aN R.b),.b R.bad]):=by simp[E3,h]
def Dx:(E3 J m R).set m (.box 191 [.sl 1 (aN U),.b c])=E3 J m ⟨U,c⟩:=by simp[E3]
def A4:(aN b).take a=aN (b.take a):=by simp[aN,gD]
def A5:(aN b).drop a=aN (b.drop a):=by simp[aN,lY]
def Ul{T:Nat}{i b:aB}(h:bT (J.set m (.box T i)))(g:∀x∈b,x.Lt (Y J)):bT (J.set m (.box T b)):=by
 intro id f c a j x d;rw[fT];by_cases e:m=id
 .subst e;rw[jR]at a;simp only[aU]at a;split at a;.simp only[ab,Ob.box.injEq]at a;obtain⟨_,rfl⟩:=a;exact g x (aS d)
  simp at a
 rw[bN e]at a;have:=h id f c (by rw[bN e];exact a) j x d;rwa [fT]at this
def Wn(c:a<Y X)(r:Rb)(D:Y r.b<2^60)(n:Nat)(B:n<2^62): PC κ 204 [.ptr a 0,.I n] (E3 X a r) (λv z=>v=.sl 1 (aN (r.take n).1)/\z=E3 X a (r.take n).2):=by
 refine aW func204 aoV.2 λp A=>aq ?_;simp only[aoV,SS,seval];by_cases h:Y r.b<n
 .have f:decide ((Y r.b:Int)<(n:Int))=θ:=by simp;omega
  have u:(if(4:Int)<(n:Int)then 4 else(n:Int))=((min n 4:Nat):Int):=by omega
  have e:r.take n=(List.replicate (min n 4) 0,⟨[],θ⟩):=by simp only[Rb.take,aQ h]
  rw[e];simp only[Dy c,Dx,bM,f,u,ak,VV,seval];refine⟨⟨by omega,.inl trivial,by omega,by omega,by simp only[maxLen];omega⟩,?_⟩;have q:bT ((E3 X a ⟨r.b,θ⟩).set a (.box 191 [.nil,.b θ])):=by simp only[E3,l9]at p |-;exact Ul p (by simp only[bd,bD,mZ,HE,forall_eq];exact⟨.nil,.b _⟩)
  have s:Y ((E3 X a ⟨r.b,θ⟩).set a (.box 191 [.nil,.b θ]))=Y X:=by simp[E3]
  have m:((E3 X a ⟨r.b,θ⟩).set a (.box 191 [.nil,.b θ]))[a]?=some (.box 191 [.nil,.b θ]):=by simp[E3,c]
  have l:((E3 X a ⟨r.b,θ⟩).set a (.box 191 [.nil,.b θ])).set a (.box 191 ([V.nil,.b θ].set 0 (.sl 1 [])))=E3 X a ⟨[],θ⟩:=by simp[E3,aN]
  have d:List.replicate (min n 4) [V.i .u8 0]=aN (List.replicate (min n 4) 0):=by simp[aN]
  rw[d];generalize (E3 X a ⟨r.b,θ⟩).set a (.box 191 [.nil,.b θ])=σ1 at q s m l;refine dS (xs:=[.own σ1.length 0]) (xs':=[.sl 1 (aN (List.replicate (min n 4) 0))]) (.inr rfl) (by simp only[mS,yy,VV,seval]) ?_ rfl ⟨rfl,rfl⟩;have g:=Wk.px (P:=κ) (n:=Y X) (xs:=[.own σ1.length 0]) (J:=σ1) (loc:=[Ob.row 5 1 1 0 G (aN (List.replicate (min n 4) 0))]) 0 rfl;simp only[aI,ar,fz,kE,cG,aU,cu]at g;have o:=Wk.yQ (P:=κ) (xs:=[V.sl 1 (aN (List.replicate (min n 4) 0))]) (loc:=[Ob.row 5 1 1 0 θ (aN (List.replicate (min n 4) 0))]) q (by simp[LW]);have k:=Wk.cell (P:=κ) (n:=Y X) (xs:=[V.sl 1 (aN (List.replicate (min n 4) 0))]) (j:=0) (x:=.nil) (y:=.sl 1 []) m rfl (λw C v _ h=>by rw[h.pJ];exact .FX _);rw[l]at k;rw[s]at o;rw[afC];exact(g.trans o).trans k
 have f:decide ((Y r.b:Int)<(n:Int))=G:=by simp;omega
 have e:r.take n=(r.b.take n,⟨r.b.drop n,r.bad⟩):=by simp only[Rb.take,aw h]
 have t:List.take (Y r.b - n) (List.drop n (aN r.b))=aN (r.b.drop n):=by rw[A5];exact cx (by simp[aN])
 rw[e];simp only[Dy c,bM,A4,t,Dx,f,VV,Int.reduceBEq,Int.reduceBNe,Nat.reduceAdd,Nat.reduceSub,Nat.reduceLeDiff,Nat.reduceEqDiff,Int.reduceToNat,reduceIte,reduceCtorEq];exact⟨⟨by omega,by omega,by omega⟩,⟨by omega,by omega,by omega⟩,dS (.inr rfl) rfl (Wk.refl _ _) rfl ⟨rfl,rfl⟩⟩
def abn(c:Nat)(g:a<2^40)(b:c<256):IntKind.i64.wrap (((BitVec.ofInt IntKind.i64.bits (IntKind.i64.wrap ((a:Int)*2^min 8 IntKind.i64.bits)) ||| BitVec.ofInt IntKind.i64.bits (IntKind.i64.wrap (c:Int))).toNat:Nat):Int)=((a*256+c:Nat):Int):=by
 have e:(a:Int)*2^min 8 IntKind.i64.bits=((a*256:Nat):Int):=by simp[IntKind.bits]
 have w:∀k:Nat,k<2^62->IntKind.i64.wrap (k:Int)=k:=λk f=>IntWalk.i64_in _ (by omega);have d:(BitVec.ofInt IntKind.i64.bits ((a*256:Nat):Int) ||| BitVec.ofInt IntKind.i64.bits (c:Int)).toNat=a*256+c:=by show(BitVec.ofInt 64 ((a*256:Nat):Int) ||| BitVec.ofInt 64 (c:Int)).toNat=a*256+c;rw[lK,lK,BitVec.toNat_or,mQ,mQ,jJ (by omega),jJ (by omega),ju a 256];exact(aju (i:=8) b a).symm
 rw[e,w (a*256) (by omega),w c (by omega),d,w (a*256+c) (by omega)]
def agO(g:Y b<=4):∀(f d:aR) (n:Nat),b=d++f->n<256^Y d ->((fj 5 (fh (.I (f.foldl (λa x=>a*256+x.toNat) (n:Int))) (fj 17 fo))) λo=>K (.exit 0) ⟨o,J⟩) ->gw m κ O4 K (Y f+1) ⟨(uu 5 (.I (n:Int)::uu 4 (.sl 1 (aN b)::.I (Y b)::.I (Y d)::uu 10 []))),J⟩:=by
 intro f;induction f with
 |nil =>intro d n j s k;have j:=dL j;subst j;refine az λR l=>?_;simp only[O4,VV,seval];exact⟨λh=>by simp at h,λ_=>k ..⟩
 |cons c f ih =>
 intro d n j s k;subst j;have t:=dD d c (by simp at g;omega);have r:gv (aN (d++c::f)) d.length 0=some (.i .u8 c.toNat):=by simp[gv,aN]
 refine az λR l=>?_;have v:n<2^32:=by
  have k:Y d<=3:=by simp at g;omega
  have u:256^Y d<=256^3:=zC (by decide) k;omega
 have q:c.toNat<256:=c.toNat_lt;have e:=abn n c.toNat (by omega) q;simp only[O4,ak,bM,r,t,e,VV,Int.reduceBEq,Int.reduceBNe,Nat.reduceAdd,Nat.reduceSub,Nat.reduceLeDiff,Nat.reduceEqDiff,Int.reduceToNat,reduceIte,reduceCtorEq];refine⟨λ_=>⟨⟨by omega,by simp;omega⟩,by decide,?_⟩,λh=>by simp at h<;>omega⟩;refine l _ (bX (by repeat' constructor) (ih (d++[c]) (n*256+c.toNat) (by simp) (by simp only[ah,ae,ai,aaF];omega) ?_));have p:((n*256+c.toNat:Nat):Int)=(n:Int)*256+(c.toNat:Int):=by omega
 rw[p];exact k
def F6(c:a<Y X)(r:Rb)(f:Y r.b<2^60)(n:Nat)(i:n<=4): PC κ 161 [.ptr a 0,.I n] (E3 X a r) (λv d=>v=.I (r.azW n).1/\d=E3 X a (r.azW n).2):=by
 refine aW func161 apv.2 λh g=>aq ?_;simp only[apv,SS,seval];simp only[VV,seval];refine al (Wn X a c r f n (by omega)) rfl ?_;have e:Y (r.take n).1<=4:=by simp only[Rb.take];split<;>simp<;>omega
 simp only[bM,VV,seval];refine cB.bX (fr':=(uu 5 (.I ((0:Nat):Int)::uu 4 (.sl 1 (aN (r.take n).1)::.I (Y (r.take n).1)::.I (Y ([]:aR):Nat)::uu 10 [])))) (by repeat' constructor) (Y (r.take n).1+1) (agO (r.take n).1 e (r.take n).1 [] 0 rfl (by decide) ?_);simp only[JE];intros;simp only[VV,seval];exact dS (.inr rfl) rfl (Wk.refl _ _) rfl ⟨rfl,rfl⟩
def Mu(c:a<Y X)(r:Rb)(j:Y r.b<2^60): PC κ 163 [.ptr a 0] (E3 X a r) (λv i=>v=.s r.azX.1/\i=E3 X a r.azX.2):=by
 refine aW func163 apt.2 λl k=>aq ?_;simp only[apt,SS,seval];simp only[VV,seval];refine al (F6 X a c r j 4 (by decide)) rfl ?_;have f:=yC r 4 (by decide);have g:=qv r 4;have e:r.azX=if(Y (r.azW 4).2.b:Int)<(r.azW 4).1 then([],⟨(r.azW 4).2.b,θ⟩)else(r.azW 4).2.take (r.azW 4).1.toNat:=rfl;rw[e];generalize r.azW 4=p at f g;obtain⟨n,q⟩:=p;simp only at f g;obtain⟨m,rfl⟩:∃m:Nat,n=m:=⟨n.toNat,by omega⟩;by_cases h:(Y q.b:Int)<(m:Int);.have d:decide ((Y q.b:Int)<(m:Int))=θ:=De h;simp only[aQ h];simp only[Dy c,Dx,bM,d,VV,seval];exact dS (.inr rfl) rfl (Wk.refl _ _) rfl ⟨rfl,rfl⟩
 have d:decide ((Y q.b:Int)<(m:Int))=G:=rl h;simp only[aw h,ak];simp only[Dy c,Dx,bM,d,VV,seval];refine al (Wn X a c q (by omega) m (by omega)) rfl ?_;simp only[iB,VV,seval];exact dS (.inr rfl) rfl (Wk.refl _ _) rfl ⟨rfl,rfl⟩
def Lq(c:a<Y X)(r:Rb)(h:Y r.b<2^38):
  PC κ 162 [.ptr a 0] (E3 X a r) (λv d=>v=.sl 3 (r.aAl.1.map It.azR)/\d=E3 X a r.aAl.2):=by refine aW func162 apu.2 λg e=>aq ?_;have f:=qT r;simp only[apu,SS,seval];simp only[VV,seval];refine al (Mu X a c r (by omega)) rfl ?_;simp only[VV,seval];refine al (sV r.azX.1 (by omega) _) rfl ?_;simp only[Dy c,Dx,VV,seval];exact dS (.inr rfl) rfl (Wk.refl _ _) rfl ⟨rfl,rfl⟩
def Uo{x y:Ob}{ext:aj}:E3 (J++(x::y::ext)) (Y J+1) R=J++(x::.box 191 [.sl 1 (aN R.b),.b R.bad]::ext):=by simp[E3]
def nk{ext:aj}(h:(Rb.mk U c).azW a=(t,⟨Q,T⟩))(e:Y U<2^60)(d:a<=4):
  PC κ 161 [.ptr (Y J+1) 0,.I a] (J++(x::.box 191 [.sl 1 (aN U),.b c]::ext)) (λw f=>w=.I t/\f=J++(x::.box 191 [.sl 1 (aN Q),.b T]::ext)):=by have:=F6 (J++(x::.dead::ext)) (Y J+1) (by simp) ⟨U,c⟩ e a d;rw[h]at this;simpa only[Uo]using this
def Bm{ext:aj}(h:(Rb.mk U c).azX=(F,⟨Q,T⟩))(a:Y U<2^60):
  PC κ 163 [.ptr (Y J+1) 0] (J++(x::.box 191 [.sl 1 (aN U),.b c]::ext)) (λw d=>w=.s F/\d=J++(x::.box 191 [.sl 1 (aN Q),.b T]::ext)):=by have:=Mu (J++(x::.dead::ext)) (Y J+1) (by simp) ⟨U,c⟩ a;rw[h]at this;simpa only[Uo]using this
def Cc{ext:aj}{v:List It}(h:(Rb.mk U c).aAl=(v,⟨Q,T⟩))(a:Y U<2^38):
  PC κ 162 [.ptr (Y J+1) 0] (J++(x::.box 191 [.sl 1 (aN U),.b c]::ext)) (λw d=>w=.sl 3 (v.map It.azR)/\d=J++(x::.box 191 [.sl 1 (aN Q),.b T]::ext)):=by have:=Lq (J++(x::.dead::ext)) (Y J+1) (by simp) ⟨U,c⟩ a;rw[h]at this;simpa only[Uo]using this
def L8(a:aR)(J:aj):bh κ 165 [.sl 1 (aN b),.sl 1 (aN a)] J (.b (b==a)):=by refine aW func165 apr.2 λd c=>aq ?_;simp only[apr,SS,seval];simp only[iB,VV,seval];exact bK (.inr rfl) (by simp only[RS,seval];rfl) ⟨rfl,rfl⟩
def M8(x:Int):l.map cN++[[V.i .i64 x]]=(l++[x]).map cN:=by simp[cN]
def ag5(p o j:V)(t f a k:Int)(N:Nat)(C:N<256):∀(n:Nat) (b:aR) (c:Bool) (l:bU) (g:Nat),Y l+n=N->Y b<2^40 ->(∀g,((fh (p) (fj 1 (fh (.ptr J.length 0) (fh (o) (fh (.ptr (Y J+1) 0) (fh (.ptr (Y J+2) 0) (fh (j) (fj 97 fo)))))))) λx=>K (.exit 0) ⟨x,J++[L,.box 191 [.sl 1 (aN (Rb.az8 n ⟨b,c⟩).2.b),.b (Rb.az8 n ⟨b,c⟩).2.bad],.box 57 [.I t,.I f,.I a,.I k,.nil,.nil,.s [],.s [],.s [],.s [],.I 0,.I 0,.own (Y J+3) g],.row 3 1 8 g G ((l++(Rb.az8 n ⟨b,c⟩).1).map cN)]⟩)) ->gw m κ Pp K (n+1) ⟨(p::uu 1 (.ptr J.length 0::o::.ptr (Y J+1) 0::.ptr (Y J+2) 0::j::uu 19 (.I N::.I (Y l)::uu 76 []))),J++[L,.box 191 [.sl 1 (aN b),.b c],.box 57 [.I t,.I f,.I a,.I k,.nil,.nil,.s [],.s [],.s [],.s [],.I 0,.I 0,.own (Y J+3) g],.row 3 1 8 g G (l.map cN)]⟩:=by
 intro n;induction n with
 |zero =>
  intro b c l g w u i;obtain rfl:N=Y l:=by omega
  refine az λR q=>?_;simp only[Pp,VV,seval];simp only[Rb.az8,bI]at i;exact⟨λh=>by simp at h,λ_=>i ..⟩
 |succ n ih =>
 intro b c l g w u i;obtain⟨v,⟨A,y⟩,e⟩:∃v r,(Rb.mk b c).azW 2=(v,r):=⟨_,_,rfl⟩;have d:=qv ⟨b,c⟩ 2;rw[e]at d;simp only at d;have B:=dD l v (by omega);have z:decide ((Y l:Int)<(N:Int))=θ:=by simp;omega
 refine az λR q=>?_;simp only[Pp,z,VV,seval];refine al (nk 2 e (by omega) (by decide)) rfl ?_;simp only[B,aa,M8,maxLen,VV,seval];refine⟨⟨by omega,by omega⟩,q _ (bX (by repeat' constructor) (ih A y (l++[v]) (g+1) (by simp;omega) (by omega) ?_))⟩;simp only[Rb.az8,e]at i;simpa only[aO,aF,ay]using i
def aip{n:Nat}{xs:aB}{J:aj}:Wk κ n xs (J++[.box 57 [.I 0,.I 0,.I 0,.I 0,.nil,.nil,.s [],.s [],.s [],.s [],.I 0,.I 0,.nil],.box 191 [.sl 1 (aN U),.b c],.box 57 [.I t,.I f,.I M,.I k,.nil,.nil,.s [],.s [],.s [],.s [],.I 0,.I 0,.nil]]) xs (J++[.box 57 [.I 0,.I 0,.I 0,.I 0,.nil,.nil,.s [],.s [],.s [],.s [],.I 0,.I 0,.nil],.box 191 [.sl 1 (aN U),.b c],.box 57 [.I t,.I f,.I M,.I k,.nil,.nil,.s [],.s [],.s [],.s [],.I 0,.I 0,.own (Y J+3) 0],.row 3 1 8 0 G (([]:bU).map cN)]):=by have:=Wk.tV (P:=κ) (n:=n) (xs:=xs) (id:=Y J+2) (j:=12) (T:=57) (cs:=[.I t,.I f,.I M,.I k,.nil,.nil,.s [],.s [],.s [],.s [],.I 0,.I 0,.nil]) (J:=J++[.box 57 [.I 0,.I 0,.I 0,.I 0,.nil,.nil,.s [],.s [],.s [],.s [],.I 0,.I 0,.nil],.box 191 [.sl 1 (aN U),.b c],.box 57 [.I t,.I f,.I M,.I k,.nil,.nil,.s [],.s [],.s [],.s [],.I 0,.I 0,.nil]]) NV (by simp) rfl;simpa only[kf,aO,ah,ae,ai,aF,ay,cC,cT,aG,Nat.reduceAdd,ar]using this
def aio{n g:Nat}{xs:aB}{J:aj}(i:bT J)(m:n<=Y J)(l:jt (Y J+3) xs):Wk κ n xs (J++[.box 57 [.I 0,.I 0,.I 0,.I 0,.nil,.nil,.s [],.s [],.s [],.s [],.I 0,.I 0,.nil],.box 191 [.sl 1 (aN U),.b c],.box 57 [.I t,.I f,.I M,.I k,.nil,.nil,.s [],.s [],.s [],.s [],.I 0,.I 0,.own (Y J+3) g],.row 3 1 8 g G (H.map cN)]) xs (J++[.box 57 [.I 0,.I 0,.I 0,.I 0,.nil,.nil,.s [],.s [],.s [],.s [],.I 0,.I 0,.nil],.box 191 [.sl 1 (aN U),.b c],.box 57 [.I t,.I f,.I M,.I k,.nil,.nil,.s [],.s [],.s [],.s [],.I 0,.I 0,.sl 1 (H.map cN)]]):=by
 have a:=Wk.share (P:=κ) (n:=n) (xs:=xs) (J:=J++[.box 57 [.I 0,.I 0,.I 0,.I 0,.nil,.nil,.s [],.s [],.s [],.s [],.I 0,.I 0,.nil],.box 191 [.sl 1 (aN U),.b c],.box 57 [.I t,.I f,.I M,.I k,.nil,.nil,.s [],.s [],.s [],.s [],.I 0,.I 0,.own (Y J+3) g],.row 3 1 8 g G (H.map cN)]) (id:=Y J+3) (E:=3) (sz:=1) (by':=8) (g:=g) (sh:=G) (rows:=H.map cN) (by simp);have e:=Wk.HZ (P:=κ) (n:=n) (xs:=xs) (J:=J++[.box 57 [.I 0,.I 0,.I 0,.I 0,.nil,.nil,.s [],.s [],.s [],.s [],.I 0,.I 0,.nil],.box 191 [.sl 1 (aN U),.b c],.box 57 [.I t,.I f,.I M,.I k,.nil,.nil,.s [],.s [],.s [],.s [],.I 0,.I 0,.own (Y J+3) g],.row 3 1 8 g θ (H.map cN)]) (id:=Y J+2) (idr:=Y J+3) (T:=57) (j:=12) (g:=g) (E:=3) (sz:=1) (by':=8) (rows:=H.map cN)
  (cs:=[.I t,.I f,.I M,.I k,.nil,.nil,.s [],.s [],.s [],.s [],.I 0,.I 0,.own (Y J+3) g]) (by simp) rfl (by simp);simp only[kf,cC,cT]at a e;have h:bT (J++[.box 57 [.I 0,.I 0,.I 0,.I 0,.nil,.nil,.s [],.s [],.s [],.s [],.I 0,.I 0,.nil],.box 191 [.sl 1 (aN U),.b c],.box 57 [.I t,.I f,.I M,.I k,.nil,.nil,.s [],.s [],.s [],.s [],.I 0,.I 0,.sl 1 (H.map cN)]]):=cj i (by simp only[bd,bD,mZ,HE,forall_eq];refine⟨?_,?_,?_⟩<;>simp only[LW]);have d:=Wk.lS (P:=κ) (n:=n) (xs:=xs) (J:=J++[.box 57 [.I 0,.I 0,.I 0,.I 0,.nil,.nil,.s [],.s [],.s [],.s [],.I 0,.I 0,.nil],.box 191 [.sl 1 (aN U),.b c],.box 57 [.I t,.I f,.I M,.I k,.nil,.nil,.s [],.s [],.s [],.s [],.I 0,.I 0,.sl 1 (H.map cN)]]) (loc:=[.row 3 1 8 g θ (H.map cN)]) (by simp;omega) h (ed.1 (by simpa using l));simp only[aO,aF,ay]at d;exact(a.trans e).trans d
set_option maxRecDepth 4000 in
def Sp(b:aR)(hb:Y b<2^30)(J:aj):bh κ 113 [.sl 1 (aN b)] J (.jg [.agg (Bt.decode b).1.azR,.I (Bt.decode b).2]):=by
 refine aW func113 aqb.2 λbc dQ=>?_;simp only[aqb,SS,seval];obtain⟨v,⟨b1,c1⟩,e1⟩:∃v r,(Rb.mk b G).azW 1=(v,r):=⟨_,_,rfl⟩;obtain⟨k,⟨b2,c2⟩,e2⟩:∃v r,(Rb.mk b1 c1).azW 1=(v,r):=⟨_,_,rfl⟩;obtain⟨t,⟨b3,c3⟩,e3⟩:∃v r,(Rb.mk b2 c2).azW 4=(v,r):=⟨_,_,rfl⟩;obtain⟨f,⟨b4,c4⟩,e4⟩:∃v r,(Rb.mk b3 c3).azW 1=(v,r):=⟨_,_,rfl⟩;obtain⟨m,⟨b5,c5⟩,e5⟩:∃v r,(Rb.mk b4 c4).azW 2=(v,r):=⟨_,_,rfl⟩;obtain⟨n,⟨b6,c6⟩,Q⟩:∃v r,(Rb.mk b5 c5).azW 1=(v,r):=⟨_,_,rfl⟩;have d1:=qv ⟨b,G⟩ 1;rw[e1]at d1;have d2:=qv ⟨b1,c1⟩ 1;rw[e2]at d2;have d3:=qv ⟨b2,c2⟩ 4;rw[e3]at d3;have d4:=qv ⟨b3,c3⟩ 1;rw[e4]at d4;have d5:=qv ⟨b4,c4⟩ 2;rw[e5]at d5;have d6:=qv ⟨b5,c5⟩ 1;rw[Q]at d6;have n6:=yC ⟨b5,c5⟩ 1 (by decide);rw[Q]at n6;simp only at d1 d2 d3 d4 d5 d6 n6;obtain⟨N,rfl⟩:∃N:Nat,n=N:=⟨n.toNat,by omega⟩;refine cB.cut λR a=>?_;simp only[VV,seval];refine a _ (cB.fw (fr':=(.sl 1 (aN b)::uu 1 (.ptr J.length 0::.I 0::uu 100 []))) ?_ (by repeat' constructor));clear a R;refine cB.cut λR a=>?_;simp only[VV,seval];refine a _ (cB.fw (fr':=(.sl 1 (aN b)::uu 1 (.ptr J.length 0::.I 0::.ptr (Y J+1) 0::uu 99 []))) ?_ (by repeat' constructor));clear a R;refine cB.cut λR a=>?_;simp only[VV,seval];refine a _ (cB.fw (fr':=(.sl 1 (aN b)::uu 1 (.ptr J.length 0::.I 0::.ptr (Y J+1) 0::.ptr (Y J+2) 0::uu 98 []))) ?_ (by repeat' constructor));clear a R;refine cB.cut λR a=>?_;simp only[VV,seval];refine al (nk 1 e1 (by omega) (by decide)) rfl ?_;simp only[VV,seval];refine a _ (cB.fw (fr':=(.sl 1 (aN b)::uu 1 (.ptr J.length 0::.I 0::.ptr (Y J+1) 0::.ptr (Y J+2) 0::.I v::uu 97 []))) ?_ (by repeat' constructor));clear a R;refine cB.cut λR a=>?_;simp only[VV,seval];refine al (nk 1 e2 (by omega) (by decide)) rfl ?_;simp only[VV,seval];refine a _ (cB.fw (fr':=(.sl 1 (aN b)::uu 1 (.ptr J.length 0::.I 0::.ptr (Y J+1) 0::.ptr (Y J+2) 0::.I v::uu 97 []))) ?_ (by repeat' constructor));clear a R;refine cB.cut λR a=>?_;simp only[VV,seval];refine al (nk 4 e3 (by omega) (by decide)) rfl ?_;simp only[VV,seval];refine al (nk 1 e4 (by omega) (by decide)) rfl ?_;simp only[VV,seval];refine al (nk 2 e5 (by omega) (by decide)) rfl ?_;simp only[VV,seval];refine a _ (cB.fw (fr':=(.sl 1 (aN b)::uu 1 (.ptr J.length 0::.I 0::.ptr (Y J+1) 0::.ptr (Y J+2) 0::.I v::uu 97 []))) ?_ (by repeat' constructor));clear a R;refine cB.cut λR a=>?_;simp only[VV,seval];refine al (nk 1 Q (by omega) (by decide)) rfl ?_;simp only[VV,seval];obtain⟨ns,⟨b7,c7⟩,e7⟩:∃v r,Rb.az8 N ⟨b6,c6⟩=(v,r):=⟨_,_,rfl⟩;have d7:=Ad N ⟨b6,c6⟩;rw[e7]at d7;simp only at d7;refine cB.wk ((Wk.fw (ys:=(.sl 1 (aN b)::uu 1 (.ptr J.length 0::.I 0::.ptr (Y J+1) 0::.ptr (Y J+2) 0::.I v::uu 19 (.I N::.I (Y ([]:bU):Nat)::uu 76 [])))) (by repeat' constructor)).trans aip)
  (cB.kT (N+1) (ag5 (.box 57 [.I 0,.I 0,.I 0,.I 0,.nil,.nil,.s [],.s [],.s [],.s [],.I 0,.I 0,.nil]) (.sl 1 (aN b)) (.I 0) (.I v) t f m k N (by omega) N b6 c6 [] 0 (by simp) (by omega) ?_));intro g;simp only[JE];intros;rw[e7];simp only[ay,VV,seval];refine a _ (cB.wk ((Wk.fw (ys:=(.sl 1 (aN b)::uu 1 (.ptr J.length 0::.I 0::.ptr (Y J+1) 0::.ptr (Y J+2) 0::.I v::uu 97 []))) (by repeat' constructor)).trans (aio bc (aM _) (by simp only[LW];omega))) ?_);clear a R;refine cB.cut λR a=>?_;obtain⟨src,⟨b8,c8⟩,e8⟩:∃v r,(Rb.mk b7 c7).aAl=(v,r):=⟨_,_,rfl⟩;have d8:=zk ⟨b7,c7⟩;rw[e8]at d8;simp only at d8;simp only[VV,seval];refine al (Cc e8 (by omega)) rfl ?_;simp only[VV,seval];refine a _ (cB.fw (fr':=(.sl 1 (aN b)::uu 1 (.ptr J.length 0::.I 0::.ptr (Y J+1) 0::.ptr (Y J+2) 0::.I v::uu 97 []))) ?_ (by repeat' constructor));clear a R;refine cB.cut λR a=>?_;obtain⟨pv,⟨b9,c9⟩,e9⟩:∃v r,(Rb.mk b8 c8).azX=(v,r):=⟨_,_,rfl⟩;have d9:=qT ⟨b8,c8⟩;rw[e9]at d9;simp only at d9;simp only[VV,seval];refine al (Bm e9 (by omega)) rfl ?_;simp only[VV,seval];refine a _ (cB.fw (fr':=(.sl 1 (aN b)::uu 1 (.ptr J.length 0::.I 0::.ptr (Y J+1) 0::.ptr (Y J+2) 0::.I v::uu 97 []))) ?_ (by repeat' constructor));clear a R;refine cB.cut λR a=>?_;obtain⟨nx,⟨c,C⟩,i⟩:∃v r,(Rb.mk b9 c9).azX=(v,r):=⟨_,_,rfl⟩;have F:=qT ⟨b9,c9⟩;rw[i]at F;simp only at F;simp only[VV,seval];refine al (Bm i (by omega)) rfl ?_;simp only[VV,seval];refine a _ (cB.fw (fr':=(.sl 1 (aN b)::uu 1 (.ptr J.length 0::.I 0::.ptr (Y J+1) 0::.ptr (Y J+2) 0::.I v::uu 97 []))) ?_ (by repeat' constructor));clear a R;refine cB.cut λR a=>?_;have p:∀(x:aV) (q:aR) (o:Bool) {fr:aB} {s0:aj},x.azU->Y q<2^30->kt b=(x,v,⟨q,o⟩)->Wk κ J.length fr s0 ((.sl 1 (aN b)::uu 1 (.ptr J.length 0::.I 0::.ptr (Y J+1) 0::.ptr (Y J+2) 0::.I v::uu 97 []))) (J++[.box 57 [.I 0,.I 0,.I 0,.I 0,.nil,.nil,.s [],.s [],.s [],.s [],.I 0,.I 0,.nil],.box 191 [.sl 1 (aN q),.b o],.box 57 x.azR])->R ⟨fr,s0⟩:=by
  intro x q o fr s0 hx ap an hc;have e:Bt.decode b=if o=θ\/0<Y q\/v≠1 then(CT,12)else if(az6 x).2≠0\/(az6 x).1≠b then(CT,12)else(x,0):=by simp only[Bt.decode,an]
  refine a _ (cB.wk hc (aq ?_));clear a R hc;simp only[aV.azR,cL.azR,En.azR,aF,ay,V.pure,bM,VV,seval];refine⟨λh=>?_,λh=>?_⟩
  .have h1:o=θ\/0<Y q\/v≠1:=by cases o<;>simp at h |-<;>omega
   rw[aQ h1]at e;refine gx (ys:=[.agg CT.azR,.I 12]) bc (.inr rfl) (by simp only[RS,seval];rfl) ?_ (by simp only[CT,UU,aV.azR,cL.azR,En.azR,ar,aF,ay,LW]) ⟨by rw[e];rfl,rfl⟩;refine .cons (Cv.iV ?_) (.cons (.refl _) .nil);simp only[CT,UU,aV.azR,cL.azR,En.azR,ar,aF,ay];repeat first|exact .nil|refine .cons (.refl _) ?_|refine .cons (.nil _) ?_
  have h1:¬(o=θ\/0<Y q\/v≠1):=by cases o<;>simp at h |-<;>omega
  rw[aw h1]at e;refine al (BH x hx _) rfl ?_;simp only[aV.azR,cL.azR,En.azR,aF,ay,V.pure,VV,seval];refine bV (by simp only[VV,seval]<;>rfl) (λ_=>L8 (az6 x).1 b _) rfl ?_;simp only[aV.azR,cL.azR,En.azR,aF,ay,V.pure,VV,seval];refine⟨λh=>?_,λh=>?_⟩
  .have h2:(az6 x).2≠0\/(az6 x).1≠b:=by simpa using h
   rw[aQ h2]at e;refine gx (ys:=[.agg CT.azR,.I 12]) bc (.inr rfl) (by simp only[RS,seval];rfl) ?_ (by simp only[CT,UU,aV.azR,cL.azR,En.azR,ar,aF,ay,LW]) ⟨by rw[e];rfl,rfl⟩;refine .cons (Cv.iV ?_) (.cons (.refl _) .nil);simp only[CT,UU,aV.azR,cL.azR,En.azR,ar,aF,ay];repeat first|exact .nil|refine .cons (.refl _) ?_|refine .cons (.nil _) ?_
  have h2:¬((az6 x).2≠0\/(az6 x).1≠b):=by simpa using h
  rw[aw h2]at e;refine bA bc (.inr rfl) (by simp only[RS,seval];rfl) (by simp[LW]) ⟨?_,rfl⟩;rw[e];rfl
 have p8:=wF ((Rb.mk b7 c7).azX.1);rw[show(parse ((Rb.mk b7 c7).azX.1)).1=src from congrArg Prod.fst e8]at p8;simp only[VV,seval];refine⟨λh=>?_,λh=>?_⟩
 .have hk:k=1:=by simpa using h
  obtain⟨tg,⟨X,Ye⟩,d⟩:∃v r,(Rb.mk c C).aAl=(v,r):=⟨_,_,rfl⟩;have E:=zk ⟨c,C⟩;rw[d]at E;have K7:=wF ((Rb.mk c C).azX.1);rw[show(parse ((Rb.mk c C).azX.1)).1=tg from congrArg Prod.fst d]at K7;obtain⟨au,⟨U,ad⟩,A⟩:∃v r,(Rb.mk X Ye).azX=(v,r):=⟨_,_,rfl⟩;have W:=qT ⟨X,Ye⟩;rw[A]at W;obtain⟨pr,⟨O,M⟩,z⟩:∃v r,(Rb.mk U ad).azX=(v,r):=⟨_,_,rfl⟩;have D:=qT ⟨U,ad⟩;rw[z]at D;obtain⟨cr,⟨K,H⟩,B⟩:∃v r,(Rb.mk O M).azW 4=(v,r):=⟨_,_,rfl⟩;have L:=qv ⟨O,M⟩ 4;rw[B]at L;obtain⟨og,⟨af,am⟩,u⟩:∃v r,(Rb.mk K H).azW 1=(v,r):=⟨_,_,rfl⟩;have ac:=qv ⟨K,H⟩ 1;rw[u]at ac;simp only at E W D L ac;refine al (Cc d (by omega)) rfl ?_;simp only[VV,seval];refine al (Bm A (by omega)) rfl ?_;simp only[VV,seval];refine al (Bm z (by omega)) rfl ?_;simp only[VV,seval];refine al (nk 4 B (by omega) (by decide)) rfl ?_;simp only[VV,seval];refine al (nk 1 u (by omega) (by decide)) rfl ?_;simp only[VV,seval];refine p ⟨⟨t,f,m⟩,k,⟨src,tg,pv,nx,au,pr,cr,og⟩,ns⟩ af am ⟨⟨p8.1,p8.2.1,K7.1,K7.2.1,by simp only;omega,by simp only;omega,λy l=>?_⟩,by simp only;omega,by simp only;omega,by simp only;omega⟩ (by omega) ?_ (Wk.fw (by repeat' constructor))
  .rcases bW.1 l with l|l;.exact p8.2.2 y l
   exact K7.2.2 y l
  simp only[kt,e1,e2,e3,e4,e5,Q,ak,e7,e8,e9,i,d,A,z,B,u,hk,aU]
 have hk:¬k=1:=by simpa using h
 have hw:=Wk.cell (P:=κ) (n:=Y J) (xs:=(.sl 1 (aN b)::uu 1 (.ptr J.length 0::.I 0::.ptr (Y J+1) 0::.ptr (Y J+2) 0::.I v::uu 97 []))) (J:=J++[.box 57 [.I 0,.I 0,.I 0,.I 0,.nil,.nil,.s [],.s [],.s [],.s [],.I 0,.I 0,.nil],.box 191 [.sl 1 (aN c),.b C],.box 57 [.I t,.I f,.I m,.I k,.sl 3 (src.map It.azR),.nil,.s pv,.s nx,.s [],.s [],.I 0,.I 0,.sl 1 (ns.map cN)]]) (id:=Y J+2) (T:=57) (j:=5) (x:=.nil) (y:=.sl 3 []) (cs:=[.I t,.I f,.I m,.I k,.sl 3 (src.map It.azR),.nil,.s pv,.s nx,.s [],.s [],.I 0,.I 0,.sl 1 (ns.map cN)]) (by simp) rfl (λw μ v _ h=>by rw[h.pJ];exact .FX _);simp only[kf,cC,cT]at hw;refine p ⟨⟨t,f,m⟩,k,⟨src,[],pv,nx,[],[],0,0⟩,ns⟩ c C ⟨⟨p8.1,p8.2.1,by simp,by simp[bo],by simp only;omega,by simp only;omega,λy l=>?_⟩,by simp,by simp,by simp only;omega⟩ (by omega) ?_ ((Wk.fw (by repeat' constructor)).trans hw);.simp only[bI]at l;exact p8.2.2 y l
 simp only[kt,e1,e2,e3,e4,e5,Q,ak,e7,e8,e9,i,hk,bw]
def Wt:aj:=X.set a (.box 185 [.sl 1 (aN r.b),.b r.bad])
def Bk(h:m<Y J):(Wt J m R)[m]?=some (.box 185 [.sl 1 (aN R.b),.b R.bad]):=by simp[Wt,h]
def Dz:(Wt J m R).set m (.box 185 [.sl 1 (aN U),.b c])=Wt J m ⟨U,c⟩:=by simp[Wt]
def agP(k:V)(l:aR)(f:Y l<=4):∀(d b:aR) (n:Nat),l=b++d->n<256^Y b ->((fh (q) (fh (k) (fj 3 (fh (.I (d.foldl (λa x=>a*256+x.toNat) (n:Int))) (fj 39 fo))))) λp=>K (.exit 0) ⟨p,J⟩) ->gw m κ O5 K (Y d+1) ⟨(q::k::uu 3 (.I (n:Int)::uu 17 (.sl 1 (aN l)::.I (Y l)::.I (Y b)::uu 19 []))),J⟩:=by
 intro d;induction d with
 |nil =>intro b n g u j;have g:=dL g;subst g;refine az λR o=>?_;simp only[O5,VV,seval];exact⟨λh=>by simp at h,λ_=>j ..⟩
 |cons c d ih =>
 intro b n g u j;subst g;have v:=dD b c (by simp at f;omega);have t:gv (aN (b++c::d)) b.length 0=some (.i .u8 c.toNat):=by simp[gv,aN]
 have y:n<2^32:=by
  have j:Y b<=3:=by simp at f;omega
  have w:256^Y b<=256^3:=zC (by decide) j;omega
 have s:c.toNat<256:=c.toNat_lt;have e:=abn n c.toNat (by omega) s;refine az λR o=>?_;simp only[O5,ak,bM,t,v,e,VV,Int.reduceBEq,Int.reduceBNe,Nat.reduceAdd,Nat.reduceSub,Nat.reduceLeDiff,Nat.reduceEqDiff,Int.reduceToNat,reduceIte,reduceCtorEq];refine⟨λ_=>⟨⟨by omega,by simp;omega⟩,by decide,?_⟩,λh=>by simp at h<;>omega⟩;refine o _ (bX (by repeat' constructor) (ih (b++[c]) (n*256+c.toNat) (by simp) (by simp only[ah,ae,ai,aaF];omega) ?_));have r:((n*256+c.toNat:Nat):Int)=(n:Int)*256+(c.toNat:Int):=by omega
 rw[r];exact j
def zX(c:a<Y X)(r:Rb)(m:Y r.b<2^60)(n:Nat)(l:n<=4): PC κ 157 [.ptr a 0,.I n] (Wt X a r) (λv f=>v=.I (r.de n).1/\f=Wt X a (r.de n).2):=by
 refine aW func157 apz.2 λk j=>aq ?_;simp only[apz,SS,seval];by_cases h:Y r.b<n
 .have d:decide ((Y r.b:Int)<(n:Int))=θ:=by simp;omega
  have e:r.de n=(0,⟨r.b,θ⟩):=by simp only[Rb.de,aQ h]
  rw[e];simp only[Bk c,Dz,bM,d,VV,seval];exact dS (.inr rfl) rfl (Wk.refl _ _) rfl ⟨rfl,rfl⟩
 have d:decide ((Y r.b:Int)<(n:Int))=G:=by simp;omega
 have e:r.de n=(iL (r.b.take n),⟨r.b.drop n,r.bad⟩):=by simp only[Rb.de,aw h]
 have g:List.take (Y r.b - n) (List.drop n (aN r.b))=aN (r.b.drop n):=by rw[A5];exact cx (by simp[aN])
 have i:Y (r.b.take n)<=4:=by simp;omega
 rw[e];simp only[Bk c,bM,A4,d,VV,Int.reduceBEq,Int.reduceBNe,Nat.reduceAdd,Nat.reduceSub,Nat.reduceLeDiff,Nat.reduceEqDiff,Int.reduceToNat,reduceIte,reduceCtorEq];refine⟨⟨by omega,by omega,by omega⟩,?_⟩;refine cB.bX (fr':=(.ptr a 0::.I n::uu 3 (.I ((0:Nat):Int)::uu 17 (.sl 1 (aN (r.b.take n))::.I (Y (r.b.take n))::.I (Y ([]:aR):Nat)::uu 19 [])))) (by repeat' constructor) (Y (r.b.take n)+1) (agP (.ptr a 0) (.I n) (r.b.take n) i (r.b.take n) [] 0 rfl (by decide) ?_);simp only[JE];intros;simp only[Bk c,bM,g,Dz,VV,seval];exact⟨⟨by omega,by omega,by omega⟩,dS (.inr rfl) rfl (Wk.refl _ _) rfl ⟨rfl,rfl⟩⟩
def Cb(n:Nat)(a:n<=4):0<=(r.de n).1/\(r.de n).1<2^(8*n):=by
 by_cases h:Y r.b<n;.simp only[Rb.de,aQ h];exact⟨by decide,by have:=Nat.two_pow_pos (8*n);exact_mod_cast this⟩
 have:=yC r n a;simp only[Rb.azW,Rb.take,aw h]at this;simpa only[Rb.de,aw h]using this
def qu(n:Nat):Y (r.de n).2.b<=Y r.b:=by simp only[Rb.de];split<;>simp
def Mp(d:a<Y X)(r:Rb)(k:Y r.b<2^60): PC κ 159 [.ptr a 0] (Wt X a r) (λv i=>v=.s r.mc.1/\i=Wt X a r.mc.2):=by
 refine aW func159 apx.2 λo l=>aq ?_;simp only[apx,SS,seval];simp only[VV,seval];refine al (zX X a d r k 4 (by decide)) rfl ?_;have f:=Cb r 4 (by decide);have g:=qu r 4;have e:r.mc=if(r.de 4).2.bad=θ\/(Y (r.de 4).2.b:Int)<(r.de 4).1 then([],⟨(r.de 4).2.b,θ⟩)else((r.de 4).2.b.take (r.de 4).1.toNat,⟨(r.de 4).2.b.drop (r.de 4).1.toNat,(r.de 4).2.bad⟩):=rfl;rw[e];generalize r.de 4=p at f g;obtain⟨n,q⟩:=p;simp only at f g;obtain⟨m,rfl⟩:∃m:Nat,n=m:=⟨n.toNat,by omega⟩;simp only[Bk d,Dz,bM,VV,Int.reduceBEq,Int.reduceBNe,Nat.reduceAdd,Nat.reduceSub,Nat.reduceLeDiff,Nat.reduceEqDiff,Int.reduceToNat,reduceIte,reduceCtorEq];refine⟨λh=>?_,λh=>?_⟩
 .have c:q.bad=θ\/(Y q.b:Int)<(m:Int):=by simpa using h
  simp only[aQ c];exact dS (.inr rfl) rfl (Wk.refl _ _) rfl ⟨rfl,rfl⟩
 have c:¬(q.bad=θ\/(Y q.b:Int)<(m:Int)):=by simpa using h
 have j:List.take (Y q.b - m) (List.drop m (aN q.b))=aN (q.b.drop m):=by rw[A5];exact cx (by simp[aN])
 simp only[aw c,ak];simp only[A4,iB,Bk d,bM,j,Dz,VV,Int.reduceBEq,Int.reduceBNe,Nat.reduceAdd,Nat.reduceSub,Nat.reduceLeDiff,Nat.reduceEqDiff,Int.reduceToNat,reduceIte,reduceCtorEq];exact⟨⟨by omega,by omega,by omega⟩,⟨by omega,by omega,by omega⟩,dS (.inr rfl) rfl (Wk.refl _ _) rfl ⟨rfl,rfl⟩⟩
def qR:Y r.mc.2.b<=Y r.b/\Y r.mc.1<=Y r.b:=by
 have a:=qu r 4;have e:r.mc=if(r.de 4).2.bad=θ\/(Y (r.de 4).2.b:Int)<(r.de 4).1 then([],⟨(r.de 4).2.b,θ⟩)else((r.de 4).2.b.take (r.de 4).1.toNat,⟨(r.de 4).2.b.drop (r.de 4).1.toNat,(r.de 4).2.bad⟩):=rfl;rw[e];split;.exact⟨a,by simp⟩
 simp only[bj,ca];omega
def zj:Y r.kp.2.b<=Y r.b:=(qR r).1
def zW:∀(n:Nat) (r:Rb),Y (Rb.jn n r).2.b<=Y r.b/\Y (Rb.jn n r).1<=n
 |0,r=>⟨aM _,aM _⟩
 |n+1,r=>by
  have a:=qu r 2;have c:=zW n (r.de 2).2;simp only[Rb.jn];split;.exact⟨aM _,by simp⟩
  simp only[ae];exact⟨by omega,by omega⟩
def Ln(c:a<Y X)(r:Rb)(h:Y r.b<2^30):
  PC κ 158 [.ptr a 0] (Wt X a r) (λv d=>v=.sl 3 (r.kp.1.map It.azR)/\d=Wt X a r.kp.2):=by refine aW func158 apy.2 λg e=>aq ?_;have f:=qR r;simp only[apy,SS,seval];simp only[VV,seval];refine al (Mp X a c r (by omega)) rfl ?_;simp only[VV,seval];refine al (CO r.mc.1 (by omega) _) rfl ?_;simp only[Bk c,Dz,VV,seval];exact dS (.inr rfl) rfl (Wk.refl _ _) rfl ⟨rfl,rfl⟩
def Uq{x y:Ob}{ext:aj}:Wt (J++(x::y::ext)) (Y J+1) R=J++(x::.box 185 [.sl 1 (aN R.b),.b R.bad]::ext):=by simp[Wt]
def ng{ext:aj}(h:(Rb.mk U c).de a=(t,⟨Q,T⟩))(e:Y U<2^60)(d:a<=4):
  PC κ 157 [.ptr (Y J+1) 0,.I a] (J++(x::.box 185 [.sl 1 (aN U),.b c]::ext)) (λw f=>w=.I t/\f=J++(x::.box 185 [.sl 1 (aN Q),.b T]::ext)):=by have:=zX (J++(x::.dead::ext)) (Y J+1) (by simp) ⟨U,c⟩ e a d;rw[h]at this;simpa only[Uq]using this
def Bl{ext:aj}(h:(Rb.mk U c).mc=(F,⟨Q,T⟩))(a:Y U<2^60):
  PC κ 159 [.ptr (Y J+1) 0] (J++(x::.box 185 [.sl 1 (aN U),.b c]::ext)) (λw d=>w=.s F/\d=J++(x::.box 185 [.sl 1 (aN Q),.b T]::ext)):=by have:=Mp (J++(x::.dead::ext)) (Y J+1) (by simp) ⟨U,c⟩ a;rw[h]at this;simpa only[Uq]using this
def B9{ext:aj}{v:List It}(h:(Rb.mk U c).kp=(v,⟨Q,T⟩))(a:Y U<2^30):
  PC κ 158 [.ptr (Y J+1) 0] (J++(x::.box 185 [.sl 1 (aN U),.b c]::ext)) (λw d=>w=.sl 3 (v.map It.azR)/\d=J++(x::.box 185 [.sl 1 (aN Q),.b T]::ext)):=by have:=Ln (J++(x::.dead::ext)) (Y J+1) (by simp) ⟨U,c⟩ a;rw[h]at this;simpa only[Uq]using this
def ag8(f i k:Int):∀(a:Nat) (b:aR) (c:Bool) (l:bU) (g:Nat),Y l+a<256->Y b<2^40 ->(∀g,((fj 2 (fh (.ptr J.length 0) (fj 1 (fh (.ptr (Y J+1) 0) (fh (.ptr (Y J+2) 0) (fj 99 fo)))))) λw=>K (.exit 0) ⟨w,J++[L,.box 185 [.sl 1 (aN (Rb.jn a ⟨b,c⟩).2.b),.b (Rb.jn a ⟨b,c⟩).2.bad],.box 57 [.I n,.I f,.I i,.I k,.nil,.nil,.s [],.s [],.s [],.s [],.I 0,.I 0,.own (Y J+3) g],.row 3 1 8 g G ((l++(Rb.jn a ⟨b,c⟩).1).map cN)]⟩)) ->gw m κ Ps K (a+1) ⟨(uu 2 (.ptr J.length 0::uu 1 (.ptr (Y J+1) 0::.ptr (Y J+2) 0::.I a::uu 98 []))),J++[L,.box 185 [.sl 1 (aN b),.b c],.box 57 [.I n,.I f,.I i,.I k,.nil,.nil,.s [],.s [],.s [],.s [],.I 0,.I 0,.own (Y J+3) g],.row 3 1 8 g G (l.map cN)]⟩:=by
 intro a;induction a with
 |zero =>intro b c l g u t j;refine az λR q=>?_;simp only[Ps,VV,seval];simp only[Rb.jn,bI]at j;exact⟨λh=>by simp at h,λ_=>j ..⟩
 |succ a ih =>
 intro b c l g u t j;obtain⟨v,⟨z,x⟩,e⟩:∃v r,(Rb.mk b c).de 2=(v,r):=⟨_,_,rfl⟩;have d:=qu ⟨b,c⟩ 2;rw[e]at d;simp only at d;have y:decide ((0:Int)<((a+1:Nat):Int))=θ:=by simp
 have A:IntKind.i64.wrap (((a+1:Nat):Int) - 1)=(a:Int):=by rw[IntWalk.i64_in _ (by omega)];omega
 refine az λR q=>?_;simp only[Ps,y,VV,seval];refine⟨λp=>?_,λp=>?_⟩
 .have o:c=G:=by simpa using p
  subst o;refine al (ng 2 e (by omega) (by decide)) rfl ?_;simp only[A,aa,M8,maxLen,VV,seval];have B:Y l<256:=by omega
  refine⟨⟨by omega,by omega⟩,q _ (bX (by repeat' constructor) (ih z x (l++[v]) (g+1) (by simp;omega) (by omega) ?_))⟩;simp only[Rb.jn,e,aP,bw]at j;simpa only[aO,aF,ay]using j
 have o:c=θ:=by simpa using p
 subst o;simp only[Rb.jn,aU,bI]at j;exact j ..
def abE{n:Nat}{xs:aB}{J:aj}:Wk κ n xs (J++[.box 57 [.I 0,.I 0,.I 0,.I 0,.nil,.nil,.s [],.s [],.s [],.s [],.I 0,.I 0,.nil],.box 185 [.sl 1 (aN U),.b c],.box 57 [.I t,.I f,.I M,.I k,.nil,.nil,.s [],.s [],.s [],.s [],.I 0,.I 0,.nil]]) xs (J++[.box 57 [.I 0,.I 0,.I 0,.I 0,.nil,.nil,.s [],.s [],.s [],.s [],.I 0,.I 0,.nil],.box 185 [.sl 1 (aN U),.b c],.box 57 [.I t,.I f,.I M,.I k,.nil,.nil,.s [],.s [],.s [],.s [],.I 0,.I 0,.own (Y J+3) 0],.row 3 1 8 0 G (([]:bU).map cN)]):=by have:=Wk.tV (P:=κ) (n:=n) (xs:=xs) (id:=Y J+2) (j:=12) (T:=57) (cs:=[.I t,.I f,.I M,.I k,.nil,.nil,.s [],.s [],.s [],.s [],.I 0,.I 0,.nil]) (J:=J++[.box 57 [.I 0,.I 0,.I 0,.I 0,.nil,.nil,.s [],.s [],.s [],.s [],.I 0,.I 0,.nil],.box 185 [.sl 1 (aN U),.b c],.box 57 [.I t,.I f,.I M,.I k,.nil,.nil,.s [],.s [],.s [],.s [],.I 0,.I 0,.nil]]) NV (by simp) rfl;simpa only[kf,aO,ah,ae,ai,aF,ay,cC,cT,aG,Nat.reduceAdd,ar]using this
def abD{n g:Nat}{xs:aB}{J:aj}(i:bT J)(m:n<=Y J)(l:jt (Y J+3) xs):Wk κ n xs (J++[.box 57 [.I 0,.I 0,.I 0,.I 0,.nil,.nil,.s [],.s [],.s [],.s [],.I 0,.I 0,.nil],.box 185 [.sl 1 (aN U),.b c],.box 57 [.I t,.I f,.I M,.I k,.nil,.nil,.s [],.s [],.s [],.s [],.I 0,.I 0,.own (Y J+3) g],.row 3 1 8 g G (H.map cN)]) xs (J++[.box 57 [.I 0,.I 0,.I 0,.I 0,.nil,.nil,.s [],.s [],.s [],.s [],.I 0,.I 0,.nil],.box 185 [.sl 1 (aN U),.b c],.box 57 [.I t,.I f,.I M,.I k,.nil,.nil,.s [],.s [],.s [],.s [],.I 0,.I 0,.sl 1 (H.map cN)]]):=by
 have a:=Wk.share (P:=κ) (n:=n) (xs:=xs) (J:=J++[.box 57 [.I 0,.I 0,.I 0,.I 0,.nil,.nil,.s [],.s [],.s [],.s [],.I 0,.I 0,.nil],.box 185 [.sl 1 (aN U),.b c],.box 57 [.I t,.I f,.I M,.I k,.nil,.nil,.s [],.s [],.s [],.s [],.I 0,.I 0,.own (Y J+3) g],.row 3 1 8 g G (H.map cN)]) (id:=Y J+3) (E:=3) (sz:=1) (by':=8) (g:=g) (sh:=G) (rows:=H.map cN) (by simp);have e:=Wk.HZ (P:=κ) (n:=n) (xs:=xs) (J:=J++[.box 57 [.I 0,.I 0,.I 0,.I 0,.nil,.nil,.s [],.s [],.s [],.s [],.I 0,.I 0,.nil],.box 185 [.sl 1 (aN U),.b c],.box 57 [.I t,.I f,.I M,.I k,.nil,.nil,.s [],.s [],.s [],.s [],.I 0,.I 0,.own (Y J+3) g],.row 3 1 8 g θ (H.map cN)]) (id:=Y J+2) (idr:=Y J+3) (T:=57) (j:=12) (g:=g) (E:=3) (sz:=1) (by':=8) (rows:=H.map cN)
  (cs:=[.I t,.I f,.I M,.I k,.nil,.nil,.s [],.s [],.s [],.s [],.I 0,.I 0,.own (Y J+3) g]) (by simp) rfl (by simp);simp only[kf,cC,cT]at a e;have h:bT (J++[.box 57 [.I 0,.I 0,.I 0,.I 0,.nil,.nil,.s [],.s [],.s [],.s [],.I 0,.I 0,.nil],.box 185 [.sl 1 (aN U),.b c],.box 57 [.I t,.I f,.I M,.I k,.nil,.nil,.s [],.s [],.s [],.s [],.I 0,.I 0,.sl 1 (H.map cN)]]):=cj i (by simp only[bd,bD,mZ,HE,forall_eq];refine⟨?_,?_,?_⟩<;>simp only[LW]);have d:=Wk.lS (P:=κ) (n:=n) (xs:=xs) (J:=J++[.box 57 [.I 0,.I 0,.I 0,.I 0,.nil,.nil,.s [],.s [],.s [],.s [],.I 0,.I 0,.nil],.box 185 [.sl 1 (aN U),.b c],.box 57 [.I t,.I f,.I M,.I k,.nil,.nil,.s [],.s [],.s [],.s [],.I 0,.I 0,.sl 1 (H.map cN)]]) (loc:=[.row 3 1 8 g θ (H.map cN)]) (by simp;omega) h (ed.1 (by simpa using l));simp only[aO,aF,ay]at d;exact(a.trans e).trans d
set_option maxRecDepth 4000 in
def Ot(b:aR)(hb:Y b<2^30)(J:aj):bh κ 109 [.sl 1 (aN b)] J (.jg [.agg (Bt.decode b).1.azR,.I (Bt.decode b).2]):=by
 refine aW func109 aqf.2 λbc dQ=>?_;simp only[aqf,SS,seval];obtain⟨v,⟨b1,c1⟩,e1⟩:∃v r,(Rb.mk b G).de 1=(v,r):=⟨_,_,rfl⟩;obtain⟨k,⟨b2,c2⟩,e2⟩:∃w r,(Rb.mk b1 (v != 1)).de 1=(w,r):=⟨_,_,rfl⟩;obtain⟨t,⟨b3,c3⟩,e3⟩:∃v r,(Rb.mk b2 c2).de 4=(v,r):=⟨_,_,rfl⟩;obtain⟨f,⟨b4,c4⟩,e4⟩:∃v r,(Rb.mk b3 c3).de 1=(v,r):=⟨_,_,rfl⟩;obtain⟨m,⟨b5,c5⟩,e5⟩:∃v r,(Rb.mk b4 c4).de 2=(v,r):=⟨_,_,rfl⟩;obtain⟨n,⟨b6,c6⟩,Q⟩:∃v r,(Rb.mk b5 c5).de 1=(v,r):=⟨_,_,rfl⟩;have d1:=qu ⟨b,G⟩ 1;rw[e1]at d1;have d2:=qu ⟨b1,v != 1⟩ 1;rw[e2]at d2;have d3:=qu ⟨b2,c2⟩ 4;rw[e3]at d3;have d4:=qu ⟨b3,c3⟩ 1;rw[e4]at d4;have d5:=qu ⟨b4,c4⟩ 2;rw[e5]at d5;have d6:=qu ⟨b5,c5⟩ 1;rw[Q]at d6;have n6:=Cb ⟨b5,c5⟩ 1 (by decide);rw[Q]at n6;simp only at d1 d2 d3 d4 d5 d6 n6;obtain⟨N,rfl⟩:∃N:Nat,n=N:=⟨n.toNat,by omega⟩;refine cB.cut λR a=>?_;simp only[VV,seval];refine a _ (cB.fw (fr':=(.sl 1 (aN b)::uu 1 (.ptr J.length 0::uu 102 []))) ?_ (by repeat' constructor));clear a R;refine cB.cut λR a=>?_;simp only[VV,seval];refine a _ (cB.fw (fr':=(uu 2 (.ptr J.length 0::uu 1 (.ptr (Y J+1) 0::uu 100 [])))) ?_ (by repeat' constructor));clear a R;refine cB.cut λR a=>?_;simp only[VV,seval];refine al (ng 1 e1 (by omega) (by decide)) rfl ?_;simp only[VV,seval];refine a _ (cB.fw (fr':=(uu 2 (.ptr J.length 0::uu 1 (.ptr (Y J+1) 0::uu 100 [])))) ?_ (by repeat' constructor));clear a R;refine cB.cut λR a=>?_;simp only[VV,seval];refine al (ng 1 e2 (by omega) (by decide)) rfl ?_;simp only[VV,seval];refine a _ (cB.fw (fr':=(uu 2 (.ptr J.length 0::uu 1 (.ptr (Y J+1) 0::.ptr (Y J+2) 0::uu 99 [])))) ?_ (by repeat' constructor));clear a R;refine cB.cut λR a=>?_;simp only[VV,seval];refine al (ng 4 e3 (by omega) (by decide)) rfl ?_;simp only[VV,seval];refine a _ (cB.fw (fr':=(uu 2 (.ptr J.length 0::uu 1 (.ptr (Y J+1) 0::.ptr (Y J+2) 0::uu 99 [])))) ?_ (by repeat' constructor));clear a R;refine cB.cut λR a=>?_;simp only[VV,seval];refine al (ng 1 e4 (by omega) (by decide)) rfl ?_;simp only[VV,seval];refine a _ (cB.fw (fr':=(uu 2 (.ptr J.length 0::uu 1 (.ptr (Y J+1) 0::.ptr (Y J+2) 0::uu 99 [])))) ?_ (by repeat' constructor));clear a R;refine cB.cut λR a=>?_;simp only[VV,seval];refine al (ng 2 e5 (by omega) (by decide)) rfl ?_;simp only[VV,seval];refine a _ (cB.fw (fr':=(uu 2 (.ptr J.length 0::uu 1 (.ptr (Y J+1) 0::.ptr (Y J+2) 0::uu 99 [])))) ?_ (by repeat' constructor));clear a R;refine cB.cut λR a=>?_;simp only[VV,seval];refine al (ng 1 Q (by omega) (by decide)) rfl ?_;simp only[VV,seval];obtain⟨ns,⟨b7,c7⟩,e7⟩:∃v r,Rb.jn N ⟨b6,c6⟩=(v,r):=⟨_,_,rfl⟩;have d7:=zW N ⟨b6,c6⟩;rw[e7]at d7;simp only at d7;refine cB.wk ((Wk.fw (ys:=(uu 2 (.ptr J.length 0::uu 1 (.ptr (Y J+1) 0::.ptr (Y J+2) 0::.I N::uu 98 [])))) (by repeat' constructor)).trans abE)
  (cB.kT (N+1) (ag8 (.box 57 [.I 0,.I 0,.I 0,.I 0,.nil,.nil,.s [],.s [],.s [],.s [],.I 0,.I 0,.nil]) t f m k N b6 c6 [] 0 (by simp;omega) (by omega) ?_));intro g;simp only[JE];intros;rw[e7];simp only[ay,VV,seval];refine a _ (cB.wk ((Wk.fw (ys:=(uu 2 (.ptr J.length 0::uu 1 (.ptr (Y J+1) 0::.ptr (Y J+2) 0::uu 99 [])))) (by repeat' constructor)).trans (abD bc (aM _) (by simp only[LW];omega))) ?_);clear a R;refine cB.cut λR a=>?_;obtain⟨src,⟨b8,c8⟩,e8⟩:∃v r,(Rb.mk b7 c7).kp=(v,r):=⟨_,_,rfl⟩;have d8:=zj ⟨b7,c7⟩;rw[e8]at d8;simp only at d8;simp only[VV,seval];refine al (B9 e8 (by omega)) rfl ?_;simp only[VV,seval];refine a _ (cB.fw (fr':=(uu 2 (.ptr J.length 0::uu 1 (.ptr (Y J+1) 0::.ptr (Y J+2) 0::uu 99 [])))) ?_ (by repeat' constructor));clear a R;refine cB.cut λR a=>?_;obtain⟨pv,⟨b9,c9⟩,e9⟩:∃v r,(Rb.mk b8 c8).mc=(v,r):=⟨_,_,rfl⟩;have d9:=qR ⟨b8,c8⟩;rw[e9]at d9;simp only at d9;simp only[VV,seval];refine al (Bl e9 (by omega)) rfl ?_;simp only[VV,seval];refine a _ (cB.fw (fr':=(uu 2 (.ptr J.length 0::uu 1 (.ptr (Y J+1) 0::.ptr (Y J+2) 0::uu 99 [])))) ?_ (by repeat' constructor));clear a R;refine cB.cut λR a=>?_;obtain⟨nx,⟨c,C⟩,i⟩:∃v r,(Rb.mk b9 c9).mc=(v,r):=⟨_,_,rfl⟩;have F:=qR ⟨b9,c9⟩;rw[i]at F;simp only at F;simp only[VV,seval];refine al (Bl i (by omega)) rfl ?_;simp only[VV,seval];refine a _ (cB.fw (fr':=(uu 2 (.ptr J.length 0::uu 1 (.ptr (Y J+1) 0::.ptr (Y J+2) 0::uu 99 [])))) ?_ (by repeat' constructor));clear a R;refine cB.cut λR a=>?_;have p:∀(x:aV) (q:aR) (o:Bool) {fr:aB} {s0:aj},x.azU->Y q<2^30->rB b=(x,⟨q,o⟩)->Wk κ J.length fr s0 ((uu 2 (.ptr J.length 0::uu 1 (.ptr (Y J+1) 0::.ptr (Y J+2) 0::uu 99 [])))) (J++[.box 57 [.I 0,.I 0,.I 0,.I 0,.nil,.nil,.s [],.s [],.s [],.s [],.I 0,.I 0,.nil],.box 185 [.sl 1 (aN q),.b o],.box 57 x.azR])->R ⟨fr,s0⟩:=by
  intro x q o fr s0 hx ap an hc;have e:Bt.decode b=if o=θ\/0<Y q\/fc x≠0 then(CT,12)else(x,0):=by rw[<- UD];simp only[Og,an]
  refine a _ (cB.wk hc (aq ?_));clear a R hc;simp only[aV.azR,cL.azR,En.azR,aF,ay,V.pure,bM,VV,seval];refine bV (by simp only[VV,seval]<;>rfl) (λ_=>od x hx _) rfl ?_;simp only[aV.azR,cL.azR,En.azR,aF,ay,V.pure,VV,seval];refine⟨λh=>?_,λh=>?_⟩
  .have h1:o=θ\/0<Y q\/fc x≠0:=by cases o<;>simp at h |-<;>omega
   rw[aQ h1]at e;refine gx (ys:=[.agg CT.azR,.I 12]) bc (.inr rfl) (by simp only[RS,seval];rfl) ?_ (by simp only[CT,UU,aV.azR,cL.azR,En.azR,ar,aF,ay,LW]) ⟨by rw[e];rfl,rfl⟩;refine .cons (Cv.iV ?_) (.cons (.refl _) .nil);simp only[CT,UU,aV.azR,cL.azR,En.azR,ar,aF,ay];repeat first|exact .nil|refine .cons (.refl _) ?_|refine .cons (.nil _) ?_
  have h1:¬(o=θ\/0<Y q\/fc x≠0):=by cases o<;>simp at h |-<;>omega
  rw[aw h1]at e;refine bA bc (.inr rfl) (by simp only[RS,seval];rfl) (by simp[LW]) ⟨?_,rfl⟩;rw[e];rfl
 have p8:=wF ((Rb.mk b7 c7).mc.1);rw[show(parse ((Rb.mk b7 c7).mc.1)).1=src from congrArg Prod.fst e8]at p8;simp only[VV,seval];refine⟨λh=>?_,λh=>?_⟩
 .have hk:k=1:=by simpa using h
  obtain⟨tg,⟨X,Ye⟩,d⟩:∃v r,(Rb.mk c C).kp=(v,r):=⟨_,_,rfl⟩;have E:=zj ⟨c,C⟩;rw[d]at E;have K7:=wF ((Rb.mk c C).mc.1);rw[show(parse ((Rb.mk c C).mc.1)).1=tg from congrArg Prod.fst d]at K7;obtain⟨au,⟨U,ad⟩,A⟩:∃v r,(Rb.mk X Ye).mc=(v,r):=⟨_,_,rfl⟩;have W:=qR ⟨X,Ye⟩;rw[A]at W;obtain⟨pr,⟨O,M⟩,z⟩:∃v r,(Rb.mk U ad).mc=(v,r):=⟨_,_,rfl⟩;have D:=qR ⟨U,ad⟩;rw[z]at D;obtain⟨cr,⟨K,H⟩,B⟩:∃v r,(Rb.mk O M).de 4=(v,r):=⟨_,_,rfl⟩;have L:=qu ⟨O,M⟩ 4;rw[B]at L;obtain⟨og,⟨af,am⟩,u⟩:∃v r,(Rb.mk K H).de 1=(v,r):=⟨_,_,rfl⟩;have ac:=qu ⟨K,H⟩ 1;rw[u]at ac;simp only at E W D L ac;refine al (B9 d (by omega)) rfl ?_;simp only[VV,seval];refine al (Bl A (by omega)) rfl ?_;simp only[VV,seval];refine al (Bl z (by omega)) rfl ?_;simp only[VV,seval];refine al (ng 4 B (by omega) (by decide)) rfl ?_;simp only[VV,seval];refine al (ng 1 u (by omega) (by decide)) rfl ?_;simp only[VV,seval];refine p ⟨⟨t,f,m⟩,k,⟨src,tg,pv,nx,au,pr,cr,og⟩,ns⟩ af am ⟨⟨p8.1,p8.2.1,K7.1,K7.2.1,by simp only;omega,by simp only;omega,λy l=>?_⟩,by simp only;omega,by simp only;omega,by simp only;omega⟩ (by omega) ?_ (Wk.fw (by repeat' constructor))
  .rcases bW.1 l with l|l;.exact p8.2.2 y l
   exact K7.2.2 y l
  simp only[rB,e1,e2,e3,e4,e5,Q,ak,e7,e8,e9,i,d,A,z,B,u,hk,aU]
 have hk:¬k=1:=by simpa using h
 have hw:=Wk.cell (P:=κ) (n:=Y J) (xs:=(uu 2 (.ptr J.length 0::uu 1 (.ptr (Y J+1) 0::.ptr (Y J+2) 0::uu 99 [])))) (J:=J++[.box 57 [.I 0,.I 0,.I 0,.I 0,.nil,.nil,.s [],.s [],.s [],.s [],.I 0,.I 0,.nil],.box 185 [.sl 1 (aN c),.b C],.box 57 [.I t,.I f,.I m,.I k,.sl 3 (src.map It.azR),.nil,.s pv,.s nx,.s [],.s [],.I 0,.I 0,.sl 1 (ns.map cN)]]) (id:=Y J+2) (T:=57) (j:=5) (x:=.nil) (y:=.sl 3 []) (cs:=[.I t,.I f,.I m,.I k,.sl 3 (src.map It.azR),.nil,.s pv,.s nx,.s [],.s [],.I 0,.I 0,.sl 1 (ns.map cN)]) (by simp) rfl (λw μ v _ h=>by rw[h.pJ];exact .FX _);simp only[kf,cC,cT]at hw;refine p ⟨⟨t,f,m⟩,k,⟨src,[],pv,nx,[],[],0,0⟩,ns⟩ c C ⟨⟨p8.1,p8.2.1,by simp,by simp[bo],by simp only;omega,by simp only;omega,λy l=>?_⟩,by simp,by simp,by simp only;omega⟩ (by omega) ?_ ((Wk.fw (by repeat' constructor)).trans hw);.simp only[bI]at l;exact p8.2.2 y l
 simp only[rB,e1,e2,e3,e4,e5,Q,ak,e7,e8,e9,i,hk,bw]
end Go.Proofs.Tryz

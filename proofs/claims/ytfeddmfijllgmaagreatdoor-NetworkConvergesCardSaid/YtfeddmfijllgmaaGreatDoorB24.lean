/- A part of a proof; the claim's last text says of what. -/
import Derived.Test.YtfeddmfijllgmaaGreatDoorB16
import Derived.Test.YtfeddmfijllgmaaGreatDoorB17
import Derived.Test.YtfeddmfijllgmaaGreatDoorB23
set_option linter.all false
set_option maxHeartbeats 2000000
open Bool renaming true->θ,false->G
open Go.Proofs.Tryz renaming prog->κ
open List renaming length->Y

namespace Go.Proofs.Tryz
open Go Go.Pm Go.Bt
variable(v:bU)(m:List En)(s:aR)(n:Nat)(o:Int)(R:aV){X:Nat}{T:aV}{J:aj}{K:bL}
def akr(s:aR)(z:bT J)(k:Y s<2^30):∀(n:Nat) (a b:aR) (f:List It) (len:Nat),s=b++a->Y a<n->Y f<=512->bo f<=Y b->len<=1024 ->((lT n f len a (Y b)).2.2=0->((fj 5 (fh (.sl 3 ((lT n f len a (Y b)).1.map It.azR)) (fj 49 fo))) λq=>K (.exit 0) ⟨q,J⟩)) ->((lT n f len a (Y b)).2.2≠0->∀u,((fj 2 (fh (.nil) (fh (.I (lT n f len a (Y b)).2.1) (fh (.I (lT n f len a (Y b)).2.2) (fj 50 fo))))) λq=>K .ret ⟨q,J++u⟩)) ->gw (Y J) κ W9 K n ⟨(.s s::uu 4 (.sl 3 (f.map It.azR)::.I (Y b)::.I len::uu 47 [])),J⟩:=by
 intro n;induction n with
 |zero=>intro a b f len g v;omega
 |succ n ih =>
 intro a b f len g v F L O i d;cases a with
 |nil =>have g:=dL g;subst g;simp only[lT]at i;refine az λR r=>?_;simp only[W9,VV,seval];exact⟨λh=>by simp at h,λ_=>i trivial ..⟩
 |cons c a =>
 subst g;have A:=Ur (s:=c::a) (by simp);have E:List.take (Y (b++c::a) - Y b) (List.drop b.length (b++c::a))=c::a:=by simp
 simp only[lT]at i d;refine az λR r=>?_;simp only[W9,E,ak,VV,seval];refine⟨λ_=>⟨by simp;omega,?_⟩,λh=>by simp at h<;>omega⟩;refine al (YT (c::a) (by simp) (by simp at k |-;omega) _) rfl ?_;generalize H:oa (c::a)=xm at *;obtain⟨x,m⟩:=xm;simp only at A i d;simp only[It.azR,VV,seval];refine⟨λj=>?_,λj=>?_⟩
 .have j:m=0:=by simpa using j
  simp only[j,aU]at d;exact d (by simp) [_] ..
 have j:m≠0:=by simpa using j
 obtain⟨N,D,M⟩:=A j;rw[aw j]at i d;have C:=US (f++[x]);simp only[iz,bo,ah,ae,ai]at C;have B:Y b+(Y a+1)<2^30:=by simpa using k
 simp only[ae]at D v;have t:Y (b++(c::a).take m.toNat)=Y b+m.toNat:=by rw[ah,bj,ae];omega
 have y:IntKind.i64.wrap ((len:Int)+1)=((len+1:Nat):Int):=by rw[IntWalk.i64_in _ (by omega)];omega
 have o:IntKind.i64.wrap ((Y b:Int)+m)=(Y b:Int)+m:=IntWalk.i64_in _ (by omega);have w:(len:Int)+1=((len+1:Nat):Int):=by omega
 have p:(Y b:Int)+m=((Y (b++(c::a).take m.toNat):Nat):Int):=by rw[t];omega
 refine⟨λl=>?_,λl=>?_⟩
 .have l:x.azT≠1:=by simpa using l
  refine al (IX f x _) rfl ?_;simp only[It.azR,VV,seval];refine⟨λg=>?_,λg=>?_⟩
  .have g:js f x≠0:=by simpa using g
   rw[aQ ⟨l,g⟩]at d;exact d g [_] ..
  have g:js f x=0:=by simpa using g
  rw[aw (λh=>h.2 g)]at i d;refine iN (zs:=[.sl 3 (f.map It.azR),.sl 3 ([x].map It.azR)]) (.cons (.refl _) (.cons (.lit _ _) .nil)) (qX f [x] (by omega) (by simp) (by omega) (by simp only[bo];omega) _) ?_;simp only[y,o,aa,VV,seval];refine⟨λe=>?_,λe=>?_⟩
  .have e:512<Y (az9 (f++[x]))\/(1024:Int)<(len:Int)+1:=by simp at e;omega
   rw[aQ e]at d;exact d (by simp) [_] ..
  have e:¬(512<Y (az9 (f++[x]))\/(1024:Int)<(len:Int)+1):=by simp at e;omega
  rw[aw e,w,p]at i d;refine r _ (vj (aM _) z ?_ ?_ (ih ((c::a).drop m.toNat) (b++(c::a).take m.toNat) (az9 (f++[x])) (len+1) (by simp) (by rw[ca,ae];omega) (by omega) (by rw[t];omega) (by omega) i d));.rw[<- p];repeat' constructor
  simp only[LW]
 have l:x.azT=1:=by simpa using l
 rw[aw (λh=>h.1 l)]at i d;refine iN (zs:=[.sl 3 (f.map It.azR),.sl 3 ([x].map It.azR)]) (.cons (.refl _) (.cons (.lit _ _) .nil)) (qX f [x] (by omega) (by simp) (by omega) (by simp only[bo];omega) _) ?_;simp only[y,o,aa,VV,seval];refine⟨λe=>?_,λe=>?_⟩
 .have e:512<Y (az9 (f++[x]))\/(1024:Int)<(len:Int)+1:=by simp at e;omega
  rw[aQ e]at d;exact d (by simp) [_] ..
 have e:¬(512<Y (az9 (f++[x]))\/(1024:Int)<(len:Int)+1):=by simp at e;omega
 rw[aw e,w,p]at i d;refine r _ (vj (aM _) z ?_ ?_ (ih ((c::a).drop m.toNat) (b++(c::a).take m.toNat) (az9 (f++[x])) (len+1) (by simp) (by rw[ca,ae];omega) (by omega) (by rw[t];omega) (by omega) i d));.rw[<- p];repeat' constructor
 simp only[LW]
def CO(s:aR)(a:Y s<2^30)(J:aj):bh κ 73 [.s s] J (.jg [.sl 3 ((parse s).1.map It.azR),.I (parse s).2.1,.I (parse s).2.2]):=by
 refine aW func73 p73.2 λc i=>aq ?_;rw[<- DA];simp only[p73,SS,seval];simp only[VV,seval];refine cB.wk (Wk.fw ?_) (cB.kT (Y s+1) (akr s c a (Y s+1) s [] [] 0 rfl (by omega) (by simp) (by simp[bo]) (by omega) (λh=>?_) (λh=>?_)));.simp only[ai,kC,ar,VV,seval];repeat' constructor
 .have e:=IA _ _ _ _ _ h;simp only[JE];intros;simp only[VV,seval];refine bK (.inr rfl) (by simp only[RS,seval];rfl) ⟨?_,rfl⟩;have g:(E5 s).2.2=0:=h;have f:(E5 s).2.1=0:=e;rw[g,f];rfl
 simp only[JE];intros;simp only[VV,seval];refine gx (ys:=[.sl 3 [],.I (E5 s).2.1,.I (E5 s).2.2]) c (.inr rfl) (by simp only[RS,seval];rfl) ?_ (by simp[LW]) ⟨?_,rfl⟩;.exact .cons (.nil _) (.cons (.refl _) (.cons (.refl _) .nil))
 have d:=zY _ _ _ _ _ h;have b:(E5 s).1=[]:=d;rw[b];rfl
def Sx(s:aR)(J:aj):bh κ 74 [.s s] J (.b (named s)):=by refine aW func74 p74.2 λa c=>aq ?_;simp only[p74,SS,seval];simp only[VV,seval];refine bV (by simp only[VV,seval]<;>rfl) (λ_=>qY s _) rfl ?_;simp only[VV,seval];exact bK (.inr rfl) (by simp only[RS,seval];rfl) ⟨rfl,rfl⟩
def lN(e:En)(f:e.azU)(J:aj):bh κ 31 [.agg e.azR] J (.I (dx e)):=by
 refine aW func31 p31.2 λb m=>aq ?_;simp only[p31,SS,seval];simp only[En.azR,VV,seval];refine al (w8 e.azZ _) rfl ?_;simp only[VV,seval];refine⟨λh=>?_,λh=>?_⟩
 .have h:dq e.azZ≠0:=by simpa using h
  exact bA b (.inr rfl) (by simp only[RS,seval];rfl) (by simp[LW]) ⟨by simp only[dx,h,aU,gA,fi];rfl,rfl⟩
 have i:dq e.azZ=0:=by simpa using h
 refine al (w8 e.az0 _) rfl ?_;simp only[VV,seval];refine⟨λh=>?_,λh=>?_⟩
 .have h:dq e.az0≠0:=by simpa using h
  refine bA b (.inr rfl) (by simp only[RS,seval];rfl) (by simp[LW]) ⟨?_,rfl⟩;simp only[dx,i,h,aU,gA,fi,gu,bw];rfl
 have j:dq e.az0=0:=by simpa using h
 refine al (Al e.azZ e.az0 (by have:=f.azZ;omega) (by have:=f.az0;omega) (by have:=f.lC;omega) (by have:=f.td;omega) _) rfl ?_;simp only[aa,VV,seval];refine bV (by simp only[VV,seval]<;>rfl) (λ_=>Bo (kc e.azZ e.az0) e.azZ _) rfl ?_;simp only[VV,seval];refine bV (by simp only[VV,seval]<;>rfl) (λ_=>Bo (k6 e.azZ e.az0) e.az0 _) rfl ?_;simp only[VV,seval];have a:qx e=!((((Y e.azZ:Int)==0)||!jG (kc e.azZ e.az0) e.azZ)||!jG (k6 e.azZ e.az0) e.az0):=by
  have:((Y e.azZ:Int)==0)=(Y e.azZ==0):=by rw[eD];simp
  simp only[qx,this];cases(Y e.azZ==0)<;>cases jG (kc e.azZ e.az0) e.azZ<;>cases jG (k6 e.azZ e.az0) e.az0<;>rfl
 refine⟨λh=>?_,λh=>?_⟩;.rw[h]at a;refine bA b (.inr rfl) (by simp only[RS,seval];rfl) (by simp[LW]) ⟨?_,rfl⟩;simp only[dx,i,j,a,gA,gu,bw];rfl
 rw[h]at a;have d:dx e=if(parse e.cM).2.2≠0 then(parse e.cM).2.2 else if(parse e.next).2.2≠0 then(parse e.next).2.2 else
   if(named e.eu&&named e.dC)=G then 4 else if e.aAb<0\/1073741824<e.aAb\/e.aAc<1\/3<e.aAc then 1 else 0:=by simp only[dx,i,j,a,gA,gu,bw];rfl
 refine al (CO e.cM (by have:=f.cM;omega) _) rfl ?_;simp only[VV,seval];refine⟨λh=>?_,λh=>?_⟩
 .have h:(parse e.cM).2.2≠0:=by simpa using h
  rw[d,aQ h];exact gm b (by rfl) (by simp[LW])
 have k:¬(parse e.cM).2.2≠0:=by simpa using h
 refine al (CO e.next (by have:=f.next;omega) _) rfl ?_;simp only[VV,seval];refine⟨λh=>?_,λh=>?_⟩
 .have h:(parse e.next).2.2≠0:=by simpa using h
  rw[d,aw k,aQ h];exact gm b (by rfl) (by simp[LW])
 have l:¬(parse e.next).2.2≠0:=by simpa using h
 rw[aw k,aw l]at d;refine al (Sx e.eu _) rfl ?_;simp only[VV,seval];refine bV (by simp only[VV,seval]<;>rfl) (λ_=>Sx e.dC _) rfl ?_;simp only[VV,seval];have g:(!named e.eu||!named e.dC)=!(named e.eu&&named e.dC):=by cases named e.eu<;>cases named e.dC<;>rfl
 rw[g];refine⟨λh=>?_,λh=>⟨λc=>?_,λc=>?_⟩⟩
 .have h:(named e.eu&&named e.dC)=G:=by rw[dG]at h;exact h
  rw[d,aQ h];exact gm b (by rfl) (by simp[LW])
 .have h:¬(named e.eu&&named e.dC)=G:=by rw[eP]at h;rw[h];simp
  have c:e.aAb<0\/1073741824<e.aAb\/e.aAc<1\/3<e.aAc:=by simp at c;omega
  rw[d,aw h,aQ c];exact gm b (by rfl) (by simp[LW])
 have h:¬(named e.eu&&named e.dC)=G:=by rw[eP]at h;rw[h];simp
 have c:¬(e.aAb<0\/1073741824<e.aAb\/e.aAc<1\/3<e.aAc):=by simp at c;omega
 rw[d,aw h,aw c];exact gm b (by rfl) (by simp[LW])
def uX(e:En)(a:e.azU)(J:aj):bh κ 33 [.agg e.azR] J (.s (gT e)):=by
 refine aW func33 p33.2 λb d=>aq ?_;simp only[p33,SS,seval];simp only[En.azR,VV,seval];refine al (lN e a _) rfl ?_;simp only[VV,seval];refine⟨λh=>?_,λh=>?_⟩
 .have h:dx e≠0:=by simpa using h
  exact bA b (.inr rfl) (by simp only[RS,seval];rfl) (by simp[LW]) ⟨by simp only[gT,h,aU,gA,fi];rfl,rfl⟩
 have h:¬dx e≠0:=by simpa using h
 refine al (Gf e.azZ (by have:=a.lC;omega) _) rfl ?_;simp only[VV,seval];have g:=qH e.azZ a.azZ a.lC (λx c=>a.ids x (by simp[c]));have f:=a.cM;have i:=a.next;refine⟨by simp[maxLen];omega,by simp[maxLen];omega,by simp[maxLen];omega,by simp[maxLen];omega,?_⟩;refine bA b (.inr rfl) (by simp only[RS,seval];rfl) (by simp[LW]) ⟨?_,rfl⟩;simp[Pm.one,gT,aw h,dO]
def NL:bU:=(List.range n).map λ(i:Nat)=>ox v i
def TU(v:bU):Nat->Nat|0=>0|n+1=>if 0<ox v n then n+1 else TU v n
def H4:0<=ox v o:=by
 simp only[ox];split;.omega
 split<;>omega
def QZ:ox [] o=0:=by
 simp only[ox];split;.rfl
 simp
def KT:NL v (n+1)=NL v n++[ox v n]:=by simp[NL,u6]
def TL(v:bU):∀n,mf v [] n=NL v n|0=>rfl|n+1=>by have:=H4 v n;rw[Cq,KT,TL v n,QZ,aw (by omega)]
def JL(v:bU):∀n,jf v [] n=TU v n
 |0=>rfl
 |n+1=>by
  have:=H4 v n;have a:(if ox v n<0 then(0:Int)else ox v n)=ox v n:=aw (by omega);simp only[jf,TU,QZ,a,JL v n];by_cases h:0<ox v n;.rw[aQ (by omega),aQ h]
  rw[aw (by omega),aw h]
def acF:TU v n<=n:=by rw[<- JL];exact pq v [] n
def Yj:ko v=NL v (TU v 8):=by have h:=acF v 8;simp only[ko,u9,TL,JL];simp only[NL,gD,<- List.map_take,List.take_range];congr 2;omega
def tIr:Ti κ 3 1 8:=o8 (by kernel_rfl)
def Zp(i:n<8):∀(m k g:Nat),k+m=n ->(∀g,((fh (.sl 1 (v.map cN)) (fj 2 (fh (.own J.length g) (fh (.I n) (fj 26 fo))))) λd=>K (.exit 2) ⟨d,J++[.row 3 1 8 g G ((NL v n).map cN)]⟩)) ->gw (Y J) κ Jg K (m+1) ⟨(.sl 1 (v.map cN)::uu 2 (.own J.length g::.I n::uu 26 [])),J++[.row 3 1 8 g G ((NL v k).map cN)]⟩:=by
 intro m;induction m with
 |zero =>
  intro k g b a;have b:k=n:=by omega
  subst b;have e:Y (NL v k)=k:=by simp[NL]
  refine az λR c=>?_;simp only[Jg,aa,e,VV,seval];exact⟨λh=>by simp at h,λ_=>a g ..⟩
 |succ m ih =>
 intro k g b a;have e:Y (NL v k)=k:=by simp[NL]
 refine az λR c=>?_;simp only[Jg,aa,e,VV,seval];refine⟨λ_=>?_,λh=>by simp at h;omega⟩;refine al (Ao v k _) rfl ?_;simp only[aa,e,VV,seval];have f:(NL v k).map cN++[[.I (ox v k)]]=(NL v (k+1)).map cN:=by rw[KT];simp[cN]
 rw[f];refine⟨by simp[maxLen];omega,?_⟩;refine c _ (bX ?_ (ih (k+1) (g+1) (by omega) a));repeat' constructor
def Zo:∀(m i g:Nat),i+m=8 ->(∀g,((fj 3 (fh (.own J.length g) (fj 27 fo))) λf=>K (.exit 0) ⟨f,J++[.row 3 1 8 g G ((NL v (TU v 8)).map cN)]⟩)) ->gw (Y J) κ O6 K (m+1) ⟨(.sl 1 (v.map cN)::uu 2 (.own J.length g::.I i::uu 26 [])),J++[.row 3 1 8 g G ((NL v (TU v i)).map cN)]⟩:=by
 intro m;induction m with
 |zero =>
  intro i g b a;have b:i=8:=by omega
  subst b;refine az λR d=>?_;simp only[O6,VV,seval];exact⟨λh=>by simp at h,λ_=>a g ..⟩
 |succ m ih =>
 intro i g b a;have c:IntKind.i64.wrap ((i:Int)+1)=((i+1:Nat):Int):=by rw[IntWalk.i64_in _ (by omega)];omega
 have n:=acF v i;refine az λR d=>?_;simp only[O6,c,VV,seval];refine⟨λ_=>?_,λh=>by simp at h;omega⟩;refine al (Ao v i _) rfl ?_;simp only[c,VV,seval];refine⟨λh=>?_,λh=>?_⟩
 .have h:0<ox v i:=by simpa using h
  have e:TU v (i+1)=i+1:=by simp only[TU,aQ h]
  refine cB.bX ?_ (i - TU v i+1) (Zp v i (by omega) (i - TU v i) (TU v i) g (by omega) ?_);.repeat' constructor
  intro l;simp only[JE];intros;simp only[VV,seval];refine al (Ao v i _) rfl ?_;have j:Y (NL v i)=i:=by simp[NL]
  simp only[aa,j,c,VV,seval];have k:(NL v i).map cN++[[.I (ox v i)]]=(NL v (TU v (i+1))).map cN:=by rw[e,KT];simp[cN]
  rw[k];refine⟨by simp[maxLen];omega,?_⟩;refine d _ (bX ?_ (ih (i+1) (l+1) (by omega) a));repeat' constructor
 have h:¬0<ox v i:=by simpa using h
 have e:TU v (i+1)=TU v i:=by simp only[TU,aw h]
 rw[<- e];refine d _ (bX ?_ (ih (i+1) g (by omega) a));repeat' constructor
def IY(J:aj):bh κ 155 [.sl 1 (v.map cN)] J (.sl 1 ((ko v).map cN)):=by
 refine aW func155 apB.2 λa b=>aq ?_;rw[Yj];simp only[apB,SS,seval];simp only[aa,VV,seval];refine cB.wk ((Wk.k9 (k:=3) tIr rfl).trans (Wk.fw ?_)) (cB.kT 9 (Zo v 8 0 0 rfl ?_));.simp only[kC,VV,seval];repeat' constructor
 intro g;simp only[JE];intros;simp only[VV,seval];refine iw 0 a (.inr rfl) rfl rfl ?_ ?_;.simp[fz,kE,jt,Az]
 simp[fz,kE,Pm.one]
def ag7(b:bU)(i:Y v<2^63)(o:Y v=Y b):∀(d c a g:bU),v=a++d->b=g++c->Y a=Y g ->(d=c->((fj 26 fo) λk=>K (.exit 0) ⟨k,J⟩))->(d≠c->((fj 4 (fh (.b G) (fj 21 fo))) λk=>K .ret ⟨k,J⟩)) ->gw X κ Pr K (Y d+1) ⟨(.sl 1 (v.map cN)::.sl 1 (b.map cN)::uu 10 (.I (Y v)::.I (Y a)::uu 12 [])),J⟩:=by
 intro d;induction d with
 |nil =>
  intro c a g f j p l m;have:c=[]:=by subst f;subst j;simp at o;exact cd (by omega)
  subst this;have f:=dL f;subst f;refine az λR q=>?_;simp only[Pr,VV,seval];exact⟨λh=>by simp at h,λ_=>l rfl ..⟩
 |cons x d ih =>
 intro c a g f j p l m;cases c with
 |nil=>subst f;subst j;simp at o;omega
 |cons y c =>
 subst f;subst j;have r:gv (List.map cN (g++y::c)) a.length 0=some (.I y):=by rw[p,qK];rfl
 have u:=dD a x (by simp at i;omega);refine az λR q=>?_;have s:gv (List.map cN (a++x::d)) a.length 0=some (.I x):=by rw[qK];rfl
 simp only[Pr,ak,s,r,VV,seval];have t:(0:Int)<=Y a/\(Y a:Int)<Y (List.map cN (a++x::d)):=by simp;omega
 have n:(0:Int)<=Y a/\(Y a:Int)<Y (List.map cN (g++y::c)):=by simp at o |-;omega
 refine⟨λ_=>⟨t,n,λh=>?_,λh=>?_⟩,λh=>by simp at h<;>omega⟩
 .have h:¬x=y:=by simpa using h
  exact m (by simp[h]) ..
 have h:x=y:=by simpa using h
 subst h;refine q _ (bX ?_ (ih c (a++[x]) (g++[x]) (by simp) (by simp) (by simp[p]) (λe=>l (by rw[e])) (λe=>m (by simpa using e))));rw[u];repeat' constructor
def Cg(b:bU)(J:aj):bh κ 110 [.sl 1 (v.map cN),.sl 1 (b.map cN)] J (.b (v==b)):=by
 refine aW func110 aqe.2 λf d=>aq ?_;have a:=qP (d 0 _ rfl).1;rw[aa]at a;simp only[aqe,SS,seval];simp only[aa,VV,seval];refine⟨λh=>?_,λh=>?_⟩
 .refine bK (.inr rfl) rfl ⟨?_,rfl⟩;have:v≠b:=λe=>by subst e;simp at h
  simp[Pm.one,this]
 have c:Y v=Y b:=by simp at h;omega
 refine cB.bX ?_ (Y v+1) (ag7 v b a c v b [] [] rfl rfl rfl (λh=>?_) (λh=>?_));.repeat' constructor
 .simp only[JE];intros;simp only[VV,seval];exact bK (.inr rfl) rfl ⟨by simp[Pm.one,h],rfl⟩
 simp only[JE];intros;exact bK (.inr rfl) rfl ⟨by simp[Pm.one,h],rfl⟩
def ag4(q:V)(l:bU)(f:Y l<2^63):∀(a b:bU),l=b++a ->(a.any (λX=>decide (128<X))=G->((fj 1 (fh (q) (fj 84 fo))) λj=>K (.exit 0) ⟨j,J⟩))->(a.any (λX=>decide (128<X))=θ->((fj 1 (fh (q) (fh (.I 1) (fj 83 fo)))) λj=>K .ret ⟨j,J⟩)) ->gw X κ Pn K (Y a+1) ⟨(uu 1 (q::uu 29 (.sl 1 (l.map cN)::.I (Y l)::.I (Y b)::uu 52 []))),J⟩:=by
 intro a;induction a with
 |nil =>intro b d g i;have d:=dL d;subst d;refine az λR k=>?_;simp only[Pn,VV,seval];exact⟨λh=>by simp at h,λ_=>g rfl ..⟩
 |cons c a ih =>
 intro b d g i;subst d;refine az λR k=>?_;simp only[Pn,cN,VV,seval];refine⟨λ_=>⟨by simp;omega,λh=>?_,λh=>?_⟩,λh=>by simp at h<;>omega⟩
 .have h:128<c:=by simpa using h
  exact i (by simp[h]) ..
 have h:¬128<c:=by simpa using h
 have e:(c::a).any (λX=>decide (128<X))=a.any (λX=>decide (128<X)):=by simp[h]
 rw[e]at g i;refine k _ (bX ?_ (ih (b++[c]) (by simp) g i));rw[da (by simp at f;omega)];simp only[ah,ae,ai];repeat' constructor
def od(g:R.azU)(J:aj):bh κ 120 [.agg R.azR] J (.I (fc R)):=by
 refine aW func120 ap5.2 λc t=>aq ?_;have u:=g.az1;simp only[ap5,SS,seval];simp only[aV.azR,cL.azR,En.azR,VV,seval];refine al (RR R.aY _) rfl ?_;simp only[VV,seval];refine⟨λh=>?_,λh=>?_⟩
 .have h:k8 R.aY=G:=by cases f:k8 R.aY with|false=>rfl|true=>rw[f]at h;simp at h
  refine bA c (.inr rfl) (by simp only[RS,seval];rfl) (by simp[LW]) ⟨?_,rfl⟩;simp only[fc,h,aU];rfl
 have m:¬k8 R.aY=G:=by intro f;rw[f]at h;simp at h
 have s:fc R=if(R.azT≠1/\R.azT≠2)\/ko R.az1≠R.az1 then 1 else
   if R.az1.any (λn=>decide (128<n))then 1 else
   if ox R.az1 R.aY.bS≠R.aY.azW - 1 then 11 else
   if R.azT=2/\pz R.azV=G then 1 else dx (aAi R):=by simp only[fc,aw m]
 have q:1<=R.aY.azW/\R.aY.azW<=128:=by
  have:k8 R.aY=θ:=by simpa using m
  simp only[k8,bE]at this;omega
 rw[s];have p:(bif (R.azT != 1)then(R.azT != 2)else G)=decide (R.azT≠1/\R.azT≠2):=by rw[eD];by_cases b:R.azT=1<;>by_cases a:R.azT=2<;>simp[b,a]
 refine bV (by simp only[VV,seval]<;>rfl) (λ_=>IY R.az1 _) rfl ?_;simp only[VV,seval];refine bV (by simp only[VV,seval]<;>rfl) (λ_=>Cg (ko R.az1) R.az1 _) rfl ?_;simp only[VV,seval];have j:R.az1.length<2^63:=by omega
 refine⟨λh=>?_,λh=>cB.bX ?_ (R.az1.length+1) (ag4 (.ptr J.length 0) R.az1 j R.az1 [] rfl (λi=>?_) (λi=>?_))⟩
 .have h:(R.azT≠1/\R.azT≠2)\/ko R.az1≠R.az1:=by simpa[ko]using h
  refine bA c (.inr rfl) (by simp only[RS,seval];rfl) (by simp[LW]) ⟨?_,rfl⟩;rw[aQ h];rfl
 .simp only[aa,ai,VV,seval];repeat' constructor
 .have h:¬((R.azT≠1/\R.azT≠2)\/ko R.az1≠R.az1):=by
   intro a;have:(R.azT != 1&&R.azT != 2||!ko R.az1==R.az1)=θ:=by simpa using a
   rw[h]at this;simp at this
  have o:=h;rw[aw h,aw (show ¬(R.az1.any λn=>decide (128<n))=θ by rw[i];simp)];simp only[JE];intros;simp only[VV,seval];refine al (Ao R.az1 R.aY.bS _) rfl ?_;simp only[VV,seval];have r:IntKind.i64.wrap (R.aY.azW - 1)=R.aY.azW - 1:=IntWalk.i64_in _ (by omega);rw[r];refine⟨λh=>?_,λh=>?_⟩
  .have h:ox R.az1 R.aY.bS≠R.aY.azW - 1:=by simpa using h
   refine bA c (.inr rfl) (by simp only[RS,seval];rfl) (by simp[LW]) ⟨?_,rfl⟩;rw[aQ h];rfl
  have h:¬ox R.az1 R.aY.bS≠R.aY.azW - 1:=by simpa using h
  rw[aw h];refine⟨λb=>?_,λb=>?_⟩
  .have b:R.azT=1:=by simpa using b
   have l:aAi R=R.azV:=by simp only[aAi,b];rfl
   rw[aw (by rw[b];simp),l];refine al (lN R.azV g.azV _) rfl ?_;simp only[VV,seval];exact gm c (by rfl) (by simp[LW])
  have b:R.azT=2:=by
   simp only[Bb]at o;have b:¬R.azT=1:=by simpa using b
   have:=o.1;omega
  have l:aAi R=aAd R.azV:=by simp only[aAi,b];rfl
  have k:(decide ((0:Int)<(R.azV.az0.length:Int))||!R.azV.eu==[]||!R.azV.dC==[]||R.azV.aAb != 0||R.azV.aAc != 0)=!pz R.azV:=by
   have e:decide ((0:Int)<(R.azV.az0.length:Int))=!(R.azV.az0.length==0):=by rw[eD];simp only[bE,dG,gN];omega
   rw[e];simp only[pz,bne];cases R.azV.az0.length==0<;>cases R.azV.eu==[]<;>cases R.azV.dC==[]<;>cases R.azV.aAb==0<;>cases R.azV.aAc==0<;>rfl
  simp only[aa,VV,seval];rw[k];refine⟨λa=>?_,λa=>?_⟩
  .have a:pz R.azV=G:=by rw[dG]at a;exact a
   refine bA c (.inr rfl) (by simp only[RS,seval];rfl) (by simp[LW]) ⟨?_,rfl⟩;rw[aQ ⟨b,a⟩];rfl
  have a:pz R.azV=θ:=by rw[eP]at a;exact a
  rw[aw (by rw[a];simp)];refine al (wz R.azV _) rfl ?_;simp only[VV,seval];have d:=yD g;rw[l]at d |-;refine al (lN (aAd R.azV) d _) rfl ?_;simp only[VV,seval];exact gm c (by rfl) (by simp[LW])
 have h:¬((R.azT≠1/\R.azT≠2)\/ko R.az1≠R.az1):=by
  intro a;have:(R.azT != 1&&R.azT != 2||!ko R.az1==R.az1)=θ:=by simpa using a
  rw[h]at this;simp at this
 rw[aw h,aQ i];simp only[JE];intros;simp only[VV,seval];exact gm c (by rfl) (by simp[LW])
def Y8(h:fc T=0):dx (aAi T)=0:=by
 simp only[fc]at h;repeat' split at h
 all_goals first|(simp at h;done)|exact h
def TM(h:T.azU):(aAd T.azV).azU :=⟨h.azV.azZ,h.azV.lC,h.azV.azZ,h.azV.lC,h.azV.cM,h.azV.next,λx a=>h.azV.ids x (by simp only[aAd,bW]at a |-;rcases a with a|a<;>exact .inl a)⟩
def An(a:R.azU)(J:aj):bh κ 68 [.agg R.azR] J (.s (cX R)):=by
 refine aW func68 p68.2 λb c=>aq ?_;simp only[p68,SS,seval];simp only[aV.azR,cL.azR,En.azR,VV,seval];refine al (od R a _) rfl ?_;simp only[VV,seval];refine⟨λh=>?_,λh=>?_⟩
 .have h:fc R≠0:=by simpa using h
  refine bA b (.inr rfl) (by simp only[RS,seval];rfl) (by simp[LW]) ⟨?_,rfl⟩;simp only[cX,h,gA,fi,aU];rfl
 have h:fc R=0:=by simpa using h
 refine al (wz R.azV _) rfl ?_;simp only[VV,seval];refine al (uX (aAd R.azV) (TM a) _) rfl ?_;simp only[VV,seval];refine bA b (.inr rfl) (by simp only[RS,seval];rfl) (by simp[LW]) ⟨?_,rfl⟩;rw[Sn h (Y8 h)];rfl
open Go.RowKit
def Fg:Bt.pk o=ug o 4:=by
 have a:∀m:Int,G2 m=ll m:=λm=>by
  apply rm.1;have b:=NI m;have c:((ll m).toNat:Int)=m % 256:=by simp only[ll,qN];omega
  omega
 have f:∀k:Nat,o.fdiv (2^k)=o / 2^k:=λk=>jd _ (amv (by decide));simp only[Bt.pk,ug,a,f];simp
def aba(x:UInt8)(i:n<4294967296):(IntKind.i64.wrap (IntKind.i64.wrap (((BitVec.ofInt IntKind.i64.bits (n:Int) ^^^ BitVec.ofInt IntKind.i64.bits (IntKind.i64.wrap (x.toNat:Int))).toNat:Nat):Int)*16777619)).tmod 4294967296=qq n x:=by
 have h:=x.toNat_lt;have c:n ^^^ x.toNat<2^32:=Nat.xor_lt_two_pow (by omega) (by omega);have a:∀k:Nat,k<2^62->IntKind.i64.wrap (k:Int)=k:=λk g=>IntWalk.i64_in _ (by omega);have e:(BitVec.ofInt IntKind.i64.bits (n:Int) ^^^ BitVec.ofInt IntKind.i64.bits (x.toNat:Int)).toNat=n ^^^ x.toNat:=by show(BitVec.ofInt 64 (n:Int) ^^^ BitVec.ofInt 64 (x.toNat:Int)).toNat=n ^^^ x.toNat;rw[lK,lK,BitVec.toNat_xor,mQ,mQ,jJ (by omega),jJ (by omega)]
 have d:(BitVec.ofInt IntKind.u32.bits (n:Int) ^^^ BitVec.ofInt IntKind.u32.bits (x.toNat:Int)).toNat=n ^^^ x.toNat:=by show(BitVec.ofInt 32 (n:Int) ^^^ BitVec.ofInt 32 (x.toNat:Int)).toNat=n ^^^ x.toNat;rw[lK,lK,BitVec.toNat_xor,mQ,mQ,jJ (by omega),jJ (by omega)]
 have b:IntKind.u32.wrap (x.toNat:Int)=x.toNat:=by rw[tC];omega
 rw[a x.toNat (by omega),e,a _ (by omega),qq,b,d];generalize n ^^^ x.toNat=m at c;have f:IntKind.i64.wrap ((m:Int)*16777619)=((m*16777619:Nat):Int):=by rw[IntWalk.i64_in _ (by omega)];omega
 rw[f,tC,tC,amu (by omega)];omega
def agK(d:Y s<2^62):∀(a b:aR) (h:Nat),s=b++a->h<4294967296 ->((fj 3 (fh (.I (mU h a)) (fj 16 fo))) λl=>K (.exit 0) ⟨l,J⟩) ->gw X κ O0 K (Y a+1) ⟨(uu 3 (.I h::uu 2 (.sl 1 (aN s)::.I (Y s)::.I (Y b)::uu 11 []))),J⟩:=by
 intro a;induction a with
 |nil =>intro b h c j e;have c:=dL c;subst c;refine az λR k=>?_;simp only[O0,VV,seval];exact⟨λh=>by simp at h,λ_=>e ..⟩
 |cons x a ih =>
 intro b h c j e;subst c;have n:gv (aN (b++x::a)) b.length 0=some (.i .u8 x.toNat):=by simp[aN,gv]
 have o:=dD b x (by simp at d;omega);have p:0<=qq h x/\qq h x<4294967296:=by simp only[qq,tC];omega
 obtain⟨q,f⟩:∃q:Nat,qq h x=q:=⟨(qq h x).toNat,by omega⟩;have m:mU h (x::a)=mU q a:=by simp only[mU,bH,f]
 rw[m]at e;have g:=aba h x j;rw[f]at g;refine az λR k=>?_;simp only[O0,bM,n,o,g,VV,Int.reduceBEq,Int.reduceBNe,Nat.reduceAdd,Nat.reduceSub,Nat.reduceLeDiff,Nat.reduceEqDiff,Int.reduceToNat,reduceIte,reduceCtorEq];refine⟨λ_=>⟨⟨by omega,by simp;omega⟩,by decide,?_⟩,λh=>by simp at h<;>omega⟩;refine k _ (bX ?_ (ih (b++[x]) q (by simp) (by omega) e));repeat' constructor
def DI(a:Y s<2^62)(J:aj):bh κ 177 [.sl 1 (aN s)] J (.I (mU wZ s)):=by
 refine aW func177 api.2 λc b=>aq ?_;simp only[api,SS,seval];simp only[bM,VV,seval];refine cB.bX (fr':=(uu 3 (.I (2166136261:Nat)::uu 2 (.sl 1 (aN s)::.I (Y s)::.I (Y ([]:aR):Nat)::uu 11 [])))) ?_ (Y s+1) (agK s a s [] 2166136261 rfl (by decide) ?_);.repeat' constructor
 simp only[JE];intros;simp only[VV,seval];exact bK (.inr rfl) (by simp only[RS,seval];rfl) ⟨rfl,rfl⟩
def yZ(b:aR):aN s++aN b=aN (s++b):=by simp[aN]
def IL(log p:aR)(u:Y p<=60000)(v:Y log<=4000000)(J:aj):bh κ 122 [.sl 1 (aN log),.sl 1 (aN p)] J (.jg [.sl 1 (aN (log++rD p)),.I 0]):=by
 refine aW func122 ap3.2 λj t=>aq ?_;have o:decide ((65536:Int)<(Y p:Int))=G:=by simp;omega
 have m:IntKind.i64.wrap ((Y log:Int)+8)=((Y log+8:Nat):Int):=by rw[IntWalk.i64_in _ (by omega)];omega
 have l:IntKind.i64.wrap (((Y log+8:Nat):Int)+(Y p:Int))=((Y log+8+Y p:Nat):Int):=by rw[IntWalk.i64_in _ (by omega)];omega
 have s:decide ((4194304:Int)<((Y log+8+Y p:Nat):Int))=G:=by simp;omega
 have e:rD p=ug (Y p:Int) 4++(ug (mU wZ (ug (Y p:Int) 4++p)) 4++p):=by rw[DF p (by omega),<- Fg,<- Fg];simp only[mU,nF]
 have n4:∀n:Int,Y (ug n 4)=4:=λn=>by rw[<- Fg];rfl
 simp only[ap3,SS,seval];simp only[bM,o,m,l,s,VV,seval];refine al (pF (Y p:Int) 4 (by decide) _) rfl ?_;have f:(aN (ug (Y p:Int) 4)).isEmpty=G:=by simp[ug,aN]
 simp only[f,ay,yZ,bM,ah,n4,maxLen,aP,bw,VV,seval];refine⟨⟨by omega,by omega⟩,?_⟩;refine tv J.length (by simp only[jD];rfl) (DI (ug (Y p:Int) 4++p) (by rw[ah,n4];omega) _) (by simp[fz,kE,ev]) ?_;simp only[VV,seval];refine al (pF (mU wZ (ug (Y p:Int) 4++p)) 4 (by decide) _) rfl ?_;rw[e];generalize q:ug (mU wZ (ug (Y p:Int) 4++p)) 4=c;have d:Y c=4:=by rw[<- q];exact n4 _
 have b:=n4 (Y p:Int);generalize ug (Y p:Int) 4=h at *;by_cases i:log=[]
 .subst i;have k:aN []=[]:=rfl;simp only[f,k,iZ,aU,ay,yZ,bM,ah,b,d,maxLen,aP,bw,VV,seval];refine⟨⟨by omega,by omega⟩,iw 1 j (.inr rfl) (by simp only[RS,seval];rfl) rfl ?_ ?_⟩;.simp only[aI,ar,Pm.fz,kE,cG,aU,LW]
  simp only[aI,ar,Pm.fz,kE,cG,aU];exact⟨rfl,trivial⟩
 have g:(aN log).isEmpty=G:=by cases log with|nil=>exact absurd rfl i|cons a r=>rfl
 simp only[f,g,ay,yZ,bM,ah,b,d,maxLen,aP,bw,VV,seval];refine⟨⟨by omega,by omega⟩,⟨by omega,by omega⟩,⟨by omega,by omega⟩,⟨by omega,by omega⟩,iw 1 j (.inr rfl) (by simp only[RS,seval];rfl) rfl ?_ ?_⟩;.simp only[aI,ar,Pm.fz,kE,cG,aU,LW]
 simp only[aI,ar,Pm.fz,kE,cG,aU];exact⟨rfl,trivial⟩
def akq(f:Ba m)(u:∀e∈m,e.azU):∀(b a:List En) (last:aR),m=a++b->(a≠[]->∀y∈b,jN last (dO y)<0) ->(((fj 32 fo) λp=>K (.exit 0) ⟨p,J⟩)) ->gw J.length κ W8 K (b.length+1) ⟨(.sl 8 (m.map En.azR)::uu 2 (.s last::uu 6 (.I m.length::.I a.length::uu 20 []))),J⟩:=by
 intro b;induction b with
 |nil =>intro a last c l g;have c:=dL c;subst c;refine az λR n=>?_;simp only[W8,VV,seval];exact⟨λh=>by simp at h,λ_=>g ..⟩
 |cons x b ih =>
 intro a last c l g;have L:=f.len;have w:=gY c;have k:=dD a x (by omega);have B:decide ((a.length:Int)<(m.length:Int))=θ:=by simp;omega
 have E:(m.map En.azR).getD a.length []=x.azR:=by rw[c];simp[aA]
 have i:x∈m:=by rw[c];simp
 have C:=f.ok x i;refine az λR n=>?_;simp only[W8,B,k,E,ak,aa,V.pure,VV,seval];have v:x.azR.take 8=x.azR:=by simp[En.azR]
 have q:gT x=dO x:=by simp[gT,C]
 have F:dO x≠[]:=by simp[dO]
 refine⟨⟨by omega,by omega⟩,by simp[En.azR],al (uX x (u x i) _) (by simp only[v,VV,seval]) ?_⟩;have o:(dO x==[]||decide ((0:Int)<(a.length:Int))&&(Op.bytesLess (dO x) last||dO x==last))=G:=by
  have D:(dO x==[])=G:=by simpa using F
  rw[D,ow];by_cases j:a=[];.simp[j]
  have t:=l j x (by simp);have H:=iv.mY (dO x) last;have r:Op.bytesLess (dO x) last=G:=by rw[kN];simp;omega
  have A:(dO x==last)=G:=by simp only[gN];intro h;rw[<- h,iv.self]at t;omega
  rw[r,A];simp
 simp only[q,o,k,VV,seval];have d:=f.asc;rw[c]at d;simp only[fQ,aI,KA,iG,cy]at d;refine n _ (bX (fr':=(.sl 8 (m.map En.azR)::uu 2 (.s (dO x)::uu 6 (.I m.length::.I (a++[x]).length::uu 20 [])))) (by repeat' constructor) (ih (a++[x]) (dO x) (by rw[c];simp) (λ_ y z=>d.2.1.1 (dO y) (List.mem_map_of_mem z)) g))
def UF(a:Ba m)(c:∀e∈m,e.azU)(J:aj):bh κ 75 [.sl 8 (m.map En.azR)] J (.b θ):=by
 refine aW func75 p75.2 λg f=>aq ?_;have i:=a.len;have d:decide ((1024:Int)<(Y m:Int))=G:=by simp;omega
 simp only[p75,SS,seval];simp only[aa,d,VV,seval];refine cB.bX (fr':=(.sl 8 (m.map En.azR)::uu 2 (.s []::uu 6 (.I (Y m)::.I (Y ([]:List En):Nat)::uu 20 [])))) ?_ (Y m+1) (akq m a c m [] [] rfl (λh=>(h rfl).elim) ?_);.repeat' constructor
 simp only[JE];intros;simp only[VV,seval];exact bK (.inr rfl) (by simp only[RS,seval];rfl) ⟨rfl,rfl⟩
def below:Nat:=Y (m.takeWhile λe=>Op.bytesLess (dO e) s)
def akp(l:Ba m)(r:∀e∈m,e.azU)(k:aR):∀(b a:List En),m=a++b ->(((fj 5 (fh (.I (Y a+below b k:Nat)) (fj 16 fo))) λp=>K (.exit 0) ⟨p,J⟩)) ->gw (Y J) κ W7 K (Y b+1) ⟨(.sl 8 (m.map En.azR)::.s k::uu 3 (.I (Y a)::uu 16 [])),J⟩:=by
 intro b;induction b with
 |nil =>
  intro a d f;have d:=dL d;subst d;refine az λR o=>?_;simp only[below,List.takeWhile_nil,ai,cu]at f;have i:decide ((Y m:Int)<(Y m:Int))=G:=by simp
  simp only[W7,aa,i,VV,seval];refine⟨λh=>by simp at h,.u,λh=>by simp at h,?_⟩;refine bV (c:=G) (v:=.s []) (by simp only[VV,seval]<;>rfl) (λh=>by simp at h) rfl ?_;simp only[VV,seval];exact f ..
 |cons x b ih =>
 intro a d f;have A:=l.len;have w:=gY d;have n:=dD a x (by omega);have i:decide ((Y a:Int)<(Y m:Int))=θ:=by simp;omega
 have z:(m.map En.azR).getD a.length []=x.azR:=by rw[d];simp[aA]
 have j:x∈m:=by rw[d];simp
 have y:=l.ok x j;have t:x.azR.take 8=x.azR:=by simp[En.azR]
 have q:gT x=dO x:=by simp[gT,y]
 refine az λR o=>?_;simp only[W7,i,n,z,t,ak,aa,V.pure,VV,seval];refine⟨⟨by omega,by omega⟩,.agg x.azR,⟨rfl,by simp[En.azR]⟩,?_⟩;refine bV (c:=θ) (by simp only[VV,seval]<;>rfl) (λ_=>uX x (r x j) _) rfl ?_;simp only[q,n,VV,seval];refine⟨λh=>o _ (bX (fr':=(.sl 8 (m.map En.azR)::.s k::uu 3 (.I (Y (a++[x]))::uu 16 []))) (by repeat' constructor) (ih (a++[x]) (by rw[d];simp) ?_)),λh=>?_⟩
 .have g:Y (a++[x])+below b k=Y a+below (x::b) k:=by simp only[below,ft,h,aU,ae,ah,ai];omega
  rw[g];exact f
 have g:Y a+below (x::b) k=Y a:=by simp only[below,ft,h,aP,bw,ai,cu]
 rw[g]at f;exact f ..
def UI(b:Ba m)(a:∀e∈m,e.azU)(k:aR)(J:aj):bh κ 76 [.sl 8 (m.map En.azR),.s k] J (.I (below m k:Nat)):=by
 refine aW func76 p76.2 λd c=>aq ?_;simp only[p76,SS,seval];simp only[VV,seval];refine cB.bX (fr':=(.sl 8 (m.map En.azR)::.s k::uu 3 (.I (Y ([]:List En):Nat)::uu 16 []))) ?_ (Y m+1) (akp m b a k m [] rfl ?_);.repeat' constructor
 simp only[JE];intros;simp only[ai,aG,VV,seval];exact bK (.inr rfl) (by simp only[RS,seval];rfl) ⟨rfl,rfl⟩
def aeH:below m s<=Y m:=K4 (KY _)
def G3(k:aR):∀{m:List En},KA (m.map dO)->below m k=nB k (m.map dO)
 |[],_=>rfl
 |x::r,h=>by
  simp only[aI,KA,cy]at h;have ih:=G3 k (m:=r) h.2;cases a:Op.bytesLess (dO x) k with
  |true =>
   have b:decide (dO x<k)=θ:=by rw[kN]at a;simpa[wI]using a
   simp only[below,ft,a,aU,ae,nB,aI,ae3,b]at ih |-;rw[ih]
  |false =>
  have b:¬jN (dO x) k<0:=by rw[kN]at a;simpa using a
  simp only[below,ft,a,aP,bw,ai];refine(BQ.2 λy c=>?_).symm;simp only[bE,wI];rcases bd.1 c with rfl|c;.exact b
  have d:=h.1 y c;intro e;exact b (mA d e)
def My(b:Ba m)(g:∀e∈m,e.azU)(k:aR)(J:aj):bh κ 32 [.sl 8 (m.map En.azR),.s k] J (.I (find m k)):=by
 refine aW func32 p32.2 λt r=>aq ?_;have j:=aeH m k;have w:=b.len;have f:=G3 k b.asc;have l:find m k=if below m k=Y m\/(m.map dO).getD (below m k) []≠k then -1 else(below m k:Int):=by simp only[find,b.keys,f,aa,wi,pW]
 rw[l];simp only[p32,SS,seval];simp only[VV,seval];refine al (UF m b g _) rfl ?_;simp only[VV,seval];refine al (UI m b g k _) rfl ?_;by_cases h:below m k<Y m
 .have i:=eJ h;have q:(m.map En.azR).getD (below m k) []=m[below m k].azR:=by simp[aA,h]
  have d:decide ((below m k:Int)<(Y m:Int))=θ:=by simp;omega
  have p:m[below m k].azR.take 8=m[below m k].azR:=by simp[En.azR]
  have n:gT m[below m k]=dO m[below m k]:=by simp[gT,b.ok _ i]
  have o:(m.map dO).getD (below m k) []=dO m[below m k]:=by simp[aA,h]
  simp only[aa,d,q,p,ak,VV,seval];refine⟨⟨by omega,by omega⟩,.agg m[below m k].azR,⟨rfl,by simp[En.azR]⟩,?_⟩;refine bV (c:=θ) (by simp only[VV,seval]<;>rfl) (λ_=>uX m[below m k] (g _ i) _) rfl ?_;simp only[n,o,VV,seval];refine⟨λa=>?_,λa=>?_⟩
  .have a:dO m[below m k]=k:=by simpa using a
   rw[aw (by rw[a];simp;omega)];exact bK (.inr rfl) (by simp only[RS,seval];rfl) ⟨rfl,rfl⟩
  have a:dO m[below m k]≠k:=by simpa using a
  rw[aQ (.inr a)];exact bK (.inr rfl) (by simp only[RS,seval];rfl) ⟨rfl,rfl⟩
 have d:decide ((below m k:Int)<(Y m:Int))=G:=by simp;omega
 rw[aQ (.inl (by omega))];simp only[aa,d,VV,seval];refine⟨λh=>by simp at h,.u,λh=>by simp at h,?_⟩;refine bV (c:=G) (v:=.s []) (by simp only[VV,seval]<;>rfl) (λh=>by simp at h) rfl ?_;simp only[VV,seval];exact bK (.inr rfl) (by simp only[RS,seval];rfl) ⟨rfl,rfl⟩
end Go.Proofs.Tryz

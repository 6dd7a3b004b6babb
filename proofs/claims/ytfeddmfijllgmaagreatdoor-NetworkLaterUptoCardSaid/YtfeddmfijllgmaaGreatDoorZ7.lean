/- Part of a proof. -/
import Derived.Test.YtfeddmfijllgmaaGreatDoorZ6
set_option linter.all false
open Option renaming some->S,none->Y
open Bool renaming true->G,false->Z
open List renaming length->X
namespace Go.Pm
open Go Go.RowKit
variable(F:ai){f H:Nat}{D:O}{T:St}{R:ai}{M N:ar}{U:bG}{Q w:bK}{P:bl}{L:eJ}
def Wk.cell{P:bl}{n:Nat}{xs:ar}{J:ai}{id T j:Nat}{cs:ar}{x y:V}(a:J[id]?=S (.box T cs))(D:cs[j]?=S x) (hv:∀(w:bF) (d:Mem) (v:Value),(∀i o,J[i]?=S o->∃P B,Je P B w J d (d i) o)->VR w J d x v->VR w J d y v):Wk P n xs J xs (J.set id (.box T (cs.set j y))):=by
 intro B w0 w d vs r s;have p:id<J.length:=(ag.1 a).1;have U:j<cs.length:=(ag.1 D).1;have h:=r.update (w':=w) (J':=J.set id (.box T (cs.set j y))) (μ':=d) id Y (grownBy_refl w Y) (by simp) (by simp) (λk f=>bD (λe=>f e.symm)) (λk f=>rfl)
  (λb l=>.inl ⟨_,a,by simp,l⟩)
  (λb N v o c hd l hc M=>⟨hc,λo' Q ac ha=>M ⟨id,o,c,l,by
   rw[a]at c;cases c;trivial⟩⟩)
  (λT' O h=>by rw[a]at h;cases h;exact⟨⟨_,by rw[aN p]⟩,rfl⟩)
  (λK E es h=>by rw[a]at h;cases h)
  (λE sz L g' sh ys _ h=>by rw[aN p]at h;simp at h)
  (λC o c=>by
   rw[aN p]at c;simp only[aa]at c;subst c;obtain⟨b,us,I,F,R,H,t⟩:=r.obj id _ a;refine⟨b,us,I,F,R,by simpa using H,λk z g=>?_⟩;by_cases f:j=k;.subst f;rw[aN U]at g;simp only[aa]at g;subst g;obtain⟨u,q,m⟩:=t j x D;exact⟨u,q,(hv w d u (λi o c=>⟨P,B,r.obj i o c⟩) m).mono C⟩
   rw[bD f]at g;obtain⟨u,q,m⟩:=t k z g;exact⟨u,q,m.mono C⟩);exact⟨d,h.1,⟨s.1,λi x W=>(s.2 i x W).mono h.2⟩,h.2.dX.Rp⟩
def Wk.alg{id T j idr E d a g:Nat}{F:Bool}(y:R[id]?=S (.box T N))(hj:N[j]?=S .nil)(n:R[idr]?=S (.row E d a g F L)): Wk P f M R M ((R.set idr (.row E d a (g+1) Z [])).set id (.box T (N.set j (.own idr (g+1))))):=by
 have iV:id≠idr:=λe=>by subst e;rw[y]at n;cases n
 intro B w0 w μ vs hS W;have p:idr<X R:=(ag.1 n).1;obtain⟨hT,_⟩:=hS.obj idr _ n;have h:=hS.update (w':=w) (J':=R.set idr (.row E d a (g+1) Z [])) (μ':=xX μ idr (.slice Y 0 0)) idr Y (grownBy_refl w Y) (by simp) (by simp) (λk l=>bD (λe=>l e.symm)) (λk l=>uf _ _ _ _ l)
  (λb m=>by rw[gy]at m;simp[l9]at m)
  (λb J v o c hd m V hw=>⟨V,λo' Q q=>by rw[gy]at q;simp[l9]at q⟩)
  (λT' O h=>by rw[n]at h;cases h)
  (λK E es h=>by rw[n]at h;cases h)
  (λE2 ac af g' ad ys _ h=>by
   rw[aN p]at h;simp only[aa,Ob.row.injEq]at h;obtain⟨rfl,rfl,rfl,rfl,rfl,rfl⟩:=h;exact⟨g,F,L,n,by omega,λe=>by omega⟩)
  (λI o c=>by rw[aN p]at c;simp only[aa]at c;subst c;rw[gy];exact⟨hT,[],World.ownsRow_nil w B E d,by simp,by simp[gi]⟩);have r:(R.set idr (.row E d a (g+1) Z []))[id]?=S (.box T N):=by rw[bD (λe=>iV e.symm)];exact y
 have C:(R.set idr (.row E d a (g+1) Z []))[idr]?=S (.row E d a (g+1) Z []):=by rw[aN p]
 have D:id<X (R.set idr (.row E d a (g+1) Z [])):=(ag.1 r).1;have uL:j<X N:=(ag.1 hj).1;have s:=h.1.update (w':=w) (J':=(R.set idr (.row E d a (g+1) Z [])).set id (.box T (N.set j (.own idr (g+1))))) (μ':=xX μ idr (.slice Y 0 0)) id Y (grownBy_refl w Y) (by simp) (by simp) (λk l=>bD (λe=>l e.symm)) (λk l=>rfl)
  (λb m=>.inl ⟨_,r,by simp,m⟩)
  (λb J v o c hd m V hw=>⟨V,λo' Q q ha=>hw ⟨id,o,c,m,by
   rw[r]at c;cases c;trivial⟩⟩)
  (λT' O h=>by rw[r]at h;cases h;exact⟨⟨_,by rw[aN D]⟩,rfl⟩)
  (λK E es h=>by rw[r]at h;cases h)
  (λE d a g' F ys _ h=>by rw[aN D]at h;simp at h)
  (λI o c=>by
   rw[aN D]at c;simp only[aa]at c;subst c;obtain⟨b,us,h1,s,h3,h4,h5⟩:=h.1.obj id _ r;refine⟨b,us,h1,s,h3,by simpa using h4,λk z t=>?_⟩;by_cases l:j=k;.subst l;rw[aN uL]at t;simp only[aa]at t;subst t;obtain⟨u,U,H⟩:=h5 j .nil hj;have hu:=H.nF;subst hu;have:=(VR.qT (w:=w) (μ:=xX μ idr (.slice Y 0 0)) C);rw[gy]at this;exact⟨_,U,this.mono I⟩
   rw[bD l]at t;obtain⟨u,U,H⟩:=h5 k z t;exact⟨u,U,H.mono I⟩);exact⟨_,s.1,⟨W.1,λi x hx=>((W.2 i x hx).mono h.2).mono s.2⟩,λx v hv hl=>(hv.mono h.2).mono s.2⟩
def Wk.qN{P:bl}{n:Nat}{xs:ar}{J:ai}{id T j E c a:Nat}{cs:ar}(M:Ti P E c a)(p:J[id]?=S (.box T cs))(I:cs[j]?=S .nil): Wk P n xs J xs ((J.set id (.box T (cs.set j (.own (X J) 0))))++[.row E c a 0 Z []]):=by
 intro B w0 w μ vs hS C;have H:id<X J:=(ag.1 p).1;have q:=hS.w7 (w':=w) (.row E c a 0 Z []) (.slice Y 0 0) (grownBy_refl w Y) (by simp[l9]) (λ_=>⟨M,[],World.ownsRow_nil w B E c,by simp,by simp[gi]⟩);have U:(J++[.row E c a 0 Z []])[X J]?=S (.row E c a 0 Z []):=by simp
 have g:(J++[.row E c a 0 Z []])[id]?=S (.box T cs):=by rw[bc H];exact p
 have s:id<X (J++[Ob.row E c a 0 Z []]):=by simp;omega
 have uL:j<X cs:=(ag.1 I).1;have he:(J.set id (.box T (cs.set j (.own (X J) 0))))++[Ob.row E c a 0 Z []]=(J++[Ob.row E c a 0 Z []]).set id (.box T (cs.set j (.own (X J) 0))):=by rw[iu _ _ H]
 rw[he];have f:=q.1.update (w':=w) (J':=(J++[Ob.row E c a 0 Z []]).set id (.box T (cs.set j (.own (X J) 0)))) (μ':=xX μ (X J) (.slice Y 0 0)) id Y (grownBy_refl w Y) (by simp) (by simp) (λk l=>bD (λe=>l e.symm)) (λk l=>rfl)
  (λb r=>.inl ⟨_,g,by simp,r⟩)
  (λb Q v o d hd r hc O=>⟨hc,λo' V ac ha=>O ⟨id,o,d,r,by
   rw[g]at d;cases d;trivial⟩⟩)
  (λT' R h=>by rw[g]at h;cases h;exact⟨⟨_,by rw[aN s]⟩,rfl⟩)
  (λK E es h=>by rw[g]at h;cases h)
  (λE c a g' sh ys _ h=>by rw[aN s]at h;simp at h)
  (λF o d=>by
   rw[aN s]at d;simp only[aa]at d;subst d;obtain⟨b,us,N,f,W,L,D⟩:=q.1.obj id _ g;refine⟨b,us,N,f,W,by simpa using L,λk z m=>?_⟩;by_cases l:j=k;.subst l;rw[aN uL]at m;simp only[aa]at m;subst m;obtain⟨u,y,t⟩:=D j .nil I;have hu:=t.nF;subst hu;have:=(VR.qT (w:=w) (μ:=xX μ (X J) (.slice Y 0 0)) U);rw[gy]at this;exact⟨_,y,this.mono F⟩
   rw[bD l]at m;obtain⟨u,y,t⟩:=D k z m;exact⟨u,y,t.mono F⟩);exact⟨_,f.1,⟨C.1,λi x hx=>((C.2 i x hx).mono q.2).mono f.2⟩,λx v hv hl=>(hv.mono q.2).mono f.2⟩
def cD.cut(h:∀R:bU,(∀a,cD f P w U a->R a)->DV f P Q (Fp R U) T):cD f P (.seq Q w) U T:=by refine cD.seq ?_;refine(an (h (cD f P w U) λ_ h=>h)).mono λe a b=>?_;cases e<;>exact b
def cD.fG{a fr':ar}(k:cD f P Q U ⟨fr',R⟩)(b:qP a fr'):cD f P Q U ⟨a,R⟩:=cD.wk (Wk.fG b) k
def cD.drop{n:Nat}{P:bl}{J:ai}(a:ai)(e:n<=X J+X F)(b:bW (J++F))(d:qP M N)(c:iY (X J+X F) N)(k:cD n P Q U ⟨N,J++F⟩):cD n P Q U ⟨M,J++(F++a)⟩:=by rw[<- List.append_assoc];exact cD.wk ((Wk.fG d).trans (Wk.lA (by rw[ae];exact e) b (by rw[ae];exact dO.1 c))) k
def DN{l b:ai}(h:bW (R++l))(i:X l<=X b)(g:∀o∈b,match o with|.box _ c=>iY (X R+X b) c|_=>True):bW (R++b):=by
 intro id T c a j x d;rw[ae];rcases jt id (X R) with e|f;.rw[bc e]at a;have:=h id T c (by rw[bc e];exact a) j x d;rw[ae]at this;exact this.mono (by omega)
 rw[bB f]at a;have:=g _ (bn a);simp only at this;exact dO.1 this j x d
def CQ{id:Nat}{o:Ob}(h:R[id]?=S o):R.set id o=R:=by
 apply jF;intro j;by_cases a:id=j;.subst a;rw[aN (ag.1 h).1,h]
 rw[bD a]
def PC.fzs{P:bl}{a zs:ar}{v:V}(id:Nat){e c g:Nat}(i:R[id]?=S (.row H e c g G L))
  (h:PC P f zs R (λr b=>r=v/\b=R)) (j:a.map (Pm.fz id g e L)=zs):PC P f a R (λr b=>r=v/\b=R):=by have d:=Wk.fz (P:=P) (n:=X R) (xs:=a) id i;rw[CQ i,j]at d;exact PC.wk d h
def Wk.ahV{P:bl}{n:Nat}{xs:ar}{J:ai}{E sz by' g:Nat}{sh:Bool}{rows:eJ}:Wk P n xs (J++[.row E sz by' g sh rows]) xs (J++[.row E sz by' g G rows]):=by have:=Wk.share (P:=P) (n:=n) (xs:=xs) (J:=J++[.row E sz by' g sh rows]) (id:=X J) (E:=E) (sz:=sz) (by':=by') (g:=g) (sh:=sh) (rows:=rows) (by simp);rwa [ej _ _ (aB _),gO]at this
def B3(h:∀R:bU,(∀a,gF f P Q U H a->R a)->cD f P Q (Fp R U) T):gF f P Q U (H+1) T:=by simp only[gF];exact(h (gF f P Q U H) λ_ h=>h).mono λe a b=>by cases e<;>exact b
def cD.aco(h:∀R:bU,(∀a,cD f P w U a->R a)->cD f P Q (Fp R U) T):cD f P (.seq Q w) U T:=by refine cD.seq ?_;refine(h (cD f P w U) λ_ h=>h).mono λe a b=>?_;cases e<;>exact b
def cD.l9{id:Nat}(h:cD f P Q (HV id U) T):cD f P (.block id Q) U T :=cD.block (h.mono λe b a=>by cases e with|exit d =>simp only[HV]at a;simp only[CE];split at a<;>rename_i c<;>simp only[c,aR,bo]<;>exact a|_=>exact a)
def cD.arD{x y:bK}(a:ev T.fr D=.b G)(h:cD f P x U T):cD f P (.ite D x y) U T :=cD.ite a (λ_=>h) (λh=>by cases h)
def cD.arE{x y:bK}(a:ev T.fr D=.b Z)(h:cD f P y U T):cD f P (.ite D x y) U T :=cD.ite a (λh=>by cases h) (λ_=>h)
inductive Mv (n:Nat) (loc:ai) (ks:ed):V->V->Prop
 |own (i k E sz by' g:Nat) (sh:Bool) (rows:eJ) (hk:ks[i]?=some k) (ho:loc[k]?=some (.row E sz by' g sh rows)):Mv n loc ks (.own (n+k) g) (.own (n+i) 0)
 |dX (x:V) (h:x.Lt n):Mv n loc ks x x
 |forget (x:V):Mv n loc ks x .u
 |agg (xs ys:ar) (hl:ys.length=xs.length) (h:∀(i:Nat) (x y:V),xs[i]?=some x->ys[i]?=some y->Mv n loc ks x y):Mv n loc ks (.agg xs) (.agg ys)
inductive Mvs (n:Nat) (loc:ai) (ks:ed):ar->ar->Prop
 |nil:Mvs n loc ks [] []
 |cons {x y xs ys} (h:Mv n loc ks x y) (t:Mvs n loc ks xs ys):Mvs n loc ks (x::xs) (y::ys)
def Mvs.at{n:Nat}{a:ai}{f:ed}{d b:ar}(h:Mvs n a f d b):X b=X d/\∀(i:Nat) (x y:V),d[i]?=S x->b[i]?=S y->Mv n a f x y:=by
 induction h with
 |nil=>simp
 |cons h t ih =>refine⟨by simp[ih.1],λi x y e c=>?_⟩;cases i with|zero=>simp only[aG,aa]at e c;subst e;subst c;exact h|succ i=>exact ih.2 i x y (by simpa using e) (by simpa using c)
def Wk.PT{P:bl}{xs ys:ar}{J loc os:ai}(M:ed)(bd:bW J)(YF:M.Nodup)(O:X os=X M) (Vx:∀(i k:Nat),M[i]?=S k->∃o,loc[k]?=S o/\o.flat=G/\os[i]?=S o.fresh) (hx:Mvs (X J) loc M xs ys):Wk P (X J) xs (J++loc) ys (J++os):=by
 intro B w0 w Q vs R hC;let n:Mem:=λj=>if j<X J then Q j else Q (X J+M.getD (j - X J) 0);have vt:∀id,id<X J->n id=Q id:=λid h=>by simp only[n];rw[aO h]
 have ac:∀i k,M[i]?=S k->n (X J+i)=Q (X J+k):=λi k H=>by simp only[n];rw[ao (by omega),dD,ax,H];rfl
 have dP:∀id,id<X J->(J++os)[id]?=(J++loc)[id]?:=λid h=>by rw[bc h,bc h]
 have Ek:∀i,(J++os)[X J+i]?=os[i]?:=λi=>by rw[bB (by omega),dD]
 have Hh:∀i,(J++loc)[X J+i]?=loc[i]?:=λi=>by rw[bB (by omega),dD]
 have a:∀{id s},(J++os)[id]?=S s->(id<X J/\(J++loc)[id]?=S s/\n id=Q id) \/(∃i k o,id=X J+i/\M[i]?=S k/\(J++loc)[X J+k]?=S o/\o.flat=G/\s=o.fresh/\n id=Q (X J+k)):=by
  intro id s h;rcases jt id (X J) with F|hg;.exact .inl ⟨F,dP id F▸h,vt id F⟩
  right;obtain⟨i,rfl⟩:∃i,id=X J+i:=⟨id - X J,by omega⟩;rw[Ek]at h;have V:i<X M:=by rw[<- O];exact(ag.1 h).1
  obtain⟨k,H⟩:∃k,M[i]?=S k:=⟨_,aA V⟩;obtain⟨o,d,f,c⟩:=Vx i k H;rw[h]at c;exact⟨i,k,o,rfl,H,by rw[Hh];exact d,f,kW c,ac i k H⟩
 have hw:∀b U,wr (J++os) n b U->wr (J++loc) Q b U:=by
  rintro b U ⟨id,s,d,f,c⟩;rcases a d with⟨l,p,q⟩|⟨i,k,o,rfl,_,p,q,rfl,N⟩;.exact⟨id,s,p,q▸f,c⟩
  exact⟨X J+k,o,p,N▸f,by cases o<;>exact c⟩
 have L:∀{x v},VR w (J++loc) Q x v->x.Lt (X J)->VR w (J++os) n x v:=λh F=>h.ahe (m:=X J) (by simp) hw dP vt F;obtain⟨Aj,af⟩:=hx.at;refine⟨n,⟨R.below,R.base,λid s I=>?_,λi j oi oj b V z d f c l=>?_⟩,⟨by rw[Aj];exact hC.1,λi y hy=>?_⟩,λx v hv F=>L hv F⟩
 .rcases a I with⟨l,p,q⟩|⟨i,k,o,rfl,_,p,q,rfl,N⟩
  .have gE:=R.obj id s p;rw[q];cases s with
   |dead=>trivial
   |box T cs =>obtain⟨b,us,d,f,c,ap,am⟩:=gE;have oA:=bd id T cs (by rwa [bc l]at p);exact⟨b,us,d,f,c,ap,λj x z=>let ⟨u,q,N⟩:=am j x z;⟨u,q,L N (oA j x z)⟩⟩
   |row E sz W g sh t =>obtain⟨d,D,f,c⟩:=gE;exact⟨d,D,f,c.1,λi j x z=>let ⟨l,u,p,q⟩:=c.2 i j x z;⟨l,u,p,L q (mH l _)⟩⟩
   |map K E es =>obtain⟨r,C,clock,d,f,c,l⟩:=gE;exact⟨r,C,clock,d,f,c,l.1,λi k x V=>let ⟨p,q,e,N,h8,h9⟩:=l.2.1 i k x V;⟨p,q,e,N,L h8 (yl p _),L h9 (yj q _)⟩,l.2.2⟩
  have gE:=R.obj (X J+k) o p;rw[N];cases o with
  |dead=>trivial
  |box T cs=>simp[Ob.flat]at q
  |row E sz W g sh t =>obtain⟨d,D,f,c⟩:=gE;exact⟨d,D,f,c.1,λi j x z=>let ⟨l,u,p,q⟩:=c.2 i j x z;⟨l,u,p,L q (mH l _)⟩⟩
  |map K E es =>obtain⟨r,C,clock,d,f,c,l⟩:=gE;exact⟨r,C,clock,d,f,c,l.1,λi k x V=>let ⟨p,q,e,N,h8,h9⟩:=l.2.1 i k x V;⟨p,q,e,N,L h8 (yl p _),L h9 (yj q _)⟩,l.2.2⟩
 .have nd:∀{o:Ob},o.fresh≠.dead->o≠.dead:=λh e=>h (by rw[e];rfl);rcases a V with⟨i1,i2,i3⟩|⟨i',k,o,rfl,ik,i5,_,rfl,i7⟩<;>rcases a z with⟨j1,j2,j3⟩|⟨j',k',s,rfl,jk,j5,_,rfl,j7⟩;.exact R.sep i j oi oj b i2 j2 d f (i3▸c) (j3▸l)
  .have:=R.sep i (X J+k') oi s b i2 j5 d (nd f) (i3▸c) (j7▸l);omega
  .have:=R.sep (X J+k) j o oj b i5 j2 (nd d) f (i7▸c) (j3▸l);omega
  have e:=R.sep (X J+k) (X J+k') o s b i5 j5 (nd d) (nd f) (i7▸c) (j7▸l);have e:k=k':=by omega
  subst e;have e2:i'=j':=by obtain⟨l1,g1⟩:=ag.1 ik;obtain⟨l2,g2⟩:=ag.1 jk;exact(List.getElem_inj YF).1 (g1.trans g2.symm)
  rw[e2]
 have oT:i<X xs:=by rw[<- Aj];exact(ag.1 hy).1
 obtain⟨x,yt⟩:∃x,xs[i]?=S x:=⟨_,aA oT⟩;have hv:=hC.2 i x yt;have hm:=af i x y yt hy;clear yt hy oT;generalize vs.getD i undef=v at hv |-;induction hm generalizing v with
 |own i' k E sz W g sh t H ho =>
  have ad:(J++loc)[X J+k]?=S (.row E sz W g sh t):=by rw[Hh];exact ho
  have d:=hv.lP ad;have av:i'<X os:=by rw[O];exact(ag.1 H).1
  obtain⟨o,q1,_,q3⟩:=Vx i' k H;rw[ho]at q1;simp only[aa]at q1;subst q1;refine .own _ _ _ (by simp;omega) λE2 au aE g2 a0 aM I=>?_;rw[Ek,q3]at I;simp only[Ob.fresh,aa,Ob.row.injEq]at I;rw[ac i' k H];exact⟨iP _,λ_=>d⟩
 |dX x h=>exact L hv h
 |forget x=>exact .u _
 |agg as bs F h ih =>
 obtain⟨us,rfl,d,f⟩:=hv.tq;refine .agg bs us (by rw[F,d]) λj y z=>?_;have uL:j<X as:=by rw[<- F];exact(ag.1 z).1
 exact ih j _ y (aA uL) z _ (f j _ (aA uL))
def Mv.iK{a:ed}(h:Mvs f R a M N):Mv f R a (.agg M) (.agg N):=.agg M N h.at.1 h.at.2
def Wk.cellS{P:bl}{n:Nat}{xs:ar}{J:ai}{id T j:Nat}{cs:ar}{x y:V}(a:J[id]?=S (.box T cs))(F:cs[j]?=S x) (hv:∀(B:Nat) (p w:bF) (c:Mem) (v:Value),kN P B p w J c->VR w J c x v->VR w J c y v):Wk P n xs J xs (J.set id (.box T (cs.set j y))):=by
 intro B p w c vs s t;have q:id<J.length:=(ag.1 a).1;have W:j<cs.length:=(ag.1 F).1;have h:=s.update (w':=w) (J':=J.set id (.box T (cs.set j y))) (μ':=c) id Y (grownBy_refl w Y) (by simp) (by simp) (λk f=>bD (λe=>f e.symm)) (λk f=>rfl)
  (λb l=>.inl ⟨_,a,by simp,l⟩)
  (λb O v o d hd l hc N=>⟨hc,λo' R ac ha=>N ⟨id,o,d,l,by
   rw[a]at d;cases d;trivial⟩⟩)
  (λT' Q h=>by rw[a]at h;cases h;exact⟨⟨_,by rw[aN q]⟩,rfl⟩)
  (λK E es h=>by rw[a]at h;cases h)
  (λE sz M g' sh ys _ h=>by rw[aN q]at h;simp at h)
  (λD o d=>by
   rw[aN q]at d;simp only[aa]at d;subst d;obtain⟨b,us,L,H,U,I,C⟩:=s.obj id _ a;refine⟨b,us,L,H,U,by simpa using I,λk z g=>?_⟩;by_cases f:j=k;.subst f;rw[aN W]at g;simp only[aa]at g;subst g;obtain⟨u,r,m⟩:=C j x F;exact⟨u,r,(hv B p w c u s m).mono D⟩
   rw[bD f]at g;obtain⟨u,r,m⟩:=C k z g;exact⟨u,r,m.mono D⟩);exact⟨c,h.1,⟨t.1,λi x hx=>(t.2 i x hx).mono h.2⟩,h.2.dX.Rp⟩
def Wk.ES{P:bl}{n:Nat}{xs:ar}{J:ai}{id T j idr E sz by' g:Nat}{cs:ar}{rows:eJ}(b:J[id]?=some (.box T cs))(d:cs[j]?=some (.own idr g)) (a:J[idr]?=some (.row E sz by' g G rows)):Wk P n xs J xs (J.set id (.box T (cs.set j (.sl sz rows)))) :=
 Wk.cellS b d λB f w e v c h=>by rw[h.lP a];have:=VR.wY c a 0 (X rows) (by omega) (aB _);rw[E6 c a]at this;simpa using this
def jZ(k a b c:Nat)(K d B C:Ob):ai:=(((F.set a d).set b B).set c C).set k K
structure uV (J:ai) (k a b c:Nat):Prop where
 lk:k<J.length
 la:a<J.length
 lb:b<J.length
 lc:c<J.length
 nka:k≠a
 nkb:k≠b
 nkc:k≠c
 nab:a≠b
 nac:a≠c
 nbc:b≠c
section
variable {J:ai} {k a b c:Nat} {K Ax B C Xx:Ob} {l:ai} {j:Nat}
def nC:X (jZ J k a b c K Ax B C)=X J:=by simp[jZ]
def E9:(jZ J k a b c K Ax B C++l)[X J+j]?=l[j]?:=by rw[bB (by rw[nC];omega),nC];congr 1;omega
def E8:(jZ J k a b c K Ax B C++l).set (X J+j) Xx=jZ J k a b c K Ax B C++l.set j Xx:=by rw[ej _ _ (by rw[nC];omega),nC];congr 2;omega
def uV.gk0(h:uV J k a b c):(jZ J k a b c K Ax B C)[k]?=S K:=by rw[jZ,aN (by simpa using h.lk)]
def uV.ga0(h:uV J k a b c):(jZ J k a b c K Ax B C)[a]?=S Ax:=by rw[jZ,bD h.nka,bD h.nac.symm,bD h.nab.symm,aN h.la]
def uV.gb0(h:uV J k a b c):(jZ J k a b c K Ax B C)[b]?=S B:=by rw[jZ,bD h.nkb,bD h.nbc.symm,aN (by simpa using h.lb)]
def uV.gc0(h:uV J k a b c):(jZ J k a b c K Ax B C)[c]?=S C:=by rw[jZ,bD h.nkc,aN (by simpa using h.lc)]
def uV.sk0(_h:uV J k a b c):(jZ J k a b c K Ax B C).set k Xx=jZ J k a b c Xx Ax B C:=by simp[jZ]
def uV.sa0(h:uV J k a b c):(jZ J k a b c K Ax B C).set a Xx=jZ J k a b c K Xx B C:=by simp only[jZ];rw[o5 _ _ h.nka,o5 _ _ h.nac.symm,o5 _ _ h.nab.symm,lF]
def uV.sb0(h:uV J k a b c):(jZ J k a b c K Ax B C).set b Xx=jZ J k a b c K Ax Xx C:=by simp only[jZ];rw[o5 _ _ h.nkb,o5 _ _ h.nbc.symm,lF]
def uV.sc0(h:uV J k a b c):(jZ J k a b c K Ax B C).set c Xx=jZ J k a b c K Ax B Xx:=by simp only[jZ];rw[o5 _ _ h.nkc,lF]
def vJ{J l:ai}{k:Nat}{Xx:Ob}(h:J[k]?=S Xx):(J++l)[k]?=S Xx:=by rw[bc (ag.1 h).1,h]
def vI{J a l:ai}{k:Nat}{Xx:Ob}(b:k<X J)(h:J.set k Xx=a):(J++l).set k Xx=a++l:=by rw[iu _ _ b,h]
def uV.all(h:uV J k a b c):((∀K Ax B C,(jZ J k a b c K Ax B C)[k]?=S K)/\(∀K Ax B C,(jZ J k a b c K Ax B C)[a]?=S Ax)/\(∀K Ax B C,(jZ J k a b c K Ax B C)[b]?=S B)/\(∀K Ax B C,(jZ J k a b c K Ax B C)[c]?=S C)) /\((∀K Ax B C l,(jZ J k a b c K Ax B C++l)[k]?=S K)/\(∀K Ax B C l,(jZ J k a b c K Ax B C++l)[a]?=S Ax)/\(∀K Ax B C l,(jZ J k a b c K Ax B C++l)[b]?=S B)/\(∀K Ax B C l,(jZ J k a b c K Ax B C++l)[c]?=S C)) /\((∀K Ax B C Xx,(jZ J k a b c K Ax B C).set k Xx=jZ J k a b c Xx Ax B C)/\(∀K Ax B C Xx,(jZ J k a b c K Ax B C).set a Xx=jZ J k a b c K Xx B C)/\(∀K Ax B C Xx,(jZ J k a b c K Ax B C).set b Xx=jZ J k a b c K Ax Xx C)/\(∀K Ax B C Xx,(jZ J k a b c K Ax B C).set c Xx=jZ J k a b c K Ax B Xx)) /\((∀K Ax B C l Xx,(jZ J k a b c K Ax B C++l).set k Xx=jZ J k a b c Xx Ax B C++l)/\(∀K Ax B C l Xx,(jZ J k a b c K Ax B C++l).set a Xx=jZ J k a b c K Xx B C++l)/\(∀K Ax B C l Xx,(jZ J k a b c K Ax B C++l).set b Xx=jZ J k a b c K Ax Xx C++l)/\(∀K Ax B C l Xx,(jZ J k a b c K Ax B C++l).set c Xx=jZ J k a b c K Ax B Xx++l)) /\(∀K Ax B C,X (jZ J k a b c K Ax B C)=X J)/\(∀K Ax B C l,X (jZ J k a b c K Ax B C++l)=X J+X l) /\(∀K Ax B C l j,(jZ J k a b c K Ax B C++l)[X J+j]?=l[j]?)/\(∀K Ax B C l,(jZ J k a b c K Ax B C++l)[X J]?=l[0]?) /\(∀K Ax B C l j Xx,(jZ J k a b c K Ax B C++l).set (X J+j) Xx=jZ J k a b c K Ax B C++l.set j Xx)/\(∀K Ax B C l Xx,(jZ J k a b c K Ax B C++l).set (X J) Xx=jZ J k a b c K Ax B C++l.set 0 Xx) :=
 have L:∀{K Ax B C:Ob} {j:Nat},j<X J->j<X (jZ J k a b c K Ax B C):=λh=>by rw[nC];exact h
 ⟨⟨λ_ _ _ _=>h.gk0,λ_ _ _ _=>h.ga0,λ_ _ _ _=>h.gb0,λ_ _ _ _=>h.gc0⟩,⟨λ_ _ _ _ _=>vJ h.gk0,λ_ _ _ _ _=>vJ h.ga0,λ_ _ _ _ _=>vJ h.gb0,λ_ _ _ _ _=>vJ h.gc0⟩,
  ⟨λ_ _ _ _ _=>h.sk0,λ_ _ _ _ _=>h.sa0,λ_ _ _ _ _=>h.sb0,λ_ _ _ _ _=>h.sc0⟩,⟨λ_ _ _ _ _ _=>vI (L h.lk) h.sk0,λ_ _ _ _ _ _=>vI (L h.la) h.sa0,λ_ _ _ _ _ _=>vI (L h.lb) h.sb0,λ_ _ _ _ _ _=>vI (L h.lc) h.sc0⟩,
  λ_ _ _ _=>nC,λ_ _ _ _ _=>by rw[ae,nC],λ_ _ _ _ _ _=>E9,λ_ _ _ _ _=>E9 (j:=0),λ_ _ _ _ _ _ _=>E8,λ_ _ _ _ _ _=>E8 (j:=0)⟩
def qR{d l:ai}{k a b c:Nat}{K Ax B C:Ob}:jZ (d++l) (X d+k) (X d+a) (X d+b) (X d+c) K Ax B C=d++(((l.set a Ax).set b B).set c C).set k K:=by simp only[jZ,ji]
def mK(n:Nat):Ob->Prop|.box _ cs=>∀(j:Nat) (x:V),cs[j]?=S x->x.Lt n|_=>True
def E7{m p i l:Ob}(q:bW (jZ J k a b c m p i l))(t:mK (X J) K)(v:mK (X J) Ax)(u:mK (X J) B)(r:mK (X J) C):bW (jZ J k a b c K Ax B C):=by
 intro id T o d j x f;rw[nC];by_cases e:k=id
 .subst e;simp only[jZ,iT,aR,fw]at d;split at d;.simp only[aa]at d;subst d;exact t j x f
  cases d
 by_cases g:c=id
 .subst g;simp only[jZ,iT,e,aR,bo,fw]at d;split at d;.simp only[aa]at d;subst d;exact r j x f
  cases d
 by_cases h:b=id
 .subst h;simp only[jZ,iT,e,g,aR,bo,fw]at d;split at d;.simp only[aa]at d;subst d;exact u j x f
  cases d
 by_cases n:a=id
 .subst n;simp only[jZ,iT,e,h,g,aR,bo]at d;split at d;.simp only[aa]at d;subst d;exact v j x f
  cases d
 have s:(jZ J k a b c m p i l)[id]?=S (.box T o):=by simp only[jZ,iT,e,n,h,g,bo]at d |-;exact d
 have:=q id T o s j x f;rwa [nC]at this
end
variable{P:bl}
def kN.back{B:Nat}{Q w:bF}{J l:ai}{y:Mem}(bd:bW J)(D:kN P B Q w (J++l) y):kN P B Q w J y:=by
 have F:∀{id:Nat} {o:Ob},J[id]?=S o->id<X J/\(J++l)[id]?=S o:=by intro id o h;have C:=(ag.1 h).1;exact⟨C,by rw[bc C];exact h⟩
 have z:∀{x:V} {v:Value},VR w (J++l) y x v->x.Lt (X J)->VR w J y x v:=λh C=>by have:=h.take (m:=X J) (by simp) C;simpa using this
 refine⟨D.below,D.base,λid o O=>?_,λi j R oj b L q f d c a=>D.sep i j R oj b (F L).2 (F q).2 f d c a⟩;obtain⟨ac,I⟩:=F O;have M:=D.obj id o I;cases o with
 |dead=>trivial
 |box T U =>obtain⟨b,us,f,d,c,a,n⟩:=M;exact⟨b,us,f,d,c,a,λj x q=>let ⟨u,p,H⟩:=n j x q;⟨u,p,z H (bd id T U O j x q)⟩⟩
 |row E sz W g sh N =>obtain⟨f,s,d,c⟩:=M;exact⟨f,s,d,c.1,λi j x q=>let ⟨a,u,n,p⟩:=c.2 i j x q;⟨a,u,n,z p (mH a _)⟩⟩
 |map K E es =>obtain⟨r,t,clock,f,d,c,a⟩:=M;exact⟨r,t,clock,f,d,c,a.1,λi k x L=>let ⟨n,p,e,H,h8,h9⟩:=a.2.1 i k x L;⟨n,p,e,H,z h8 (yl n _),z h9 (yj p _)⟩,a.2.2⟩
inductive Bv (n k:Nat) (cs:ar):V->V->Prop
 |ptr (off:Nat):Bv n k cs (.ptr (n+k) off) (.ep cs.length [cs] 0 off)
 |dX (x:V) (h:x.Lt n):Bv n k cs x x
 |forget (x:V):Bv n k cs x .u
inductive Bvs (n k:Nat) (cs:ar):ar->ar->Prop
 |nil:Bvs n k cs [] []
 |cons {x y xs ys} (h:Bv n k cs x y) (t:Bvs n k cs xs ys):Bvs n k cs (x::xs) (y::ys)
def Bvs.at{n k:Nat}{e c a:ar}(h:Bvs n k e c a):X a=X c/\∀(i:Nat) (x y:V),c[i]?=S x->a[i]?=S y->Bv n k e x y:=by
 induction h with
 |nil=>simp
 |cons h t ih =>refine⟨by simp[ih.1],λi x y d b=>?_⟩;cases i with|zero=>simp only[aG,aa]at d b;subst d;subst b;exact h|succ i=>exact ih.2 i x y (by simpa using d) (by simpa using b)
def Wk.apM{n T:Nat}{l ys cs:ar}{J d:ai}(k:Nat)(hn:n<=X J)(bd:bW J)(hk:d[k]?=S (.box T cs))(N:∀c∈cs,c.pure=G)(W:Bvs (X J) k cs l ys):Wk P n l (J++d) ys J:=by
 intro B w0 w μ vs E I;have q:∀{x:V} {v:Value},VR w (J++d) μ x v->x.Lt (X J)->VR w J μ x v:=λh e=>by have:=h.take (m:=X J) (by simp) e;simpa using this
 obtain⟨H,D⟩:=W.at;refine⟨μ,E.back bd,⟨by rw[H];exact I.1,λi y O=>?_⟩,λx v f e=>q f (e.mono hn)⟩;have oT:i<X l:=by rw[<- H];exact(ag.1 O).1
 have r:=aA oT;have f:=I.2 i _ r;generalize l[i]=x at r f;have hm:=D i x y r O;cases hm with
 |dX _ h=>exact q f h
 |forget _=>exact .u _
 |ptr C =>
 obtain⟨b,Q,t,_⟩:=f.vn;have g:(J++d)[X J+k]?=S (.box T cs):=by rw[bB (by omega),dD];exact hk
 obtain⟨b',s,z,h2,U,h4,M⟩:=E.obj _ _ g;rw[Q]at z;simp only[Value.pointer.injEq,aa,Addr.mk.injEq,dm]at z;subst z;rw[t];have F:∀j x,gi [cs] 0 j=S x->cs[j]?=S x:=λj x h=>by simpa[gi]using h
 have:=VR.ep (w:=w) (J:=J) (μ:=μ) (X cs) [cs] 0 C b 0 (λj=>s.getD j undef) (by simp) (by simp) (λj x a=>by
   have a:=F j x a;obtain⟨u,p,L⟩:=M j x a;refine⟨?_,?_,N x (bn a)⟩
   .have:s.getD j undef=u:=by simp[cC,p]
    rw[this];simp[World.cell?,U,p]
   rintro⟨id,o,K,q2,R⟩;have e:=(ag.1 K).1;have:=E.sep id (X J+k) o (.box T cs) b (by rw[bc e];exact K) g (by rintro rfl;exact R) (by simp) q2 (by simp[Q,l9]);omega)
  (λj x a=>by
   have a:=F j x a;obtain⟨u,p,L⟩:=M j x a;have:s.getD j undef=u:=by simp[cC,p]
   rw[this];exact q L (mH (N x (bn a)) _));simpa using this
end Go.Pm
namespace Go.Pm
open Go
variable(T:Nat){D:List (Nat×fu)}{U:Nat}{p:Pi}{R:St}{Q:bG}{H M L:bK}{P:bl}
inductive Q4:bK->bK->bK->Prop
 |cM (a b:bK):Q4 (.seq a b) a b
 |more {a b c r:bK} (h:Q4 b c r):Q4 (.seq a b) (.seq a c) r
def cD.akc(d:Q4 H M L):∀{a:St},DV U P M (Fp (cD U P L Q) Q) a->cD U P H Q a:=by
 induction d with
 |cM M L =>intro a h;refine cD.seq (cD.mono (an h) λe c b=>?_);cases e<;>exact b
 |more _ ih =>intro a h;simp only[DV]at h;refine cD.seq (cD.mono (an h) λe c b=>?_);cases e with|normal=>exact ih b|_=>exact b
def cD.cutAt(c:Q4 H M L)(h:∀a:bU,(∀b,cD U P L Q b->a b)->DV U P M (Fp a Q) R):cD U P H Q R :=cD.akc c (h _ λ_ h=>h)
open Go.RowKit
def Wk.qM{P:bl}{n:Nat}{xs:ar}{J loc:ai}{E sz by' g:Nat}{sh:Bool}{rows:eJ}(a:loc[T]?=S (.row E sz by' g sh rows)):
  Wk P n xs (J++loc) (xs.map (Pm.fz (X J+T) g sz rows)) (J++loc.set T (.row E sz by' g G rows)):=by have:=Wk.fz (P:=P) (n:=n) (xs:=xs) (J:=J++loc) (X J+T) (by rw[jE];exact a);rwa [ji]at this
def Xp{D:List (Nat×fu)}(h:∀e∈D,e.2=[])(t:Nat):tf D t=[]:=by
 rcases yp (D:=D) (t:=t)with a|a;.exact a
 exact h _ a
def JZ(h:∀e∈D,e.2=[])(b:p.g=[]):PE D p=G:=by
 simp only[PE,b,Xp h,List.getLast?_nil,aV,dd];refine⟨⟨λ_ _=>rfl,trivial⟩,?_⟩;split;.rfl
 simp only[H5,cN,dd];intro e c q a;rw[h e c]at a;simp at a
def QZ(h:∀e∈D,e.2=[])(b:p.g=[]):∀e∈acU D p,e.2=[]:=by
 intro e a;simp only[acU]at a;split at a
 .rcases bw.1 a with rfl|a;.exact b
  exact h e a
 exact h e a
def MI:∀(a:List Pi) (D:List (Nat×fu)),(∀e∈D,e.2=[])->(∀p∈a,p.g=[])->IF D a []=G|[],D,h,_=>by simp only[IF,dd];intro e c;rw[h e c];rfl|p::a,D,h,hp=>by simp only[IF,aV];exact⟨JZ h (hp p (by simp)),MI a _ (QZ h (hp p (by simp))) λq b=>hp q (by simp[b])⟩
def OJ{P:bl}{ops:Array Oper}{n B:Nat}{w0 ws:bF}{σs:ai}{μs:Mem}{K:bU}{Q:Exit->Act->bF->Prop}{bs:List Pi}(L:∀p∈bs,p.g=[]) (V:∀e w c a,K e->kN P B w0 w e.J c->FR w e.J c e.fr a->iL n ws σs μs w e.J c->Q .normal a w) : ∀(l:List Oper) (k:Nat) (i:List Pi) (z:ar) (J:ai) (w:bF) (c:Mem) (a:Act),(∀j,l[j]?=ops[k+j]?)->sU P ops l=S (i++bs)->(∀p∈i,p.g=[]) ->mG P [] i (λe=>∃b h,Wk P n e.fr e.J b h/\mG P [] bs K ⟨b,h⟩) ⟨z,J⟩->kN P B w0 w J c->FR w J c z a->iL n ws σs μs w J c ->wpOps P ops Q ((List.range (X l)).map (k+·)) a w:=by
 intro l k i;induction i generalizing l k with
 |nil =>intro z J w c a v f _ t H s E;obtain⟨b,h,O,t⟩:=t;obtain⟨d,F,u,y⟩:=O B w0 w c a.tmps H ⟨s.2.1.symm,s.2.2⟩;have D:FR w h d b a:=⟨s.1,u.1.symm,u.2⟩;exact zH V l k bs [] b h w d a v f (MI bs [] (by simp) L) t F D.toI (E.trans y)
 |cons p i ih =>
 intro z J w c a v f I t H s E;cases l with
 |nil=>simp[sU]at f
 |cons o l =>
 simp only[sU]at f;split at f<;>simp only[aa,reduceCtorEq,aF,gQ]at f;rename_i p' qs hp C;obtain⟨rfl,rfl⟩:=f;have R:ops[k]?=S o:=by have:=v 0;simpa using this.symm
 have T:(List.range (X (o::l))).map (k+·)=k::(List.range (X l)).map (k+1+·):=by rw[ah,tV,az,kO];simp only[cg];congr 1;apply eH;intro x _;simp only[Function.comp];omega
 rw[T];simp only[wpOps,R];have m:=I p' (by simp);refine opG hp H s.toI (Gu (JZ (by simp) m)) t ?_;intro r h d M U F u y N;rw[BQ]at y;have h5:=y.ends (gs:=[]) (MI [] _ (QZ (by simp) m) (by simp));exact ih l (k+1) _ h U d M (λj=>by have:=v (j+1);rw[cA]at this;rw[this];congr 1;omega) C (λq W=>I q (by simp[W])) F u h5 (E.trans N.Rp)
def cD.aqM{n:Nat}{P:bl}{K:bG}{d:List Pi}(s:∀p∈d,p.g=[]) (h:∀b:bU,(∀o J c i,Wk P n o J c i->mG P [] (d.drop T) (K .normal) ⟨c,i⟩->b ⟨o,J⟩)->mG P [] (d.take T) b R):cD n P (.pF [] d) K R:=by
 intro e f;cases e;case region id ops draw =>
  cases draw
  .simp only[iC]at f;obtain⟨D,x,F,t⟩:=ln f;simp only[bK.pF.injEq]at t;obtain⟨_,rfl⟩:=t;intro B w0 w j a z v;refine wp_region ?_;have:=OJ (P:=P) (ops:=ops) (n:=n) (B:=B) (w0:=w0) (ws:=w) (σs:=R.J) (μs:=j) (K:=K .normal) (Q:=apP P n B w0 w R.J j K) (bs:=d.drop T) (λp q=>s p (dR q))
    (λr C m E l k y u=>⟨r,m,l,k,y,u⟩) ops.toList 0 (d.take T) R.fr R.J w j a (λT=>by simp) (by rw[eU];exact x) (λp q=>s p (dB q))
    (h _ λo J c i l k=>⟨c,i,l,k⟩) z v (iL.refl _ _ _ _);simp only[aP,List.map_id',aU]at this;exact this
  simp only[iC]at f;rcases jY f with⟨_,_,_,_,h,_⟩|⟨_,_,h,_⟩|⟨_,_,_,_,_,_,h,_⟩<;>simp at h
 all_goals first|(exfalso;revert f;simp only[iC];try ((repeat' split)<;>simp);done)
def Wk.ak1{xs:ar}{J:ai}{id E sz by' g c:Nat}{a:eJ}(m:J[id]?=S (.row E sz by' g Z a))(j:Nat)(hj:xs[j]?=S (.sub id g 0 c)): Wk P U xs J (xs.set j (.own id (g+1))) (J.set id (.row E sz by' (g+1) Z (a.take c))):=by
 intro B w0 w μ vs hS z;have M:id<J.length:=(ag.1 m).1;have hv:=z.2 j _ hj;obtain⟨_,Ra,N⟩:=hv.tj m;have D:(a.take c).length=c:=by simp;omega
 have W:=hS.obj id _ m;have L:=hS.update (w':=w) (J':=J.set id (.row E sz by' (g+1) Z (a.take c))) (μ':=xX μ id (nO (μ id) 0 c sz)) id Y (grownBy_refl w Y) (by simp) (by simp) (λk y=>bD (λe=>y e.symm)) (λk y=>uf _ _ _ _ y)
  (λb f=>by
   rw[gy]at f;refine .inl ⟨_,m,by simp,?_⟩;obtain⟨_,l,⟨_,H⟩,_⟩:=W;rcases H with⟨p,_⟩|⟨b2,t,v,p,_⟩;.rw[p]at f;simp only[nO]at f;split at f<;>simp[l9]at f
   rw[p]at f |-;simp only[nO]at f;split at f<;>simpa[l9,Addr.add_lit]using f)
  (λb af u o d _ q I s=>absurd ⟨id,o,d,q,by rw[m]at d;simp only[aa]at d;subst d;intro hf;simp at hf⟩ s)
  (λT cs h=>by rw[m]at h;simp at h) (λK E es h=>by rw[m]at h;simp at h)
  (λE2 ac ap g2 am ad _ h=>by
   simp only[aN M,aa,Ob.row.injEq]at h;obtain⟨rfl,rfl,rfl,rfl,rfl,rfl⟩:=h;exact⟨g,Z,a,m,by omega,λe=>by omega⟩)
  (λhp o h=>by
   simp only[aN M,aa]at h;subst h;rw[gy];obtain⟨hT,l,⟨hl,H⟩,R,hr⟩:=W;have O:c*sz<=a.length*sz:=bS _ Ra;refine⟨hT,l.take (c*sz),⟨by rw[D,aX,hl];omega,?_⟩,λr C=>R r (dB C),λi k x n=>?_⟩
   .rw[D];rcases H with⟨p,hn⟩|⟨b,t,v,p,d,q,I,s,F,h6⟩
    .have:c=0:=by omega
     subst this;exact .inl ⟨by rw[p];simp[nO],rfl⟩
    refine .inr ⟨b,t,v,?_,d,q,by omega,s,F,?_⟩;.rw[p];simp only[nO,yP];split<;>simp[Addr.add_lit]
    rw[<- h6,mL,fi O]
   obtain⟨r,d,q⟩:=jV n;have Q:i<c:=by have:=(ag.1 d).1;rw[D]at this;exact this
   rw[cn Q]at d;obtain⟨I,u,s,F⟩:=hr i k x (by rw[sG d];exact q);refine⟨I,u,?_,F.mono hp⟩;have y:k<sz:=by rw[<- R r (bn d)];exact(ag.1 q).1
   rw[cn ?_];.exact s
   have:(i+1)*sz<=c*sz:=bS _ Q;rw[du,iQ]at this;omega);refine⟨_,L.1,⟨by simp[z.1],λi x n=>?_⟩,L.2.dX.Rp⟩;by_cases V:j=i;.subst V;rw[aN (ag.1 hj).1]at n;simp only[aa]at n;subst n;rw[N];have:=VR.qT (w:=w) (J:=J.set id (.row E sz by' (g+1) Z (a.take c))) (μ:=xX μ id (nO (μ id) 0 c sz)) (id:=id) (E:=E) (sz:=sz) (by':=by') (g:=g+1) (sh:=Z) (xs:=a.take c) (aN M);rwa [gy]at this
 rw[bD V]at n;exact(z.2 i x n).mono L.2
def itT{a b:Prop}:((G=G->a)/\(G=Z->b))=a:=by simp
def itF{a b:Prop}:((Z=G->a)/\(Z=Z->b))=b:=by simp
def IT:=ay @itT @itF
def bb:(G==G)=G/\(Z==G)=Z/\(G==Z)=Z/\(Z==Z)=G:=⟨rfl,rfl,rfl,rfl⟩
def st2(J:ai)(k b:Nat)(K B:Ob):ai:=(J.set b B).set k K
structure Pl2 (J:ai) (k b:Nat):Prop where
 lk:k<J.length
 lb:b<J.length
 ne:k≠b
section
variable {J:ai} {k b:Nat}
def rm{K B:Ob}:X (st2 J k b K B)=X J:=by simp[st2]
def Pl2.all(h:Pl2 J k b):((∀K B,(st2 J k b K B)[k]?=S K)/\(∀K B,(st2 J k b K B)[b]?=S B)/\(∀K B l,(st2 J k b K B++l)[k]?=S K)/\(∀K B l,(st2 J k b K B++l)[b]?=S B)) /\((∀K B a,(st2 J k b K B).set k a=st2 J k b a B)/\(∀K B a,(st2 J k b K B).set b a=st2 J k b K a)/\(∀K B l a,(st2 J k b K B++l).set k a=st2 J k b a B++l)/\(∀K B l a,(st2 J k b K B++l).set b a=st2 J k b K a++l)) /\(∀K B,X (st2 J k b K B)=X J)/\(∀K B l,X (st2 J k b K B++l)=X J+X l) /\(∀K B l j,(st2 J k b K B++l)[X J+j]?=l[j]?)/\(∀K B l,(st2 J k b K B++l)[X J]?=l[0]?) /\(∀K B l j a,(st2 J k b K B++l).set (X J+j) a=st2 J k b K B++l.set j a)/\(∀K B l a,(st2 J k b K B++l).set (X J) a=st2 J k b K B++l.set 0 a):=by
 have L:∀{K B:Ob} {j:Nat},j<X J->j<X (st2 J k b K B):=λh=>by rw[rm];exact h
 have i:∀K B,(st2 J k b K B)[k]?=S K:=λK B=>by rw[st2,aN (by simpa using h.lk)]
 have f:∀K B,(st2 J k b K B)[b]?=S B:=λK B=>by rw[st2,bD h.ne,aN h.lb]
 have c:∀K B a,(st2 J k b K B).set k a=st2 J k b a B:=λK B a=>by simp[st2]
 have g:∀K B a,(st2 J k b K B).set b a=st2 J k b K a:=λK B a=>by simp only[st2];rw[o5 _ _ h.ne,lF]
 have d:∀K B l j,(st2 J k b K B++l)[X J+j]?=l[j]?:=λK B l j=>by rw[bB (by rw[rm];omega),rm];congr 1;omega
 have e:∀K B l j a,(st2 J k b K B++l).set (X J+j) a=st2 J k b K B++l.set j a:=λK B l j a=>by rw[ej _ _ (by rw[rm];omega),rm];congr 2;omega
 exact⟨⟨i,f,λK B l=>vJ (i K B),λK B l=>vJ (f K B)⟩,⟨c,g,λK B l a=>vI (L h.lk) (c K B a),λK B l a=>vI (L h.lb) (g K B a)⟩,
  λ_ _=>rm,λ_ _ _=>by rw[ae,rm],d,λK B l=>d K B l 0,e,λK B l a=>e K B l 0 a⟩
def at1{a:Nat}(h:a<X J):((∀b,(J.set a b)[a]?=S b)/\(∀b l,(J.set a b++l)[a]?=S b)/\(∀b c,(J.set a b).set a c=J.set a c)/\(∀b c l,(J.set a b++l).set a c=J.set a c++l)) /\(∀b,X (J.set a b)=X J)/\(∀b l,X (J.set a b++l)=X J+X l) /\(∀b l j,(J.set a b++l)[X J+j]?=l[j]?)/\(∀b l,(J.set a b++l)[X J]?=l[0]?) /\(∀b l j c,(J.set a b++l).set (X J+j) c=J.set a b++l.set j c)/\(∀b l c,(J.set a b++l).set (X J) c=J.set a b++l.set 0 c):=by
 have g:∀b,(J.set a b)[a]?=S b:=λb=>aN h;have s:∀b c,(J.set a b).set a c=J.set a c:=λb c=>by simp
 have d:∀b l j,(J.set a b++l)[X J+j]?=l[j]?:=λb l j=>by rw[bB (by simp),fw];congr 1;omega
 have e:∀b l j c,(J.set a b++l).set (X J+j) c=J.set a b++l.set j c:=λb l j c=>by rw[ej _ _ (by simp),fw];congr 2;omega
 exact⟨⟨g,λb l=>vJ (g b),s,λb c l=>vI (by simpa using h) (s b c)⟩,λb=>fw ..,λb l=>by simp,d,λb l=>d b l 0,e,λb l c=>e b l 0 c⟩
end
end Go.Pm
namespace Go.Bt
open Go Go.Pm
section
variable {α β:Type} [DecidableEq α]
def tv(a:α):List (α×β)->Nat->Option (Nat×β)|[],_=>Y|p::l,k=>if a=p.1 then S (k,p.2)else tv a l (k+1)
def jo(a:α)(l:List (α×β)):Option β:=(tv a l 0).map (·.2)
def mN(l:List (α×β))(a:α)(b:β):List (α×β) :=
 match l with|[]=>[(a,b)]|p::l=>if a=p.1 then(a,b)::l else p::mN l a b
def emap(ke:α->V)(ve:β->V)(l:List (α×β)):List (V×V):=l.map λp=>(ke p.1,ve p.2)
def xy(a:α):∀(l:List (α×β)) (k:Nat),(tv a l k).map (·.2)=jo a l
 |[],_=>rfl
 |p::l,k=>by
  simp only[jo,tv];split;.rfl
  rw[xy a l (k+1),xy a l (0+1)]
def pw(a:α):jo a ([]:List (α×β))=Y:=rfl
def oU(a:α)(p:α×β)(l:List (α×β)):jo a (p::l)=if a=p.1 then S p.2 else jo a l:=by
 simp only[jo,tv];split;.rfl
 rw[xy a l (0+1)];rfl
def uN(l:List (α×β))(a:α)(b:β)(x:α):jo x (mN l a b)=if x=a then S b else jo x l:=by
 induction l with
 |nil=>simp only[mN,oU,pw]
 |cons p l ih =>
 simp only[mN];split
 .rename_i h;simp only[oU];by_cases c:x=a;.simp[c]
  have:¬x=p.1:=λd=>c (d.trans h.symm);simp[c,this]
 rename_i h;simp only[oU,ih];by_cases c:x=p.1
 .have:¬x=a:=λd=>h (d.symm.trans c);simp only[this,bo,c,aR];split;.rename_i e;exact absurd e.symm h
  rfl
 simp[c]
def Ol(l:List (α×β))(a:α)(b:β):X (mN l a b)<=X l+1:=by induction l with|nil=>simp[mN]|cons p l ih =>simp only[mN];split<;>simp<;>omega
def V0{l:List (α×β)}{a:α}{b:β}(h:jo a l=Y):mN l a b=l++[(a,b)]:=by
 induction l with
 |nil=>rfl
 |cons p l ih =>
 rw[oU]at h;split at h;.simp at h
 rename_i c;simp only[mN,c,bo,aF];rw[ih h]
variable {kd:Nat} {ke:α->V} {ve:β->V}
def zX(c:∀a b,ez kd (ke a) (ke b)=S (decide (a=b)))(a:α):∀(l:List (α×β)) (k:Nat),jA kd (ke a) (emap ke ve l) k=S ((tv a l k).map λp=>(p.1,ve p.2))
 |[],k=>rfl
 |p::l,k=>by
  have ih:=zX c a l (k+1);simp only[emap,az,jA,c,tv]at ih |-;by_cases h:a=p.1;.simp[h]
  simp only[h,dZ,bo];exact ih
def Qv(a:α)(b:β):∀(l:List (α×β)) (k i:Nat) (c:β),tv a l k=S (k+i,c)->(emap ke ve l).set i (ke a,ve b)=emap ke ve (mN l a b)
 |[],k,i,c,h=>by simp[tv]at h
 |p::l,k,i,c,h=>by
  simp only[tv]at h;by_cases d:a=p.1
  .simp only[d,aR,aa,aY]at h;have:i=0:=by omega
   subst this;simp[emap,mN,d]
  simp only[d,bo]at h;have e:∃j,i=j+1:=by
   refine⟨i - 1,?_⟩;have:∀(l:List (α×β)) (k n:Nat) (x:β),tv a l k=S (n,x)->k<=n:=by
    intro l;induction l with
    |nil=>intro k n x h;simp[tv]at h
    |cons q l ih =>
    intro k n x h;simp only[tv]at h;split at h;.simp at h;omega
    have:=ih _ _ _ h;omega
   have:=this _ _ _ _ h;omega
  obtain⟨j,rfl⟩:=e;have:=Qv a b l (k+1) j c (by rw[h];congr 2;omega);simp only[emap,az,cH,mN,d,bo]at this |-;rw[this]
def zZ(d:∀a b,ez kd (ke a) (ke b)=S (decide (a=b)))(l:List (α×β))(a:α): (jo a l=Y/\jA kd (ke a) (emap ke ve l) 0=S Y/\∀b,emap ke ve l++[(ke a,ve b)]=emap ke ve (mN l a b)) \/(∃i c,jo a l=S c/\jA kd (ke a) (emap ke ve l) 0=S (S (i,ve c))/\∀b,(emap ke ve l).set i (ke a,ve b)=emap ke ve (mN l a b)):=by
 cases h:tv a l 0 with
 |none =>
  have e:jo a l=Y:=by simp[jo,h]
  refine .inl ⟨e,by rw[zX d,h];rfl,λb=>?_⟩;rw[V0 e];simp[emap]
 |some p =>obtain⟨i,c⟩:=p;refine .inr ⟨i,c,by simp[jo,h],by rw[zX d,h];rfl,λb=>?_⟩;exact Qv a b l 0 i c (by rw[h];congr 2;omega)
end
variable(U:Int)
def keI:V:=.i .i64 U
def keS(s:aL):V:=.s s
def aa1(b:Int):ez 0 (keI U) (keI b)=S (decide (U=b)):=by simp[ez,keI];rfl
def aiS(a b:aL):ez 1 (keS a) (keS b)=S (decide (a=b)):=by simp only[ez,keS,aa];rw[ei];simp
